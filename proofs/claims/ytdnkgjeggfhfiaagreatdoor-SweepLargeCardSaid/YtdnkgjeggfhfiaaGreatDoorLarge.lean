/- The law SweepLarge holds (its card: math/bits' table as the program's text lays it): for every input the Go function returns true and leaves its arguments alone. No further condition. -/
import Derived.Test.YtdnkgjeggfhfiaaGreatDoorW2
import Derived.Test.YtdnkgjeggfhfiaaGreatDoorQ
import Derived.Test.YtdnkgjeggfhfiaaGreatDoorA
import Derived.Test.YtdnkgjeggfhfiaaGreatDoorCards
import Derived.Test.YtdnkgjeggfhfiaaGreatDoorTie
import Derived.WalkKit
import Derived.ProofKit
import Derived.OpenShut
import Derived.Deep.DeepHandedRow
import Derived.Lib.LaidTab
set_option linter.all false
set_option maxRecDepth 8000
set_option maxHeartbeats 4000000
namespace Go.Sh

theorem mkOf_first {S T : HS} {bl : Nat} {n c : Int} {np : Bool} {I : SI} (hF : First T bl n c np) (hsp : S.sp 1 = some (bl, I)) (hown : S.own = T.own) (hb : I.base = 512 * 8192) (hok : SpOk I) (hp : I.pages = n) {k : Nat} {o : Int} (hk : (k : Int) < I.slots) (h0 : 0 ≤ o) (h1 : o < I.elem) :
    mkOf S (512 * 8192 + k * I.elem + o) = some (1, k) := by
  have hsz := hok.size
  have e1 : ((k : Int) + 1) * I.elem ≤ I.slots * I.elem := Int.mul_le_mul_of_nonneg_right (by omega) (by omega)
  have e2 : ((k : Int) + 1) * I.elem = k * I.elem + I.elem := by rw [Int.add_mul, Int.one_mul]
  have e3 : 0 ≤ (k : Int) * I.elem := Int.mul_nonneg (by omega) (by omega)
  have e4 := hsz.2.2.2.2
  rw [Int.mul_comm I.elem, hp] at e4
  unfold mkOf
  have ho : S.own ((512 * 8192 + k * I.elem + o) / 8192) = 1 := by rw [hown, hF.own, if_pos (by omega)]
  rw [ho, hsp]
  simp only
  rw [hb, if_pos (by omega)]
  congr 2
  rw [show 512 * 8192 + (k : Int) * I.elem + o - 512 * 8192 = o + k * I.elem by omega, Int.add_mul_ediv_right _ _ (by omega), Int.ediv_eq_zero_of_lt h0 h1]
  omega

section
variable {E : Env} {w : World} {Rs Z : List Pr} (hE : EnvW E)
include hE

end
end Go.Sh


set_option linter.all false
set_option maxRecDepth 8000
set_option maxHeartbeats 4000000
namespace Go.Sh

section
variable {E : Env} {w : World} {Z : List Pr} {b h s r : Nat} {W : SW} {U M : Bits}

theorem swpages_spec (H : Sat (SweepP E b h s r W :: Z) w) (hI : SwInv W U M) {K : Int → Int → Int → World → Prop} (hK : ∀ w', Sat (SweepP E b h s r W :: Z) w' → K (cP W.S.T.inn) W.S.pages (cP W.S.gone) w') : F.mheap_Heap_Pages E (some ⟨h, 0, none⟩) K w := by
  obtain ⟨R, HH, hz, hb⟩ := H.swHeap
  exact hpages_spec HH hI.hI fun w' H' => hK w' (hb H')

theorem OneR.run {id : Int} {keep : Bool} {n : Nat} {gone : Bool} {W' : SW} {U' M' : Bits} (h : OneR W U M id keep n gone W' U' M') (hR : W.R = []) {x : Nat × SI} (hx : W.S.sp id = some x) :
    n = cN (fun i => U id i && !M id i) x.2.slots.toNat ∧ U' = U.set id (fun i => U id i && M id i) ∧ M' = M.set id none1 ∧ ∃ uw, ∃ W1 : SW, W1 = { W with S := W.S.put id (x.1, keptI x.2 uw fun i => U id i && M id i), freed := u64 (W.freed + n), repaid := u64 (W.repaid + x.2.pages) } ∧
    ((keep = true ∧ ((cN (fun i => U id i && M id i) x.2.slots.toNat : Nat) : Int) < x.2.slots ∧ gone = false ∧ W' = W1) ∨
     (¬ (keep = true ∧ ((cN (fun i => U id i && M id i) x.2.slots.toNat : Nat) : Int) < x.2.slots) ∧ cN (fun i => U id i && M id i) x.2.slots.toNat = 0 ∧ gone = true ∧ ∃ a : Nat, id = (a : Int) + 1 ∧ W' = { W1 with S := W1.S.free a (x.2.base / 8192) x.2.pages }) ∨
     (¬ (keep = true ∧ ((cN (fun i => U id i && M id i) x.2.slots.toNat : Nat) : Int) < x.2.slots) ∧ cN (fun i => U id i && M id i) x.2.slots.toNat ≠ 0 ∧ gone = false ∧ ∃ blk, W' = { W1 with L := insB W.L ⟨blk, id, x.2.base, (x.2.cls, x.2.noptr, ((cN (fun i => U id i && M id i) x.2.slots.toNat : Nat) : Int) == x.2.slots, true)⟩ })) := by
  obtain ⟨y, t, uw, hy, hz, ht, hn, hU, hM, W1, hW1, hc⟩ := h
  rw [hx] at hy
  cases hy
  rw [hR, spRun_none (by intro k hk z hz; cases hz)] at ht
  subst ht
  refine ⟨hn, hU, hM, uw, W1, ?_, hc⟩
  rw [hW1, hR]

variable (hE : EnvW E)
include hE

theorem large_spec (hT : TabAt E.g_math_bits_deBruijn64tab w) {a0 a2 : Int} {a1 : Bool} (h2 : 0 ≤ a2 ∧ a2 < 18446744073709551616) {K : Bool → World → Prop} (hK : ∀ w', Ext Nothing w w' → K true w') : F.mallowlaw18_SweepLarge E a0 a1 a2 K w := by
  unfold F.mallowlaw18_SweepLarge T0.mallowlaw18_SweepLarge
  have H2 := Sat.start w
  have hT' : ∀ w', Sat [Old w] w' → TabAt E.g_math_bits_deBruijn64tab w' := fun w' h => hT.ext (h.old 0 rfl)
  have haw : ∀ {w'}, Sat [Old w] w' → F.mallowlaw18_awake E (fun r6 w7 => K r6 w7) w' := fun h' => awake18_spec hE hT' h' fun w7 H7 => hK w7 (H7.old 0 rfl)
  refine JOIN_in (CND_dec (fun _ j => CND_t rfl (hK w (Ext.refl _ _))) fun g1 j => CND_dec (fun _ => hK w (Ext.refl _ _)) fun g2 => ?_)
  have hbad : ¬ spBad 0 a0 0 := spOk0 (by omega) (by omega)
  refine fresh18_spec (hS := hE.toEnvS) H2 fun b h s r w14 H14 => CND_f rfl (swheap_spec H14 ?_)
  refine swfirst_spec hE hT' H14 (by omega) (by omega) hbad fun bl T hF hI w21 H21 => swheap_spec H21 ?_
  refine swspan_spec H21 (fun hn => by rw [show (SW.new T).S.sp 1 = some _ from hF.sp] at hn; cases hn) fun y hy => ?_
  rw [show (SW.new T).S.sp 1 = some _ from hF.sp] at hy
  cases hy
  refine JOIN_in (CND_f rfl fun j => CND_f rfl ?_)
  obtain ⟨I, hIe⟩ : ∃ I, I = spOf 512 a0 0 false := ⟨_, rfl⟩
  have hok : SpOk I := by rw [hIe]; exact (hI.sp 1 _ hF.sp).1
  have hsl : I.slots = 1 := by rw [hIe]; rfl
  have hel : I.elem = a0 * 8192 := by rw [hIe]; rfl
  have hI0 : T.put 1 (bl, tookI I [] 0) = T := by rw [hIe, tookI_zero]; exact HS.put_self hF.sp
  have hB0 : bits0.set 1 (ltU 0) = bits0 := by rw [ltU_zero, bits0_set]
  have H22 : Sat [SweepP E b h s r (SW.new (T.put 1 (bl, tookI I [] 0))), Old w] w21 := by rw [hI0]; exact H21
  have hI1 : SwInv (SW.new (T.put 1 (bl, tookI I [] 0))) (bits0.set 1 (ltU 0)) bits0 := by rw [hI0, hB0]; exact hI
  refine swtake1_spec hT' H22 hI1 (by rw [hsl]; decide) fun uw hIi w29 H31 => ?_
  obtain ⟨J, hJ⟩ : ∃ J, J = tookI I uw (0 + 1) := ⟨_, rfl⟩
  obtain ⟨S1, hS1⟩ : ∃ S1, S1 = T.put 1 (bl, J) := ⟨_, rfl⟩
  have H31 : Sat [SweepP E b h s r ⟨S1, [], [], [], 0, 0, 0, 0⟩, Old w] w29 := by rw [hS1, hJ]; exact H31
  have hIi : SwInv ⟨S1, [], [], [], 0, 0, 0, 0⟩ (bits0.set 1 (ltU 1)) bits0 := by rw [hS1, hJ]; exact hIi
  have hsp1 : S1.sp 1 = some (bl, J) := by rw [hS1]; exact HS.put_sp
  have hJf : J.base = 512 * 8192 ∧ J.slots = 1 ∧ J.elem = a0 * 8192 ∧ J.pages = a0 := by rw [hJ]; exact ⟨by rw [hIe]; rfl, hsl, hel, by rw [hIe]; rfl⟩
  obtain ⟨j1, j2, j3, j5⟩ := hJf
  have hokJ : SpOk J := (hIi.sp 1 _ hsp1).1
  have hown1 : S1.own = T.own := by rw [hS1]; rfl
  refine swinfo_spec H31 hsp1 fun w46 H46 => ?_
  rw [j1]
  have hm0 : 0 ≤ a2 % (a0 * 8192) ∧ a2 % (a0 * 8192) < a0 * 8192 := ⟨Int.emod_nonneg _ (by omega), Int.emod_lt_of_pos _ (by omega)⟩
  refine JOIN_intro (fun st w' => ∃ as_ : List Int, as_.length = st.1.len ∧ st.1.len ≤ 1 ∧ (∀ a ∈ as_, a1 = true ∧ a = 512 * 8192 + a2 % (a0 * 8192)) ∧ (a1 = true → as_ = [512 * 8192 + a2 % (a0 * 8192)]) ∧ Sat [SweepP E b h s r ⟨S1, [], [], [], 0, 0, 0, 0⟩, Row E.t_uint64 1 st.1 (ints .u64 as_), Old w] w') ?_ ?_
  · cases hm : a1 with
    | false => exact CND_f rfl ⟨[], rfl, by decide, fun a ha => (by cases ha), fun h => (by cases h), ((H46.nil E.t_uint64 1).front 1 rfl)⟩
    | true =>
      rw [u64_id (n := a0 * 8192) (by omega) (by omega)]
      refine CND_t rfl ⟨by omega, ?_⟩
      rw [Int.tmod_eq_emod_of_nonneg h2.1, u64_id (by omega) (by omega)]
      refine AL_cells (vs := [.int .u64 (512 * 8192 + a2 % (a0 * 8192))]) H46 fun b37 w38 H38 _ => ?_
      refine APP_one (s := ⟨none, 0, 0⟩) (vs := []) (zs := #[.int .u64 0]) (bytes := 8) ((H38.nil E.t_uint64 1).front 1 rfl) rfl rfl (by simp [Value.oneCell']) (by decide) (by decide) fun s39 w40 H40 hl40 => ?_
      exact ⟨[512 * 8192 + a2 % (a0 * 8192)], by rw [hl40]; rfl, by rw [hl40]; decide, fun a ha => ⟨rfl, by simpa using ha⟩, fun _ => rfl, H40.front 1 rfl⟩
  · rintro ⟨s35, u⟩ _ w36 ⟨as_, hl, hl2, has, has2, H36⟩
    dsimp only at hl hl2 H36 ⊢
    have hT2 : ∀ w', Sat [Row E.t_uint64 1 s35 (ints .u64 as_), Old w] w' → TabAt E.g_math_bits_deBruijn64tab w' := fun w' h => hT.ext (h.old 1 rfl)
    refine JOIN_in (swput_spec hE H36 hIi (show ([] : List Itm).length < 1099511627776 by decide) (fun hn => by rw [show (SW.S _).sp 1 = _ from hsp1] at hn; cases hn) (fun _ ⟨y, hy, _⟩ => by cases hy) fun y hy hno blk2 hI5 w53 H53 => CND_f rfl ?_)
    rw [show (SW.S _).sp 1 = _ from hsp1] at hy
    cases hy
    refine swmark_spec hE H53 hI5 (as_ := as_) (fun w' h' => by have := h'.rowAll; simpa using this) hl (by omega) (fun a ha => ?_) (fun hpos => ?_) fun hsw S2 hmw hI6 w59 H59 j => CND_f rfl ?_
    · rw [(has a ha).2]; omega
    · simp [cntS, insB, Itm.swept, pos] at hpos
    obtain ⟨mw, hsp2⟩ := hmw.sp 1 _ hsp1
    have hmk : mkOf S1 (512 * 8192 + a2 % (a0 * 8192)) = some (1, 0) := by
      have := mkOf_first hF hsp1 hown1 j1 hokJ j5 (k := 0) (o := a2 % (a0 * 8192)) (by rw [j2]; decide) hm0.1 (by rw [j3]; exact hm0.2)
      rwa [Int.natCast_zero, Int.zero_mul, Int.add_zero] at this
    have hM0 : bits0.mark S1 as_ 1 0 = a1 := by
      unfold Bits.mark
      show (false || _) = _
      rw [Bool.false_or]
      cases hm : a1 with
      | true =>
        rw [has2 hm, List.any_cons, decide_eq_true hmk]; rfl
      | false =>
        have : as_ = [] := List.eq_nil_iff_forall_not_mem.2 fun a ha => by have := (has a ha).1; rw [hm] at this; cases this
        rw [this]; rfl
    obtain ⟨L0, hL0⟩ : ∃ L0, L0 = insB ([] : List Itm) ⟨blk2, 1, J.base, (J.cls, J.noptr, J.used == J.slots, true)⟩ := ⟨_, rfl⟩
    have hLf : flipL L0 = [⟨blk2, 1, J.base, (J.cls, J.noptr, J.used == J.slots, false)⟩] := by rw [hL0]; rfl
    refine swnext_spec hE H59 hI6 (fun hall => ?_) fun y hy hI7 w62 H62 => ?_
    · have := hall ⟨blk2, 1, J.base, (J.cls, J.noptr, J.used == J.slots, false)⟩ (by show _ ∈ flipL _; rw [← hL0, hLf]; exact List.mem_singleton.2 rfl)
      cases this
    · have hy1 : y = ⟨blk2, 1, J.base, (J.cls, J.noptr, J.used == J.slots, false)⟩ := by
        have := hy.1
        rw [show (SW.L _) = flipL _ from rfl, ← hL0, hLf] at this
        exact List.mem_singleton.1 this
      subst hy1
      have hU0 : (bits0.set 1 (ltU 1)) 1 0 = true := by rw [Bits.set_at]; rfl
      refine swone_spec hE (fun w' h' => hT2 w' h') H62 hI7 (Nat.lt_of_le_of_lt (List.length_filter_le _ _) (by show 1 < 1099511627776; decide)) (by show 0 + 0 ≤ 1099511627776; decide) (fun z hz => (mem_remB.1 hz).2) (fun hn => by rw [show (SW.S _).sp 1 = _ from hsp2] at hn; cases hn) (fun z hz ⟨i, hi1, hi2⟩ => ?_) fun n gone W' U' M' hone hIW w66 H66 => ?_
      · exfalso
        have hz : S2.sp 1 = some z := hz
        rw [hsp2] at hz; cases hz
        have hlim := (hI7.sp 1 _ hsp2).2.mlim i hi1
        have : i = 0 := by have h1 : ((i : Nat) : Int) < J.slots := hlim; rw [j2] at h1; omega
        subst this
        have hi2 : (bits0.set 1 (ltU 1)) 1 0 = false := hi2
        rw [hU0] at hi2; cases hi2
      · obtain ⟨hn, hU', hM', uw2, W1, hW1, hc⟩ := hone.run rfl (x := (bl, { J with mw := mw })) hsp2
        have hM0' : (bits0.mark (SW.S ⟨S1, insB [] ⟨blk2, 1, J.base, (J.cls, J.noptr, J.used == J.slots, true)⟩, [], [], 0, 0, 0, 0⟩) as_) 1 0 = a1 := hM0
        have c1 : ∀ f : Nat → Bool, cN f ({ J with mw := mw } : SI).slots.toNat = (f 0).toNat := fun f => by
          show cN f J.slots.toNat = _
          rw [j2]
          show 0 + (f 0).toNat = _
          omega
        rw [c1] at hn
        simp only [c1, hU0, hM0', Bool.true_and] at hn hc
        have hgone : gone = !a1 ∧ W'.S.pages = (if a1 = true then a0 else 0) ∧ W'.S.own 512 = if a1 = true then 1 else 0 := by
          have hp2 : S2.pages = a0 := by rw [hmw.rest]; show (SW.S _).pages = a0; show S1.pages = a0; rw [hS1]; exact hF.pg
          have ho2 : S2.own 512 = 1 := by rw [hmw.own]; show S1.own 512 = 1; rw [hown1, hF.own, if_pos (by omega)]
          rcases hc with ⟨q, _⟩ | ⟨_, q, rfl, a, ha, rfl⟩ | ⟨_, q, rfl, blk, rfl⟩
          · cases q
          · have : a1 = false := by cases hm : a1 with | false => rfl | true => rw [hm] at q; cases q
            subst this
            refine ⟨rfl, ?_, ?_⟩
            · show W1.S.pages - _ = 0
              rw [hW1]; show S2.pages - J.pages = 0; rw [hp2, j5]; omega
            · show (if J.base / 8192 ≤ 512 ∧ 512 < J.base / 8192 + J.pages then 0 else W1.S.own 512) = 0
              rw [if_pos (by rw [j1, j5]; omega)]
          · have : a1 = true := by cases hm : a1 with | true => rfl | false => rw [hm] at q; exact absurd rfl q
            subst this
            refine ⟨rfl, ?_, ?_⟩
            · show W1.S.pages = _
              rw [hW1]; exact hp2
            · show W1.S.own 512 = _
              rw [hW1]; exact ho2
        obtain ⟨rfl, hpg, how⟩ := hgone
        refine swheap_spec H66 (swpages_spec H66 hIW fun w60 H60 => ?_)
        rw [hpg]
        have done : ∀ w', Sat [SweepP E b h s r W', Row E.t_uint64 1 s35 (ints .u64 as_), Old w] w' → Sat [Old w] w' := fun w' h => h.tail.tail
        cases hm : a1 with
        | true =>
          subst hm
          simp at hn how
          subst hn
          refine JOIN_in (CND_f rfl (CND_f rfl (CND_f rfl fun j => CND_f rfl (CND_t rfl (CND_t rfl (CND_t (by simp) ?_))))))
          refine swheap_spec H60 (swof_spec H60 (by decide) (by decide) fun w67 H67 => CND_t ?_ (haw (done _ H67)))
          exact beq_iff_eq.2 how
        | false =>
          subst hm
          simp at hn how
          subst hn
          refine JOIN_in (CND_f rfl (CND_f rfl (CND_f rfl fun j => CND_f rfl (CND_f rfl (CND_t rfl (CND_t (by simp) ?_))))))
          refine swheap_spec H60 (swof_spec H60 (by decide) (by decide) fun w67 H67 => CND_t ?_ (haw (done _ H67)))
          exact beq_iff_eq.2 how
end
end Go.Sh


namespace Go.Proofs.YtdnkgjeggfhfiaaGreatDoor.sweepLarge
open Go.ChangeShapes Go.WideShapes Go.ChangeAt Go.RowKit
set_option linter.unusedVariables false
set_option linter.unusedSimpArgs false

theorem own : ownKnob Tryz.prog.godebug = none := by kernel_rfl
theorem laidOut : laidOutB Tryz.prog = true := by kernel_rfl
theorem gTab : Tryz.prog.globalNamed "math/bits.deBruijn64tab" = some 0 := by kernel_rfl
theorem gTabType : (Tryz.prog.globals[0]?).map (·.type) = some 212 := by kernel_rfl
theorem und1 : Tryz.prog.underlying 212 = some (.array 64 5) := by kernel_rfl
theorem und2 : Tryz.prog.underlying 5 = some (.int .u8) := by kernel_rfl
theorem cells1 : Tryz.prog.cellsOf 212 = 64 := by kernel_rfl
theorem cells2 : Tryz.prog.cellsOf 5 = 1 := by kernel_rfl

theorem table {W : World} (h : laidMetH Tryz.prog Rows.sweepLargeRow.laid W) : Go.Sh.TabAt Go.Sh.env.g_math_bits_deBruijn64tab W := by
  have ht := Lib.tabIs_of_head (rest := []) (k := .u8) (zs := Lib.deBruijn64tab.map fun n : Nat => (n : Int)) gTab gTabType und1 und2 cells2 cells1 h
  intro i hi
  have := ht.cell gTab i (by rw [List.length_map]; exact hi)
  rw [show (Lib.deBruijn64tab.map fun n : Nat => (n : Int)).getD i 0 = ((Lib.deBruijn64tab.getD i 0 : Nat) : Int) by rw [List.getD_eq_getElem?_getD, List.getD_eq_getElem?_getD, List.getElem?_map]; cases Lib.deBruijn64tab[i]? <;> rfl] at this
  exact this

theorem walk (x : Go.Sh.ArgTs [.int .u64, .bool, .int .u64]) (w : World) (h : Go.Sh.argOks w [.int .u64, .bool, .int .u64] x) (hT : Go.Sh.TabAt Go.Sh.env.g_math_bits_deBruijn64tab w) :
    Calls Tryz.prog 6 ⟨Go.Sh.argVals [.int .u64, .bool, .int .u64] x⟩ w fun e w' => e = .returned (.bool true) ∧ Below w.heap.size w w' := by
  obtain ⟨a0, a1, a2, u⟩ := x
  obtain ⟨w0, w1, w2, _⟩ := h
  refine (Go.Sh.fits6 _ w (fun v w' => v = .bool true ∧ Below w.heap.size w w') Go.Sh.noP ?_).2.mono ?_
  · show Go.Sh.F.mallowlaw18_SweepLarge Go.Sh.env a0 a1 a2 (fun r w' => Value.bool r = .bool true ∧ Below w.heap.size w w') w
    exact Go.Sh.large_spec Go.Sh.envW hT (Go.Sh.u64_wf w2) fun w' h => ⟨rfl, h.below (Nat.le_refl _) fun _ f => f.elim⟩
  · intro e w' hE
    obtain ⟨v, rfl, rfl, h⟩ := hE.val
    exact ⟨rfl, h⟩

noncomputable def laidWorld (os : Os) : World :=
  { World.holding Tryz.prog os ⟨#[], #[], []⟩ with heap := (World.holding Tryz.prog os ⟨#[], #[], []⟩).heap.modify 0 fun
      | .cells _ t frozen => .cells ⟨Lib.deBruijn64tab.map fun n : Nat => .int .u8 (n : Int)⟩ t frozen
      | o => o }
theorem laid_met (os : Os) : laidMet Tryz.prog Rows.sweepLargeRow.laid ((laidWorld os).forCall (fun _ _ => 0) ⟨#[], #[.int .u64 0, .bool false, .int .u64 0], []⟩).memory :=
  laidMet_of_run' 8 (by kernel_rfl) (by kernel_rfl)
theorem reads (os : Os) {H : Type} (enc : TypeId × Value → H) : ∃ places, DataW.whole enc Tryz.prog ((laidWorld os).forCall (fun _ _ => 0) ⟨#[], #[.int .u64 0, .bool false, .int .u64 0], []⟩).memory Tryz.f6.params.toList Rows.sweepLargeSpec.vars false (#[.int .u64 0, .bool false, .int .u64 0] : Array Value).toList 8 = some ([.lit (.int .u64 0), .lit (.bool false), .lit (.int .u64 0)], [], places) :=
  ⟨[], by kernel_rfl⟩

set_option maxRecDepth 100000 in
theorem lifted (os : Os) (started : os.Started) (H : Type) (enc : TypeId × Value → H) (F : Stop.Interp) :
    ReturnsInHanded {} Tryz.checked os 6 .any ((OpenSpec.ofChange Rows.sweepLargeSpec).preRow enc Tryz.prog Tryz.f6 Rows.sweepLargeRow.domain false Rows.sweepLargeRow.laid) (((OpenSpec.ofChange Rows.sweepLargeSpec).at F).post enc Tryz.prog Tryz.f6 false true false false) := by
  obtain ⟨places, hx⟩ := reads os enc
  refine returnsInHanded_of_row (C := Tryz.checked) (s := OpenSpec.ofChange Rows.sweepLargeSpec) own started (by kernel_rfl) Tryz.func6
    (witness_row_at (enc := enc) (C := Tryz.checked) false (laidWorld os) #[.int .u64 0, .bool false, .int .u64 0] rfl (by kernel_rfl) (by kernel_rfl) (by kernel_rfl)
      (OpenSpec.preRow_of_cond 8 hx (by kernel_rfl) (fun k hk => by cases hk) (by kernel_rfl) (laid_met os))) ?_
  intro W base args ds gs before hval0 hW _ _ _ hL _ _
  have hW' := hW
  obtain ⟨p, q, hA, hV, rfl, hfz, hnd⟩ := hW
  obtain ⟨rfl, rfl⟩ := trodVars_none hV
  have hargs := Go.Sh.args_of (P := Tryz.prog) (shs := [.int .u64, .bool, .int .u64]) (by kernel_rfl) (fun j t v ht hv => hval0 j t v (by simpa using ht) (by simpa using hv)) hA
  obtain ⟨x, hx, hok⟩ := Go.Sh.argVals_of hargs
  obtain rfl : args = ⟨Go.Sh.argVals [.int .u64, .bool, .int .u64] x⟩ := Array.toList_inj.1 (by simpa using hx)
  have hlen := Go.Sh.trodAll_len hA
  obtain ⟨d0, d1, d2, rfl⟩ : ∃ d0 d1 d2, ds = [d0, d1, d2] := by
    have hl : ds.length = 3 := hlen
    match ds, hl with
    | [d0, d1, d2], _ => exact ⟨d0, d1, d2, rfl⟩
  refine (walk x W hok (table hL)).mono fun e W' ⟨he, bel⟩ => ?_
  subst he
  exact ⟨_, rfl, _, _, _, [], _, [], hW', trodAll_mk1 (shut_bool Tryz.underlying4 _), Go.Sh.trodAll_below laidOut bel (by kernel_rfl) hA, rfl, bel.frame _, fun h => by cases h⟩

theorem said : Rows.SweepLargeSaid :=
  OpenClaim.holds_of_cond 6 Tryz.f6 rfl rfl rfl rfl rfl rfl rfl ⟨rfl, rfl, rfl, rfl, rfl⟩ rfl rfl rfl rfl rfl (by kernel_rfl) Tryz.func6 (by kernel_rfl)
    (of_decide_eq_true (by kernel_rfl)) (by unfold Func.isWrapper; first | (rw [if_pos (by decide +kernel)]; kernel_rfl) | (rw [if_neg (by decide +kernel)]; exact ⟨rfl, rfl⟩))
    (fun os started H enc _ F => by rw [OpenClaim.pre_eq_preRow]; exact lifted os started H enc F)

theorem plain (f : FuncId) (fn : Func) (hf : Tryz.pinned.checked.prog.funcNamed "mallow/mallowlaw18.SweepLarge" = some f) (hfn : Tryz.pinned.checked.prog.funcs[f]? = some fn) :
    true = Tryz.pinned.checked.prog.looks [] ∧ ∀ (j : Nat) t, fn.params[j]? = some t → Tryz.pinned.checked.prog.wantsStandIn t = false := by
  obtain rfl : f = 6 := Option.some.inj ((show Tryz.prog.funcNamed "mallow/mallowlaw18.SweepLarge" = some 6 by kernel_rfl).symm.trans hf) |>.symm
  obtain rfl : fn = Tryz.f6 := (Option.some.inj (Tryz.func6.symm.trans hfn)).symm
  refine ⟨by kernel_rfl, fun j t ht => ?_⟩
  have hall : (Tryz.f6.params.toList.all fun t => !(Tryz.prog.wantsStandIn t)) = true := by kernel_rfl
  have := List.all_eq_true.1 hall t (Array.mem_toList_iff.2 (Array.mem_of_getElem? ht))
  exact Bool.not_eq_true' _ ▸ this

theorem proved : Rows.SweepLargeCardSaid :=
  Claim7.holds_tied_plain_at .later [] _ _ _ _ said (fun _ h => by cases h) (by kernel_rfl) (fun _ h => by cases h) sweepLarge_row_tie rfl ⟨rfl, rfl⟩ (by kernel_rfl) rfl plain (by kernel_rfl)
#print axioms proved
end Go.Proofs.YtdnkgjeggfhfiaaGreatDoor.sweepLarge

