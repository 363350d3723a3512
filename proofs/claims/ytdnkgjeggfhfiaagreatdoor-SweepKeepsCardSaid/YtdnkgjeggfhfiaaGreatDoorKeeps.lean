/- The law SweepKeeps holds (its card: math/bits' table as the program's text lays it): for every input the Go function returns true and leaves its arguments alone. No further condition. -/
import Derived.Test.YtdnkgjeggfhfiaaGreatDoorW2
import Derived.Test.YtdnkgjeggfhfiaaGreatDoorQ
import Derived.Test.YtdnkgjeggfhfiaaGreatDoorA
import Derived.Test.YtdnkgjeggfhfiaaGreatDoorCards
import Derived.Test.YtdnkgjeggfhfiaaGreatDoorTie
import Derived.WalkKit
import Derived.ProofKit
import Derived.OpenShut
import Derived.Deep.DeepHandedRow
import Derived.Lib.LaidTab
set_option linter.all false
set_option maxRecDepth 8000
set_option maxHeartbeats 4000000
namespace Go.Sh

theorem mkOf_first {S T : HS} {bl : Nat} {n c : Int} {np : Bool} {I : SI} (hF : First T bl n c np) (hsp : S.sp 1 = some (bl, I)) (hown : S.own = T.own) (hb : I.base = 512 * 8192) (hok : SpOk I) (hp : I.pages = n) {k : Nat} {o : Int} (hk : (k : Int) < I.slots) (h0 : 0 ≤ o) (h1 : o < I.elem) :
    mkOf S (512 * 8192 + k * I.elem + o) = some (1, k) := by
  have hsz := hok.size
  have e1 : ((k : Int) + 1) * I.elem ≤ I.slots * I.elem := Int.mul_le_mul_of_nonneg_right (by omega) (by omega)
  have e2 : ((k : Int) + 1) * I.elem = k * I.elem + I.elem := by rw [Int.add_mul, Int.one_mul]
  have e3 : 0 ≤ (k : Int) * I.elem := Int.mul_nonneg (by omega) (by omega)
  have e4 := hsz.2.2.2.2
  rw [Int.mul_comm I.elem, hp] at e4
  unfold mkOf
  have ho : S.own ((512 * 8192 + k * I.elem + o) / 8192) = 1 := by rw [hown, hF.own, if_pos (by omega)]
  rw [ho, hsp]
  simp only
  rw [hb, if_pos (by omega)]
  congr 2
  rw [show 512 * 8192 + (k : Int) * I.elem + o - 512 * 8192 = o + k * I.elem by omega, Int.add_mul_ediv_right _ _ (by omega), Int.ediv_eq_zero_of_lt h0 h1]
  omega

section
variable {E : Env} {w : World} {Rs Z : List Pr} (hE : EnvW E)
include hE

end
end Go.Sh


set_option linter.all false
set_option maxRecDepth 8000
set_option maxHeartbeats 4000000
namespace Go.Sh

section
variable {E : Env} {w : World} {Z : List Pr} {b h s r : Nat} {W : SW} {U M : Bits}

theorem OneR.run {id : Int} {keep : Bool} {n : Nat} {gone : Bool} {W' : SW} {U' M' : Bits} (h : OneR W U M id keep n gone W' U' M') (hR : W.R = []) {x : Nat × SI} (hx : W.S.sp id = some x) :
    n = cN (fun i => U id i && !M id i) x.2.slots.toNat ∧ U' = U.set id (fun i => U id i && M id i) ∧ M' = M.set id none1 ∧ ∃ uw, ∃ W1 : SW, W1 = { W with S := W.S.put id (x.1, keptI x.2 uw fun i => U id i && M id i), freed := u64 (W.freed + n), repaid := u64 (W.repaid + x.2.pages) } ∧
    ((keep = true ∧ ((cN (fun i => U id i && M id i) x.2.slots.toNat : Nat) : Int) < x.2.slots ∧ gone = false ∧ W' = W1) ∨
     (¬ (keep = true ∧ ((cN (fun i => U id i && M id i) x.2.slots.toNat : Nat) : Int) < x.2.slots) ∧ cN (fun i => U id i && M id i) x.2.slots.toNat = 0 ∧ gone = true ∧ ∃ a : Nat, id = (a : Int) + 1 ∧ W' = { W1 with S := W1.S.free a (x.2.base / 8192) x.2.pages }) ∨
     (¬ (keep = true ∧ ((cN (fun i => U id i && M id i) x.2.slots.toNat : Nat) : Int) < x.2.slots) ∧ cN (fun i => U id i && M id i) x.2.slots.toNat ≠ 0 ∧ gone = false ∧ ∃ blk, W' = { W1 with L := insB W.L ⟨blk, id, x.2.base, (x.2.cls, x.2.noptr, ((cN (fun i => U id i && M id i) x.2.slots.toNat : Nat) : Int) == x.2.slots, true)⟩ })) := by
  obtain ⟨y, t, uw, hy, hz, ht, hn, hU, hM, W1, hW1, hc⟩ := h
  rw [hx] at hy
  cases hy
  rw [hR, spRun_none (by intro k hk z hz; cases hz)] at ht
  subst ht
  refine ⟨hn, hU, hM, uw, W1, ?_, hc⟩
  rw [hW1, hR]

variable (hE : EnvW E)
include hE

end
end Go.Sh


set_option linter.all false
set_option maxRecDepth 8000
set_option maxHeartbeats 8000000
namespace Go.Sh

theorem cN_ltU (n m : Nat) : cN (ltU n) m = min m n := cN_full (u := ltU n) (m := n) (fun i => by unfold ltU; simp) m

def slotA (B el : Int) (i : Nat) : List Int := (List.range i).map fun k : Nat => B + (k : Int) * el
theorem slotA_succ (B el : Int) (i : Nat) : slotA B el (i + 1) = slotA B el i ++ [B + (i : Int) * el] := by unfold slotA; rw [List.range_succ, List.map_append]; rfl
theorem slotA_len (B el : Int) (i : Nat) : (slotA B el i).length = i := by simp [slotA]
theorem mem_slotA {B el a : Int} {i : Nat} : a ∈ slotA B el i ↔ ∃ k : Nat, k < i ∧ a = B + (k : Int) * el := by
  unfold slotA
  rw [List.mem_map]
  constructor
  · rintro ⟨k, hk, rfl⟩; exact ⟨k, List.mem_range.1 hk, rfl⟩
  · rintro ⟨k, hk, rfl⟩; exact ⟨k, List.mem_range.2 hk, rfl⟩

section
variable {E : Env} {w : World} (hE : EnvW E)
include hE

theorem keeps_spec (hT : TabAt E.g_math_bits_deBruijn64tab w) {a0 a1 : Int} {a2 : Bool} {K : Bool → World → Prop} (hK : ∀ w', Ext Nothing w w' → K true w') : F.mallowlaw18_SweepKeeps E a0 a1 a2 K w := by
  unfold F.mallowlaw18_SweepKeeps T0.mallowlaw18_SweepKeeps
  refine table_spec (Sat.start w) fun r1 w2 H2 => ?_
  have hl := H2.recLen (by decide) cls4_len
  rw [cls_len] at hl
  have hT' : ∀ w', Sat [Row E.t_api_Class 4 r1 (recs cls4 clsT), Old w] w' → TabAt E.g_math_bits_deBruijn64tab w' := fun w' h => hT.ext (h.old 1 rfl)
  have haw : ∀ {w'}, Sat [Row E.t_api_Class 4 r1 (recs cls4 clsT), Old w] w' → F.mallowlaw18_awake E (fun r6 w7 => K r6 w7) w' := fun h' => awake18_spec hE hT' h' fun w7 H7 => hK w7 (H7.old 1 rfl)
  have hdone : CND ((((r1.len : Nat) : Int) : Int) == 68) (F.mallowlaw18_awake E (fun r6 w7 => K r6 w7) w2) (K false w2) := CND_eq (fun _ => haw H2) fun e => absurd (by omega) e
  have ct : 0 ≤ a0 → a0 < 68 → ∃ x, r1.base = some ⟨x, 0, none⟩ ∧ ∀ {w'} {Y : List Pr}, Sat (Row E.t_api_Class 4 r1 (recs cls4 clsT) :: Y) w' → w'.cell? ((Addr.mk x 0 none).add (Int.toNat a0 * 4)) = some (.int .i64 (clsAt a0).1) ∧ w'.cell? (((Addr.mk x 0 none).add (Int.toNat a0 * 4)).add 1) = some (.int .i64 (clsAt a0).2.1) ∧
      w'.cell? (((Addr.mk x 0 none).add (Int.toNat a0 * 4)).add 2) = some (.int .i64 (clsAt a0).2.2.1) := fun c0 c1 => by
    obtain ⟨x, hx⟩ := H2.recBase (by decide) cls4_len (i := a0.toNat) (by rw [cls_len]; omega)
    refine ⟨x, hx, fun h => ⟨?_, ?_, ?_⟩⟩
    · have := h.recCell cls4_len hx (cls_at c0 c1) (j := 0) rfl; rwa [Nat.add_zero] at this
    · rw [add_add]; exact h.recCell cls4_len hx (cls_at c0 c1) (j := 1) rfl
    · rw [add_add]; exact h.recCell cls4_len hx (cls_at c0 c1) (j := 2) rfl
  refine JOIN_intro (fun st w' => w' = w2 ∧ (st.1 = false → 2 ≤ a0 ∧ a0 < 68 ∧ 0 ≤ a1 ∧ a1 ≤ 600 ∧ a1 ≤ (clsAt a0).2.2.1)) ?_ ?_
  · refine CND_dec (fun _ => ⟨rfl, fun h => by cases h⟩) fun g1 => CND_dec (fun _ => ⟨rfl, fun h => by cases h⟩) fun g2 => CND_dec (fun _ => ⟨rfl, fun h => by cases h⟩) fun g3 => ?_
    obtain ⟨x, hx, hcell⟩ := ct (by omega) (by omega)
    rw [hx]
    refine NC_in ⟨⟨by omega, by omega⟩, _, (hcell H2).2.2, CND_dec (fun _ => ⟨rfl, fun h => by cases h⟩) fun g5 => ⟨rfl, fun h => ?_⟩⟩
    have := of_decide_eq_false h
    omega
  · rintro ⟨st, u⟩ _ w5 ⟨rfl, hc⟩
    dsimp only at hc ⊢
    refine CND_intro (fun _ => hdone) fun hst => ?_
    obtain ⟨c0, c1, n0, n1, n2⟩ := hc hst
    obtain ⟨x, hx, hcell⟩ := ct (by omega) c1
    have hcl : (0 : Int) ≤ a0 ∧ (a0 : Int) < (r1.len : Nat) := by omega
    have hcb := cls_bnd (c := a0) (by omega) c1
    have hcp := cls_at_pos (c := a0) (by omega) c1
    have hca := cls_at_all (c := a0) (by omega) c1
    generalize hnp : (clsAt a0).2.1 = n at *
    have hbad : ¬ spBad 0 n a0 := by unfold spBad; rw [hnp]; omega
    refine fresh18_spec (hS := hE.toEnvS) H2 fun b h s r w14 H14 => CND_f rfl ?_
    rw [hx]
    refine NC_in ⟨hcl, _, (hcell (H14.drew.front 1 rfl)).2.1, swheap_spec H14.drew ⟨(hcell (H14.drew.front 1 rfl)).2.1, ?_⟩⟩
    rw [u64_id (n := n) (by omega) (by omega)]
    refine swfirst_spec hE hT' H14.drew (by omega) (by omega) hbad fun bl T hF hI w21 H21 => ⟨(hcell (H21.front 1 rfl)).2.1, swheap_spec H21 ?_⟩
    refine swspan_spec H21 (fun hn => by rw [show (SW.new T).S.sp 1 = some _ from hF.sp] at hn; cases hn) fun y hy => ?_
    rw [show (SW.new T).S.sp 1 = some _ from hF.sp] at hy
    cases hy
    refine JOIN_in (CND_f rfl fun j => CND_f rfl ?_)
    obtain ⟨I, hIe⟩ : ∃ I, I = spOf 512 n a0 true := ⟨_, rfl⟩
    obtain ⟨hok, hg⟩ := hI.sp 1 _ hF.sp
    have hok : SpOk I := by rw [hIe]; exact hok
    have hsl : I.slots = (clsAt a0).2.2.1 := by rw [hIe]; show (if a0 = 0 then (1 : Int) else _) = _; rw [if_neg (by omega)]
    have hel : I.elem = (clsAt a0).1 := by rw [hIe]; show (if a0 = 0 then n * 8192 else _) = _; rw [if_neg (by omega)]
    have hIb : I.base = 512 * 8192 := by rw [hIe]; rfl
    have hIp : I.pages = n := by rw [hIe]; rfl
    have hI0 : T.put 1 (bl, tookI I [] 0) = T := by rw [hIe, tookI_zero]; exact HS.put_self hF.sp
    have hB0 : bits0.set 1 (ltU 0) = bits0 := by rw [ltU_zero, bits0_set]
    obtain ⟨N, rfl⟩ := Int.eq_ofNat_of_zero_le n0
    let asF : Nat → List Int := fun i => if a2 = true then slotA (512 * 8192) I.elem i else []
    have asl : ∀ i, (asF i).length ≤ i := fun i => by
      show (if a2 = true then _ else _ : List Int).length ≤ i
      split
      · rw [slotA_len]; exact Nat.le_refl _
      · exact Nat.zero_le _
    have hsz := hok.size
    have as0 : asF 0 = [] := by show (if a2 = true then slotA (512 * 8192) I.elem 0 else []) = []; split <;> rfl
    refine LOOP_intro (fun st w' => ∃ (i : Nat) (uw : List Int), st.2.1 = (i : Int) ∧ i ≤ N ∧ SwInv (SW.new (T.put 1 (bl, tookI I uw i))) (bits0.set 1 (ltU i)) bits0 ∧ Sat [SweepP E b h s r (SW.new (T.put 1 (bl, tookI I uw i))), Row E.t_uint64 1 st.1 (ints .u64 (asF i)), Row E.t_api_Class 4 r1 (recs cls4 clsT), Old w] w') (fun st _ => ((N : Int) - st.2.1).toNat)
      ⟨0, [], rfl, Nat.zero_le _, by rw [hI0, hB0]; exact hI, by rw [hI0, as0]; exact (H21.nil E.t_uint64 1).front 1 rfl⟩ ?_
    rintro ⟨s28, i', u⟩ _ w31 ⟨i, uw, hi, hil, hIi, H31⟩
    dsimp only at hi H31 ⊢
    subst hi
    have hT3 : ∀ w', Sat [Row E.t_uint64 1 s28 (ints .u64 (asF i)), Row E.t_api_Class 4 r1 (recs cls4 clsT), Old w] w' → TabAt E.g_math_bits_deBruijn64tab w' := fun w' h => hT.ext (h.old 2 rfl)
    have hsll : (asF i).length = s28.len := by have := (H31.front 1 rfl).rowLen; simpa [ints] using this
    have hai := asl i
    refine CND_dec (fun hlt => ?_) fun hge => ?_
    · refine swtake1_spec hT3 H31 hIi (by omega) fun uw' hI2 w35 H35 => CND_f rfl ?_
      have hi1 : i64 ((i : Int) + 1) = ((i + 1 : Nat) : Int) := by rw [i64_id (by omega) (by omega)]; rfl
      refine swslotaddr_spec H35 hI2 (id := 1) (x := (bl, tookI I uw' (i + 1))) HS.put_sp (by omega) (by show (i : Int) < I.slots; omega) fun w36 H36 => ?_
      rw [hi1]
      have ea : ({ (tookI I uw' (i + 1)) with } : SI).base + (i : Int) * (tookI I uw' (i + 1)).elem = 512 * 8192 + i * I.elem := by show I.base + _ * I.elem = _; rw [hIb]
      have ea2 : (tookI I uw' (i + 1)).base + (i : Int) * (tookI I uw' (i + 1)).elem = 512 * 8192 + i * I.elem := ea
      show CND a2 _ _
      rw [ea2]
      refine CND_intro (fun hall => ?_) fun hall => ?_
      · refine AL_cells (vs := [.int .u64 (512 * 8192 + i * I.elem)]) H36 fun b37 w38 H38 _ => ?_
        refine APP_one (zs := #[.int .u64 0]) (bytes := 8) (H38.front2 1 rfl) rfl rfl (by simp [Value.oneCell']) (by omega) (by omega) fun s39 w40 H40 _ => ?_
        have e : ints .u64 (asF i) ++ [.int .u64 (512 * 8192 + i * I.elem)] = ints .u64 (asF (i + 1)) := by
          show ints .u64 (if a2 = true then slotA (512 * 8192) I.elem i else []) ++ _ = ints .u64 (if a2 = true then slotA (512 * 8192) I.elem (i + 1) else [])
          rw [if_pos hall, if_pos hall, slotA_succ]; simp [ints]
        rw [e] at H40
        exact ⟨⟨i + 1, uw', rfl, by omega, hI2, H40.front 1 rfl⟩, by omega⟩
      · have e : asF i = asF (i + 1) := by
          show (if a2 = true then slotA (512 * 8192) I.elem i else []) = (if a2 = true then slotA (512 * 8192) I.elem (i + 1) else [])
          rw [if_neg (by rw [hall]; decide), if_neg (by rw [hall]; decide)]
        rw [e] at H36
        exact ⟨⟨i + 1, uw', rfl, by omega, hI2, H36⟩, by omega⟩
    · obtain rfl : i = N := by omega
      obtain ⟨J, hJ⟩ : ∃ J, J = tookI I uw i := ⟨_, rfl⟩
      obtain ⟨S1, hS1⟩ : ∃ S1, S1 = T.put 1 (bl, J) := ⟨_, rfl⟩
      rw [← hJ, ← hS1] at hIi H31
      have hsp1 : S1.sp 1 = some (bl, J) := by rw [hS1]; exact HS.put_sp
      have hJf : J.base = 512 * 8192 ∧ J.slots = I.slots ∧ J.elem = I.elem ∧ J.used = (i : Int) ∧ J.pages = n := by rw [hJ]; exact ⟨hIb, rfl, rfl, rfl, hIp⟩
      obtain ⟨j1, j2, j3, j4, j5⟩ := hJf
      have hokJ : SpOk J := (hIi.sp 1 _ hsp1).1
      have hown1 : S1.own = T.own := by rw [hS1]; rfl
      have H31 : Sat [SweepP E b h s r ⟨S1, [], [], [], 0, 0, 0, 0⟩, Row E.t_uint64 1 s28 (ints .u64 (asF i)), Row E.t_api_Class 4 r1 (recs cls4 clsT), Old w] w31 := H31
      have hIi : SwInv ⟨S1, [], [], [], 0, 0, 0, 0⟩ (bits0.set 1 (ltU i)) bits0 := hIi
      refine JOIN_in (swput_spec hE H31 hIi (show ([] : List Itm).length < 1099511627776 by decide) (fun hn => by rw [show (SW.S _).sp 1 = _ from hsp1] at hn; cases hn) (fun _ ⟨y, hy, _⟩ => by cases hy) fun y hy hno blk2 hI5 w53 H53 => CND_f rfl ?_)
      rw [show (SW.S _).sp 1 = _ from hsp1] at hy
      cases hy
      have hok4 := hokJ.ba
      have hadd : ∀ a ∈ asF i, a2 = true ∧ ∃ k : Nat, k < i ∧ a = 512 * 8192 + k * J.elem := fun a ha => by
        have ha : a ∈ (if a2 = true then slotA (512 * 8192) I.elem i else []) := ha
        by_cases g : a2 = true
        · rw [if_pos g] at ha
          obtain ⟨k, hk, e⟩ := mem_slotA.1 ha
          exact ⟨g, k, hk, by rw [j3]; exact e⟩
        · rw [if_neg g] at ha; cases ha
      have hbnd : ∀ k : Nat, k < i → 0 ≤ (k : Int) * J.elem ∧ (k : Int) * J.elem ≤ 819200 := fun k hk => by
        have h1 : 0 ≤ (k : Int) * J.elem := Int.mul_nonneg (by omega) (by rw [j3]; omega)
        have h2 : (k : Int) * J.elem ≤ J.slots * J.elem := Int.mul_le_mul_of_nonneg_right (by omega) (by rw [j3]; omega)
        have h3 := hsz.2.2.2.2
        rw [Int.mul_comm I.elem, ← j2, ← j3, hIp] at h3
        omega
      refine swmark_spec hE H53 hI5 (as_ := asF i) (fun w' h' => by have := h'.rowAll; simpa using this) hsll (by omega) (fun a ha => ?_) (fun hpos => ?_) fun hsw S2 hmw hI6 w59 H59 j => CND_f rfl ?_
      · obtain ⟨_, k, hk, e⟩ := hadd a ha
        have := hbnd k hk
        omega
      · simp [cntS, insB, Itm.swept, pos] at hpos
      obtain ⟨mw, hsp2⟩ := hmw.sp 1 _ hsp1
      have hM1 : bits0.mark S1 (asF i) 1 = if a2 = true then ltU i else none1 := by
        funext k
        unfold Bits.mark
        show (false || _) = _
        rw [Bool.false_or]
        have hmk : ∀ k : Nat, k < i → mkOf S1 (512 * 8192 + k * J.elem) = some (1, k) := fun k hk => by
          have := mkOf_first hF hsp1 hown1 j1 hokJ j5 (k := k) (o := 0) (by omega) (Int.le_refl 0) (by rw [j3]; omega)
          rwa [Int.add_zero] at this
        by_cases g : a2 = true
        · rw [if_pos g, Bool.eq_iff_iff, List.any_eq_true]
          unfold ltU
          rw [decide_eq_true_eq]
          constructor
          · rintro ⟨a, ha, e⟩
            obtain ⟨_, q, hq, rfl⟩ := hadd a ha
            rw [hmk q hq, decide_eq_true_eq] at e
            injection e with e; injection e with _ e; omega
          · intro hk
            refine ⟨512 * 8192 + k * J.elem, ?_, by rw [hmk k hk]; simp⟩
            show _ ∈ (if a2 = true then slotA (512 * 8192) I.elem i else [])
            rw [if_pos g, mem_slotA]
            exact ⟨k, hk, by rw [j3]⟩
        · have : asF i = [] := by show (if a2 = true then _ else _ : List Int) = []; rw [if_neg g]
          rw [if_neg g, this]; rfl
      obtain ⟨L0, hL0⟩ : ∃ L0, L0 = insB ([] : List Itm) ⟨blk2, 1, J.base, (J.cls, J.noptr, J.used == J.slots, true)⟩ := ⟨_, rfl⟩
      have hLf : flipL L0 = [⟨blk2, 1, J.base, (J.cls, J.noptr, J.used == J.slots, false)⟩] := by rw [hL0]; rfl
      refine swnext_spec hE H59 hI6 (fun hall => ?_) fun y hy hI7 w62 H62 => ?_
      · have := hall ⟨blk2, 1, J.base, (J.cls, J.noptr, J.used == J.slots, false)⟩ (by show _ ∈ flipL _; rw [← hL0, hLf]; exact List.mem_singleton.2 rfl)
        cases this
      · have hy1 : y = ⟨blk2, 1, J.base, (J.cls, J.noptr, J.used == J.slots, false)⟩ := by
          have := hy.1
          rw [show (SW.L _) = flipL _ from rfl, ← hL0, hLf] at this
          exact List.mem_singleton.1 this
        subst hy1
        have hU1 : (bits0.set 1 (ltU i)) 1 = ltU i := Bits.set_at _ _ _
        have hM1' : (bits0.mark (SW.S ⟨S1, insB [] ⟨blk2, 1, J.base, (J.cls, J.noptr, J.used == J.slots, true)⟩, [], [], 0, 0, 0, 0⟩) (asF i)) 1 = if a2 = true then ltU i else none1 := hM1
        have hLn : remB (flipL (insB ([] : List Itm) ⟨blk2, 1, J.base, (J.cls, J.noptr, J.used == J.slots, true)⟩)) 1 = [] := by rw [← hL0, hLf]; rfl
        refine swone_spec hE (fun w' h' => hT3 w' h') H62 hI7 (Nat.lt_of_le_of_lt (List.length_filter_le _ _) (by show 1 < 1099511627776; decide)) (by show 0 + 0 ≤ 1099511627776; decide) (fun z hz => (mem_remB.1 hz).2) (fun hn => by rw [show (SW.S _).sp 1 = _ from hsp2] at hn; cases hn) (fun z hz ⟨q, hq1, hq2⟩ => ?_) fun nf gone W' U' M' hone hIW w66 H66 => ?_
        · exfalso
          have hq1 : (bits0.mark S1 (asF i)) 1 q = true := hq1
          have hq2 : (bits0.set 1 (ltU i)) 1 q = false := hq2
          rw [hM1] at hq1
          rw [hU1] at hq2
          split at hq1
          · rw [hq1] at hq2; cases hq2
          · cases hq1
        · obtain ⟨hn, hU', hM', uw2, W1, hW1, hc⟩ := hone.run rfl (x := (bl, { J with mw := mw })) hsp2
          simp only [hU1, hM1'] at hn hc
          have hs0 : ({ J with mw := mw } : SI).slots = (clsAt a0).2.2.1 := by show J.slots = _; rw [j2, hsl]
          have hkept : cN (fun k => ltU i k && (if a2 = true then ltU i else none1) k) ({ J with mw := mw } : SI).slots.toNat = if a2 = true then i else 0 := by
            by_cases g : a2 = true
            · simp only [if_pos g, Bool.and_self]
              rw [cN_ltU, hs0]; omega
            · simp only [if_neg g]
              have : (fun k => ltU i k && none1 k) = none1 := by funext k; simp [none1]
              rw [this, cN_full (u := none1) (m := 0) (fun i => by simp [none1])]; omega
          have hfree : cN (fun k => ltU i k && !(if a2 = true then ltU i else none1) k) ({ J with mw := mw } : SI).slots.toNat = if a2 = true then 0 else i := by
            by_cases g : a2 = true
            · simp only [if_pos g]
              have : (fun k => ltU i k && !ltU i k) = none1 := by funext k; simp [none1]
              rw [this, cN_full (u := none1) (m := 0) (fun i => by simp [none1])]; omega
            · simp only [if_neg g]
              have : (fun k => ltU i k && !none1 k) = ltU i := by funext k; simp [none1]
              rw [this, cN_ltU, hs0]; omega
          rw [hfree] at hn
          rw [hkept, hs0] at hc
          have hgone : gone = false := by
            rcases hc with ⟨_, _, q, _⟩ | ⟨q1, q2, _⟩ | ⟨_, _, q, _⟩
            · exact q
            · exfalso; apply q1; refine ⟨trivial, ?_⟩; rw [q2]; omega
            · exact q
          subst hgone
          have hlen : (asF i).length = if a2 = true then i else 0 := by
            show (if a2 = true then slotA (512 * 8192) I.elem i else [] : List Int).length = _
            split
            · rw [slotA_len]
            · rfl
          have hnl : ((nf : Nat) : Int) = i64 ((i : Int) - ((s28.len : Nat) : Int)) := by
            rw [hn, ← hsll, hlen]
            split <;> rw [i64_id (by omega) (by omega)] <;> omega
          have hsl2 : ∀ {w'}, Sat [SweepP E b h s r W', Row E.t_uint64 1 s28 (ints .u64 (asF i)), Row E.t_api_Class 4 r1 (recs cls4 clsT), Old w] w' → Sat [Row E.t_api_Class 4 r1 (recs cls4 clsT), Old w] w' := fun h => h.tail.tail
          refine JOIN_intro (fun st w' => w' = w66 ∧ st.1 = decide (a2 = true ∧ (i : Int) = (clsAt a0).2.2.1)) ?_ ?_
          · refine CND_intro (fun g => ?_) fun g => ⟨rfl, by rw [g]; rfl⟩
            refine NC_in ⟨hcl, _, (hcell (H66.front 2 rfl)).2.2, rfl, ?_⟩
            show ((i : Int) == (clsAt a0).2.2.1) = _
            rw [Bool.eq_iff_iff, beq_iff_eq, decide_eq_true_eq, g]; simp
          · rintro ⟨full, u⟩ _ w57 ⟨rfl, hfull⟩
            dsimp only at hfull ⊢
            refine JOIN_in (CND_f rfl (CND_f rfl (CND_f rfl (CND_f rfl fun j => CND_f ?_ ?_))))
            · rw [hnl]; simp
            · refine CND_intro (fun hf => ?_) fun hf => ?_
              · rw [hfull, decide_eq_true_eq] at hf
                obtain ⟨blk5, hW'⟩ : ∃ blk5, W'.L = [⟨blk5, 1, J.base, (J.cls, J.noptr, ((i : Nat) : Int) == (clsAt a0).2.2.1, true)⟩] := by
                  rcases hc with ⟨_, q, _⟩ | ⟨_, _, q, _⟩ | ⟨_, _, _, blk5, rfl⟩
                  · rw [if_pos hf.1] at q; omega
                  · cases q
                  · refine ⟨blk5, ?_⟩
                    show insB (remB (flipL (insB ([] : List Itm) ⟨blk2, 1, J.base, (J.cls, J.noptr, J.used == J.slots, true)⟩)) 1) _ = _
                    rw [hLn, if_pos hf.1]; rfl
                obtain ⟨R9, HH9, hz9, hb9⟩ := H66.swSets
                refine swsets_spec H66 (secount_spec HH9 fun w66b H67 => CND_t ?_ (haw (hsl2 (hb9 H67))))
                rw [hW']; simp [cntS, Itm.swept]
              · rw [hfull, decide_eq_false_iff_not] at hf
                have hcase : W' = W1 := by
                  rcases hc with ⟨_, _, _, q⟩ | ⟨_, _, q, _⟩ | ⟨q1, _⟩
                  · exact q
                  · cases q
                  · exfalso; apply q1; refine ⟨trivial, ?_⟩
                    split
                    · rename_i g; have : ¬ (i : Int) = (clsAt a0).2.2.1 := fun e => hf ⟨g, e⟩; omega
                    · show ((0 : Nat) : Int) < _; omega
                have hWL : W'.L = [] := by rw [hcase, hW1]; exact hLn
                have hWS : W'.S = S2.put 1 (bl, keptI { J with mw := mw } uw2 fun k => ltU i k && (if a2 = true then ltU i else none1) k) := by
                  rw [hcase, hW1]
                  simp only [hU1, hM1']
                have hWsp : W'.S.sp 1 = some (bl, keptI { J with mw := mw } uw2 fun k => ltU i k && (if a2 = true then ltU i else none1) k) := by rw [hWS]; exact HS.put_sp
                obtain ⟨R9, HH9, hz9, hb9⟩ := H66.swSets
                refine swsets_spec H66 (secount_spec HH9 fun w72 H72 => CND_t (by rw [hWL]; rfl) ?_)
                have H73 := hb9 H72
                obtain ⟨R10, HH10, hz10, hb10⟩ := H73.swSets
                refine swsets_spec H73 (secount_spec HH10 fun w76 H76 => CND_t (by show ((cntS W'.L false : Nat) : Int) == 0; rw [hWL]; rfl) ?_)
                have H77 : Sat [SweepP E b h s r W', Row E.t_uint64 1 s28 (ints .u64 (asF i)), Row E.t_api_Class 4 r1 (recs cls4 clsT), Old w] w76 := hb10 H76
                refine swheap_spec H77 (swinfo_spec H77 hWsp fun w89 H89 => ?_)
                rw [show (keptI { J with mw := mw } uw2 fun k => ltU i k && (if a2 = true then ltU i else none1) k).base = 512 * 8192 from j1]
                refine swof_spec H89 (by decide) (by decide) fun w91 H91 => CND_t (beq_iff_eq.2 ?_) ?_
                · rw [hWS]
                  show S2.own _ = 1
                  rw [hmw.own]; show S1.own _ = 1
                  rw [hown1, hF.own, if_pos (by omega)]
                · refine swput_spec hE H91 hIW (by rw [hWL]; decide) (fun hn => by rw [hWsp] at hn; cases hn) (fun _ ⟨y, hy, _⟩ => by rw [hWL] at hy; cases hy) fun y hy hno blk9 hI9 w93 H93 => CND_t rfl (haw H93.tail.tail)
end
end Go.Sh


namespace Go.Proofs.YtdnkgjeggfhfiaaGreatDoor.sweepKeeps
open Go.ChangeShapes Go.WideShapes Go.ChangeAt Go.RowKit
set_option linter.unusedVariables false
set_option linter.unusedSimpArgs false

theorem own : ownKnob Tryz.prog.godebug = none := by kernel_rfl
theorem laidOut : laidOutB Tryz.prog = true := by kernel_rfl
theorem gTab : Tryz.prog.globalNamed "math/bits.deBruijn64tab" = some 0 := by kernel_rfl
theorem gTabType : (Tryz.prog.globals[0]?).map (·.type) = some 212 := by kernel_rfl
theorem und1 : Tryz.prog.underlying 212 = some (.array 64 5) := by kernel_rfl
theorem und2 : Tryz.prog.underlying 5 = some (.int .u8) := by kernel_rfl
theorem cells1 : Tryz.prog.cellsOf 212 = 64 := by kernel_rfl
theorem cells2 : Tryz.prog.cellsOf 5 = 1 := by kernel_rfl

theorem table {W : World} (h : laidMetH Tryz.prog Rows.sweepKeepsRow.laid W) : Go.Sh.TabAt Go.Sh.env.g_math_bits_deBruijn64tab W := by
  have ht := Lib.tabIs_of_head (rest := []) (k := .u8) (zs := Lib.deBruijn64tab.map fun n : Nat => (n : Int)) gTab gTabType und1 und2 cells2 cells1 h
  intro i hi
  have := ht.cell gTab i (by rw [List.length_map]; exact hi)
  rw [show (Lib.deBruijn64tab.map fun n : Nat => (n : Int)).getD i 0 = ((Lib.deBruijn64tab.getD i 0 : Nat) : Int) by rw [List.getD_eq_getElem?_getD, List.getD_eq_getElem?_getD, List.getElem?_map]; cases Lib.deBruijn64tab[i]? <;> rfl] at this
  exact this

theorem walk (x : Go.Sh.ArgTs [.int .i64, .int .i64, .bool]) (w : World) (h : Go.Sh.argOks w [.int .i64, .int .i64, .bool] x) (hT : Go.Sh.TabAt Go.Sh.env.g_math_bits_deBruijn64tab w) :
    Calls Tryz.prog 3 ⟨Go.Sh.argVals [.int .i64, .int .i64, .bool] x⟩ w fun e w' => e = .returned (.bool true) ∧ Below w.heap.size w w' := by
  obtain ⟨a0, a1, a2, u⟩ := x
  obtain ⟨w0, w1, w2, _⟩ := h
  refine (Go.Sh.fits3 _ w (fun v w' => v = .bool true ∧ Below w.heap.size w w') Go.Sh.noP ?_).2.mono ?_
  · show Go.Sh.F.mallowlaw18_SweepKeeps Go.Sh.env a0 a1 a2 (fun r w' => Value.bool r = .bool true ∧ Below w.heap.size w w') w
    exact Go.Sh.keeps_spec Go.Sh.envW hT fun w' h => ⟨rfl, h.below (Nat.le_refl _) fun _ f => f.elim⟩
  · intro e w' hE
    obtain ⟨v, rfl, rfl, h⟩ := hE.val
    exact ⟨rfl, h⟩

noncomputable def laidWorld (os : Os) : World :=
  { World.holding Tryz.prog os ⟨#[], #[], []⟩ with heap := (World.holding Tryz.prog os ⟨#[], #[], []⟩).heap.modify 0 fun
      | .cells _ t frozen => .cells ⟨Lib.deBruijn64tab.map fun n : Nat => .int .u8 (n : Int)⟩ t frozen
      | o => o }
theorem laid_met (os : Os) : laidMet Tryz.prog Rows.sweepKeepsRow.laid ((laidWorld os).forCall (fun _ _ => 0) ⟨#[], #[.int .i64 0, .int .i64 0, .bool false], []⟩).memory :=
  laidMet_of_run' 8 (by kernel_rfl) (by kernel_rfl)
theorem reads (os : Os) {H : Type} (enc : TypeId × Value → H) : ∃ places, DataW.whole enc Tryz.prog ((laidWorld os).forCall (fun _ _ => 0) ⟨#[], #[.int .i64 0, .int .i64 0, .bool false], []⟩).memory Tryz.f3.params.toList Rows.sweepKeepsSpec.vars false (#[.int .i64 0, .int .i64 0, .bool false] : Array Value).toList 8 = some ([.lit (.int .i64 0), .lit (.int .i64 0), .lit (.bool false)], [], places) :=
  ⟨[], by kernel_rfl⟩

set_option maxRecDepth 100000 in
theorem lifted (os : Os) (started : os.Started) (H : Type) (enc : TypeId × Value → H) (F : Stop.Interp) :
    ReturnsInHanded {} Tryz.checked os 3 .any ((OpenSpec.ofChange Rows.sweepKeepsSpec).preRow enc Tryz.prog Tryz.f3 Rows.sweepKeepsRow.domain false Rows.sweepKeepsRow.laid) (((OpenSpec.ofChange Rows.sweepKeepsSpec).at F).post enc Tryz.prog Tryz.f3 false true false false) := by
  obtain ⟨places, hx⟩ := reads os enc
  refine returnsInHanded_of_row (C := Tryz.checked) (s := OpenSpec.ofChange Rows.sweepKeepsSpec) own started (by kernel_rfl) Tryz.func3
    (witness_row_at (enc := enc) (C := Tryz.checked) false (laidWorld os) #[.int .i64 0, .int .i64 0, .bool false] rfl (by kernel_rfl) (by kernel_rfl) (by kernel_rfl)
      (OpenSpec.preRow_of_cond 8 hx (by kernel_rfl) (fun k hk => by cases hk) (by kernel_rfl) (laid_met os))) ?_
  intro W base args ds gs before hval0 hW _ _ _ hL _ _
  have hW' := hW
  obtain ⟨p, q, hA, hV, rfl, hfz, hnd⟩ := hW
  obtain ⟨rfl, rfl⟩ := trodVars_none hV
  have hargs := Go.Sh.args_of (P := Tryz.prog) (shs := [.int .i64, .int .i64, .bool]) (by kernel_rfl) (fun j t v ht hv => hval0 j t v (by simpa using ht) (by simpa using hv)) hA
  obtain ⟨x, hx, hok⟩ := Go.Sh.argVals_of hargs
  obtain rfl : args = ⟨Go.Sh.argVals [.int .i64, .int .i64, .bool] x⟩ := Array.toList_inj.1 (by simpa using hx)
  have hlen := Go.Sh.trodAll_len hA
  obtain ⟨d0, d1, d2, rfl⟩ : ∃ d0 d1 d2, ds = [d0, d1, d2] := by
    have hl : ds.length = 3 := hlen
    match ds, hl with
    | [d0, d1, d2], _ => exact ⟨d0, d1, d2, rfl⟩
  refine (walk x W hok (table hL)).mono fun e W' ⟨he, bel⟩ => ?_
  subst he
  exact ⟨_, rfl, _, _, _, [], _, [], hW', trodAll_mk1 (shut_bool Tryz.underlying4 _), Go.Sh.trodAll_below laidOut bel (by kernel_rfl) hA, rfl, bel.frame _, fun h => by cases h⟩

theorem said : Rows.SweepKeepsSaid :=
  OpenClaim.holds_of_cond 3 Tryz.f3 rfl rfl rfl rfl rfl rfl rfl ⟨rfl, rfl, rfl, rfl, rfl⟩ rfl rfl rfl rfl rfl (by kernel_rfl) Tryz.func3 (by kernel_rfl)
    (of_decide_eq_true (by kernel_rfl)) (by unfold Func.isWrapper; first | (rw [if_pos (by decide +kernel)]; kernel_rfl) | (rw [if_neg (by decide +kernel)]; exact ⟨rfl, rfl⟩))
    (fun os started H enc _ F => by rw [OpenClaim.pre_eq_preRow]; exact lifted os started H enc F)

theorem plain (f : FuncId) (fn : Func) (hf : Tryz.pinned.checked.prog.funcNamed "mallow/mallowlaw18.SweepKeeps" = some f) (hfn : Tryz.pinned.checked.prog.funcs[f]? = some fn) :
    true = Tryz.pinned.checked.prog.looks [] ∧ ∀ (j : Nat) t, fn.params[j]? = some t → Tryz.pinned.checked.prog.wantsStandIn t = false := by
  obtain rfl : f = 3 := Option.some.inj ((show Tryz.prog.funcNamed "mallow/mallowlaw18.SweepKeeps" = some 3 by kernel_rfl).symm.trans hf) |>.symm
  obtain rfl : fn = Tryz.f3 := (Option.some.inj (Tryz.func3.symm.trans hfn)).symm
  refine ⟨by kernel_rfl, fun j t ht => ?_⟩
  have hall : (Tryz.f3.params.toList.all fun t => !(Tryz.prog.wantsStandIn t)) = true := by kernel_rfl
  have := List.all_eq_true.1 hall t (Array.mem_toList_iff.2 (Array.mem_of_getElem? ht))
  exact Bool.not_eq_true' _ ▸ this

theorem proved : Rows.SweepKeepsCardSaid :=
  Claim7.holds_tied_plain_at .later [] _ _ _ _ said (fun _ h => by cases h) (by kernel_rfl) (fun _ h => by cases h) sweepKeeps_row_tie rfl ⟨rfl, rfl⟩ (by kernel_rfl) rfl plain (by kernel_rfl)
#print axioms proved
end Go.Proofs.YtdnkgjeggfhfiaaGreatDoor.sweepKeeps

