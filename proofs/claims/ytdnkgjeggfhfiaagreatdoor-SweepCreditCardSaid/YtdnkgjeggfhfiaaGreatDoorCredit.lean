/- The law SweepCredit holds (its card: math/bits' table as the program's text lays it): for every input the Go function returns true and leaves its arguments alone. No further condition. -/
import Derived.Test.YtdnkgjeggfhfiaaGreatDoorW2
import Derived.Test.YtdnkgjeggfhfiaaGreatDoorL
import Derived.Test.YtdnkgjeggfhfiaaGreatDoorQ
import Derived.Test.YtdnkgjeggfhfiaaGreatDoorA
import Derived.Test.YtdnkgjeggfhfiaaGreatDoorCards
import Derived.Test.YtdnkgjeggfhfiaaGreatDoorTie
import Derived.WalkKit
import Derived.ProofKit
import Derived.OpenShut
import Derived.Deep.DeepHandedRow
import Derived.Lib.LaidTab
set_option linter.all false
set_option maxRecDepth 8000
set_option maxHeartbeats 4000000
namespace Go.Sh
section
variable {E : Env} {w : World} {Rs Z : List Pr} (hE : EnvW E)
include hE
end
end Go.Sh

set_option linter.all false
set_option maxRecDepth 8000
set_option maxHeartbeats 4000000
namespace Go.Sh
section
variable {E : Env} {w : World} {Z : List Pr} {b h s r : Nat} {W : SW} {U M : Bits}
theorem OneR.run {id : Int} {keep : Bool} {n : Nat} {gone : Bool} {W' : SW} {U' M' : Bits} (h : OneR W U M id keep n gone W' U' M') (hR : W.R = []) {x : Nat × SI} (hx : W.S.sp id = some x) :
    n = cN (fun i => U id i && !M id i) x.2.slots.toNat /\ U' = U.set id (fun i => U id i && M id i) /\ M' = M.set id none1 /\ ∃ uw, ∃ W1 : SW, W1 = { W with S := W.S.put id (x.1, keptI x.2 uw fun i => U id i && M id i), freed := u64 (W.freed + n), repaid := u64 (W.repaid + x.2.pages) } /\
    ((keep = true /\ ((cN (fun i => U id i && M id i) x.2.slots.toNat : Nat) : Int) < x.2.slots /\ gone = false /\ W' = W1) ∨
     (¬ (keep = true /\ ((cN (fun i => U id i && M id i) x.2.slots.toNat : Nat) : Int) < x.2.slots) /\ cN (fun i => U id i && M id i) x.2.slots.toNat = 0 /\ gone = true /\ ∃ a : Nat, id = (a : Int) + 1 /\ W' = { W1 with S := W1.S.free a (x.2.base / 8192) x.2.pages }) ∨
     (¬ (keep = true /\ ((cN (fun i => U id i && M id i) x.2.slots.toNat : Nat) : Int) < x.2.slots) /\ cN (fun i => U id i && M id i) x.2.slots.toNat ≠ 0 /\ gone = false /\ ∃ blk, W' = { W1 with L := insB W.L ⟨blk, id, x.2.base, (x.2.cls, x.2.noptr, ((cN (fun i => U id i && M id i) x.2.slots.toNat : Nat) : Int) == x.2.slots, true)⟩ })) := by
  obtain ⟨y, t, uw, hy, hz, ht, hn, hU, hM, W1, hW1, hc⟩ := h
  rw [hx] at hy
  cases hy
  rw [hR, spRun_none (by intro k hk z hz; cases hz)] at ht
  subst ht
  refine ⟨hn, hU, hM, uw, W1, ?_, hc⟩
  rw [hW1, hR]
variable (hE : EnvW E)
include hE
end
end Go.Sh

set_option linter.all false
set_option maxRecDepth 8000
set_option maxHeartbeats 8000000
namespace Go.Sh
structure CrS (W : SW) (U M : Bits) (n i : Nat) (ch rt : Int) : Prop where
  inv : SwInv W U M
  R : W.R = []
  em : W.em = []
  it : ∀ x ∈ W.L, x.swept = false /\ ∃ y, W.S.sp x.id = some y /\ y.2.pages = 1 /\ (∀ m, U x.id m = (m == 0)) /\ ∀ m, M x.id m = false
  len : W.L.length = n - i
  le : i <= n
  rp : W.repaid = (i : Int)
  cg : W.charged = ch
  rt : W.rate = rt
structure CrP (W : SW) (U M : Bits) (i : Nat) : Prop where
  inv : SwInv W U M
  la : ∃ b, LaidB W.S b /\ b <= 512 + 512 * (i : Int)
  R : W.R = []
  em : W.em = []
  M0 : ∀ id m, M id m = false
  it : ∀ x ∈ W.L, x.swept = true /\ ∃ y, W.S.sp x.id = some y /\ y.2.pages = 1 /\ ∀ m, U x.id m = (m == 0)
  len : W.L.length = i
theorem SW.debt_eq {W : SW} {U M : Bits} {n i : Nat} {ch rt : Int} (h : CrS W U M n i ch rt) : W.debt = if timesV ch rt < (i : Int) then 0 else timesV ch rt - i := by
  unfold SW.debt
  rw [h.rp, h.cg, h.rt]
section
variable {E : Env} {w : World} {Z : List Pr} {b h s r : Nat} {W : SW} {U M : Bits}
variable (hE : EnvW E)
include hE
theorem swrepayC_spec (hT : ∀ w', Sat Z w' -> TabAt E.g_math_bits_deBruijn64tab w') {n : Nat} {ch rt : Int} (hn : n <= 1000) (hC : CrS W U M n 0 ch rt) (H : Sat (SweepP E b h s r W :: Z) w) {K : Int -> World -> Prop}
    (hK : ∀ i W' U' M', CrS W' U' M' n i ch rt -> (i : Int) <= timesV ch rt -> (i = n ∨ timesV ch rt = (i : Int)) -> ∀ w', Sat (SweepP E b h s r W' :: Z) w' -> K 0 w') : F.sweep_Sweeper_Repay E (some ⟨b, 0, none⟩) K w := by
  unfold F.sweep_Sweeper_Repay T0.sweep_Sweeper_Repay
  have ht := (times_bnd ch rt).1
  refine LOOP_ix (fun q _ w' => ∃ (i : Nat) (W' : SW) (U' M' : Bits), q = n - i /\ CrS W' U' M' n i ch rt /\ (i : Int) <= timesV ch rt /\ Sat (SweepP E b h s r W' :: Z) w') _ ⟨0, W, U, M, rfl, hC, by omega, H⟩ ?_
  rintro q _ _ w2 ⟨i, W1, U1, M1, rfl, hC1, hi, H2⟩
  refine swdebt_spec H2 (by rw [hC1.rp]; omega) fun w5 H5 => ?_
  rw [SW.debt_eq hC1, if_neg (by omega)]
  refine CND_dec (fun hpos => ?_) fun hno => hK i W1 U1 M1 hC1 hi (.inr (by omega)) w5 H5
  obtain ⟨Rq, HHq, _, _⟩ := H5.swSets
  have hnd := HHq.setsInv.nd
  refine swnext_spec hE H5 hC1.inv (fun hall w8 H8 => CND_t rfl ?_) fun x hx hI4 w8 H8 => CND_f rfl ?_
  · refine hK i W1 U1 M1 hC1 hi (.inl ?_) w8 H8
    have hlen := hC1.len
    have hle := hC1.le
    cases hL : W1.L with
    | nil => rw [hL] at hlen; simp at hlen; omega
    | cons x l =>
      have hx : x ∈ W1.L := by rw [hL]; exact List.mem_cons_self
      have := (hC1.it x hx).1
      rw [hall x hx] at this; cases this
  obtain ⟨hxs, y, y1, y2, y3, y4⟩ := hC1.it x hx.1
  have hok := (hC1.inv.sp _ y y1).1
  have hsz := hok.size
  have hp := remB_perm hnd hx.1
  have hlen : W1.L.length = (remB W1.L x.id).length + 1 := by rw [hp.length_eq]; rfl
  have hWl := hC1.len
  have y1' : ({ W1 with L := remB W1.L x.id } : SW).S.sp x.id = some y := y1
  refine swone_spec hE hT H8 hI4 (by show (remB W1.L x.id).length < _; omega) (by show W1.em.length + W1.R.length <= _; rw [hC1.em, hC1.R]; decide) (fun z hz => (mem_remB.1 hz).2) (fun hn => by rw [y1'] at hn; cases hn) (fun z hz ⟨m, hm1, _⟩ => by rw [y4] at hm1; cases hm1) fun k gone W4 U4 M4 hone hI5 w12 H12 => CND_f rfl ?_
  obtain ⟨_, hU, hM, uw, Wm, hWm, hc⟩ := hone.run (show (SW.R _) = [] from hC1.R) y1'
  have e1 : (fun i => U1 x.id i && M1 x.id i) = fun _ => false := by funext m; rw [y4, Bool.and_false]
  have c0 : ∀ m, cN (fun _ => false) m = 0 := fun m => by
    induction m with
    | zero => rfl
    | succ m ih => show cN _ m + _ = 0; rw [ih]; rfl
  rw [e1, c0] at hc
  rcases hc with ⟨g, _⟩ | ⟨_, _, rfl, a, ha, hW'⟩ | ⟨_, g, _⟩
  · cases g
  rotate_left
  · exact absurd rfl g
  rw [hWm] at hW'
  have hle := hC1.le
  refine ⟨n - (i + 1), by omega, i + 1, W4, U4, M4, rfl, ⟨hI5, by rw [hW']; exact hC1.R, by rw [hW']; exact hC1.em, fun z hz => ?_, ?_, by omega, ?_, by rw [hW']; exact hC1.cg, by rw [hW']; exact hC1.rt⟩, by rw [show ((i + 1 : Nat) : Int) = (i : Int) + 1 from rfl]; omega, H12⟩
  · have hz : z ∈ remB W1.L x.id := by rw [hW'] at hz; exact hz
    obtain ⟨z1, z2⟩ := mem_remB.1 hz
    obtain ⟨q1, v, q2, q3, q4, q5⟩ := hC1.it z z1
    refine ⟨q1, v, ?_, q3, ?_, ?_⟩
    · rw [hW']
      show (if z.id = (a : Int) + 1 then none else (HS.put _ _ _).sp z.id) = _
      rw [if_neg (by rw [<- ha]; exact z2), HS.put_ne z2]; exact q2
    · rw [hU]; unfold Bits.set; rw [if_neg z2]; exact q4
    · rw [hM]; unfold Bits.set; rw [if_neg z2]; exact q5
  · rw [hW']
    show (remB W1.L x.id).length = _
    omega
  · rw [hW']
    show u64 (W1.repaid + y.2.pages) = _
    rw [hC1.rp, y2, u64_id (by omega) (by omega)]; rfl
theorem credit_spec (hT : TabAt E.g_math_bits_deBruijn64tab w) {a0 a1 a2 : Int} (h1 : 0 <= a1 /\ a1 < 18446744073709551616) {K : Bool -> World -> Prop} (hK : ∀ w', Ext Nothing w w' -> K true w') : F.mallowlaw18_SweepCredit E a0 a1 a2 K w := by
  unfold F.mallowlaw18_SweepCredit T0.mallowlaw18_SweepCredit
  refine JOIN_intro (fun st w' => w' = w /\ (st.1 = false -> 0 <= a0 /\ a0 <= 20 /\ a1 <= 1073741824 /\ 0 <= a2 /\ a2 <= 3)) (CND_dec (fun _ => ⟨rfl, fun h => by cases h⟩) fun g1 => CND_dec (fun _ => ⟨rfl, fun h => by cases h⟩) fun g2 => CND_dec (fun _ => ⟨rfl, fun h => by cases h⟩) fun g3 => CND_dec (fun _ => ⟨rfl, fun h => by cases h⟩) fun g4 => ⟨rfl, fun h => by have := of_decide_eq_false h; omega⟩) ?_
  rintro ⟨st, u⟩ _ w3 ⟨rfl, hc⟩
  dsimp only at hc ⊢
  refine CND_intro (fun _ => hK w3 (Ext.refl _ _)) fun hst => ?_
  obtain ⟨c0, c1, c2, c3, c4⟩ := hc hst
  have hTT : ∀ {Y : List Pr} {w'} (i : Nat), Sat Y w' -> Y[i]? = some (Old w3) -> TabAt E.g_math_bits_deBruijn64tab w' := fun i h hi => hT.ext (h.old i hi)
  have haw : ∀ {Y : List Pr} {w'} (i : Nat), Sat Y w' -> Y[i]? = some (Old w3) -> F.mallowlaw18_awake E (fun r6 w7 => K r6 w7) w' := fun i h' hi => awake18_spec hE (fun w' h => hTT i h hi) h' fun w7 H7 => hK w7 (H7.old i hi)
  have hTz : ∀ w', Sat [Old w3] w' -> TabAt E.g_math_bits_deBruijn64tab w' := fun w' h' => hTT 0 h' rfl
  obtain ⟨n0, hn0⟩ : ∃ n0 : Nat, a0 = (n0 : Int) := ⟨a0.toNat, by omega⟩
  refine fresh18_spec (hS := hE.toEnvS) (Sat.start w3) fun b h s r w6 H6 => CND_f rfl ?_
  have bad : ¬ spBad 0 1 5 := by unfold spBad; rw [cls5]; omega
  refine LOOP_intro (fun st w' => ∃ (i : Nat) (W : SW) (U M : Bits), st.1 = (i : Int) /\ i <= n0 /\ CrP W U M i /\ Sat [SweepP E b h s r W, Old w3] w') (fun st _ => (a0 - st.1).toNat)
    ⟨0, _, bits0, bits0, rfl, Nat.zero_le _, ⟨SwInv.new [] [] [], ⟨512, LaidB.new [], by decide⟩, rfl, rfl, fun _ _ => rfl, fun x hx => (by cases hx), rfl⟩, H6⟩ ?_
  rintro ⟨i', u⟩ _ w8 ⟨i, W, U, M, hi, hil, hP, H8⟩
  dsimp only at hi ⊢
  subst hi
  refine CND_dec (fun hlt => ?_) fun hge => ?_
  · refine swheap_spec H8 ?_
    obtain ⟨R, HH, hz, hb1⟩ := H8.swHeap
    obtain ⟨bb, hL, hbb⟩ := hP.la
    have hu : upN 1 = 512 := by decide
    refine halloc_ok hE.toEnvA (fun w' h' => hTz w' (hz h')) HH hP.inv.hI hL bad (by decide) (by omega) fun _ page S2 bl id X hf hk hI2 q0' q1 hX hI3 w14 H14 => ?_
    obtain ⟨hI4, hnone⟩ := hP.inv.keep (np := false) hf hX q0' q1 bad (by decide) hI3
    obtain ⟨b', hb', hL'⟩ := hf.laid hL hk (by decide) (by omega)
    have es := hf.same
    have hspid : (S2.keep id (bl, spOf page 1 5 false) page 1 X).sp id = some (bl, spOf page 1 5 false) := if_pos rfl
    have hspne : ∀ i, i ≠ id -> (S2.keep id (bl, spOf page 1 5 false) page 1 X).sp i = W.S.sp i := fun i hi => by
      show (if i = id then _ else S2.sp i) = _
      rw [if_neg hi, es.sp]
    have hL2 := hL'.keep id (bl, spOf page 1 5 false) page 1 X
    have H15 := hb1 H14
    generalize S2.keep id (bl, spOf page 1 5 false) page 1 X = S1 at hspid hspne hI4 hL2 H15
    refine swheap_spec H15 (swspan_spec H15 (fun hn' => by rw [show (SW.S _).sp id = _ from hspid] at hn'; cases hn') fun y hy => ?_)
    rw [show (SW.S _).sp id = _ from hspid] at hy
    cases hy
    refine JOIN_in (CND_f rfl fun _ => CND_f rfl ?_)
    have hslt : (0 : Int) < (spOf page 1 5 false).slots := by
      show (0 : Int) < (if (5 : Int) = 0 then 1 else (clsAt 5).2.2.1)
      rw [cls5f]; decide
    refine swslot_spec (x := (bl, spOf page 1 5 false)) hTz H15 hI4 hspid (fun hall => ?_) fun m uw' hm hum hlow hI5 w25 H25 => ?_
    · have := hall 0 hslt
      rw [Bits.set_at] at this; cases this
    obtain rfl : m = 0 := by
      rcases Nat.eq_zero_or_pos m with e | e
      · exact e
      · have := hlow 0 e
        rw [Bits.set_at] at this; cases this
    have hsp2 : ({ W with S := S1.put id (bl, { spOf page 1 5 false with uw := uw', used := (spOf page 1 5 false).used + 1, look := ((0 : Nat) : Int) + 1 }) } : SW).S.sp id = some (bl, { spOf page 1 5 false with uw := uw', used := (spOf page 1 5 false).used + 1, look := ((0 : Nat) : Int) + 1 }) := HS.put_sp
    have hno : ∀ x ∈ W.L, x.id ≠ id := fun x hx e => by
      obtain ⟨v, hv, _⟩ := hP.inv.it x hx
      rw [e, hnone] at hv; cases hv
    refine swput_spec hE H25 hI5 (by show W.L.length < _; rw [hP.len]; omega) (fun hn' => by rw [hsp2] at hn'; cases hn') (fun _ ⟨z, hz2, e⟩ => absurd e (hno z hz2)) fun y hy _ blk hI6 w27 H27 => CND_f rfl ?_
    rw [hsp2] at hy
    cases hy
    have hUid : ∀ m, ((U.set id none1).set id fun i => (U.set id none1) id i || i == 0) id m = (m == 0) := fun m => by rw [Bits.set_at, Bits.set_at]; simp [none1]
    have hUne : ∀ j, j ≠ id -> ((U.set id none1).set id fun i => (U.set id none1) id i || i == 0) j = U j := fun j hj => by unfold Bits.set; rw [if_neg hj, if_neg hj]
    have hM0 : ∀ j m, (M.set id none1) j m = false := fun j m => by
      unfold Bits.set
      split
      · rfl
      · exact hP.M0 j m
    rw [show i64 ((i : Int) + 1) = ((i + 1 : Nat) : Int) by rw [i64_id (by omega) (by omega)]; rfl]
    refine ⟨⟨i + 1, _, _, _, rfl, by omega, ⟨hI6, ⟨b', hL2.sameV rfl rfl, by rw [show ((i + 1 : Nat) : Int) = (i : Int) + 1 from rfl]; rcases hb' with rfl | rfl <;> omega⟩, hP.R, hP.em, hM0, fun x hx => ?_, ?_⟩, H27⟩, by omega⟩
    · rcases mem_insB.1 hx with rfl | hx
      · exact ⟨rfl, _, hsp2, rfl, hUid⟩
      · obtain ⟨q1, v, q2, q3, q4⟩ := hP.it x hx
        have ne := hno x hx
        exact ⟨q1, v, (HS.put_ne ne).trans ((hspne _ ne).trans q2), q3, by rw [hUne _ ne]; exact q4⟩
    · show (insB W.L _).length = i + 1
      rw [(insB_perm W.L _).length_eq]
      show W.L.length + 1 = i + 1
      rw [hP.len]
  obtain rfl : i = n0 := by omega
  refine swmark_spec hE H8 hP.inv (a1 := ⟨none, 0, 0⟩) (as_ := []) (fun w' h' => (rfl : ([] : List Value) = [])) rfl (by decide) (fun a ha => by cases ha) (fun hpos => ?_) fun _ S' he hI2 w29 H29 => CND_f rfl ?_
  · exfalso
    have : cntS W.L false = 0 := by
      show (W.L.filter _).length = 0
      rw [List.length_eq_zero_iff, List.filter_eq_nil_iff]
      intro x hx
      rw [(hP.it x hx).1]; simp
    omega
  have hMm : M.mark W.S [] = M := by funext j k; simp [Bits.mark]
  rw [hMm] at hI2
  refine AL_cells (vs := [.int .u64 0, .int .u64 4535124824762089472, .int .u64 4539628424389459968, .int .u64 4544132024016830464]) H29 fun b30 w31 H31 _ => ⟨⟨by omega, by omega⟩, ?_⟩
  obtain ⟨rt, own, hrc, hrt, howed⟩ : ∃ rt : Int, ∃ z : Unit, [Value.int .u64 0, .int .u64 4535124824762089472, .int .u64 4539628424389459968, .int .u64 4544132024016830464][a2.toNat]? = some (.int .u64 rt) /\ 0 <= timesV a1 rt /\
      timesV a1 rt = (if a2 = 0 then 0 else if a2 = 1 then a1 / 65536 else if a2 = 2 then a1 * 2 / 65536 else a1 * 4 / 65536) := by
    have tz : ∀ (r sN : Nat), rd r = .number false 4503599627370496 (-(sN : Int)) -> 52 <= sN -> sN < 1000 -> timesV a1 (r : Int) = a1 / ((2 ^ (sN - 52) : Nat) : Int) := fun r sN hr hs hs2 => by
      rcases Int.lt_or_eq_of_le h1.1 with g | g
      · obtain ⟨k, rfl⟩ := Int.eq_ofNat_of_zero_le h1.1
        rw [times_pow (by omega) (by omega) hr hs hs2]; rfl
      · rw [<- g, Int.zero_ediv]
        have hr0 : timesV ((0 : Nat) : Int) (r : Int) = 0 := times_n0 r hr
        exact hr0
    rcases (show a2 = 0 ∨ a2 = 1 ∨ a2 = 2 ∨ a2 = 3 by omega) with rfl | rfl | rfl | rfl
    · exact ⟨0, (), rfl, (times_bnd _ _).1, by rw [if_pos rfl]; exact times_zero a1⟩
    · exact ⟨4535124824762089472, (), rfl, (times_bnd _ _).1, by rw [if_neg (by decide), if_pos rfl]; exact tz _ _ rd_16 (by decide) (by decide)⟩
    · refine ⟨4539628424389459968, (), rfl, (times_bnd _ _).1, ?_⟩
      rw [if_neg (by decide), if_neg (by decide), if_pos rfl]
      have := tz _ _ rd_15 (by decide) (by decide)
      have h2 : ((2 ^ (67 - 52) : Nat) : Int) = 32768 := by decide
      rw [h2] at this
      have h3 : timesV a1 4539628424389459968 = a1 / 32768 := this
      omega
    · refine ⟨4544132024016830464, (), rfl, (times_bnd _ _).1, ?_⟩
      rw [if_neg (by decide), if_neg (by decide), if_neg (by decide)]
      have := tz _ _ rd_14 (by decide) (by decide)
      have h2 : ((2 ^ (66 - 52) : Nat) : Int) = 16384 := by decide
      rw [h2] at this
      have h3 : timesV a1 4544132024016830464 = a1 / 16384 := this
      omega
  refine ⟨rt, by rw [Nat.mul_one]; exact H31.cell (by rw [Nat.zero_add]; exact hrc), ?_⟩
  refine swpace_spec H31.tail fun w33 H33 => ?_
  refine swcharge_spec H33 (by show (0 : Int) <= 0 /\ (0 : Int) < _; decide) h1 fun w34 H34 => ⟨by decide, ?_⟩
  have hcv : chargedV 0 a1 = a1 := by unfold chargedV; rw [if_neg (by omega)]; omega
  have hCS : CrS { W with S := S', L := flipL W.L, rate := rt, charged := chargedV 0 a1, repaid := 0 } U M i 0 a1 rt := by
    refine ⟨⟨hI2.hI, hI2.sp, hI2.it⟩, hP.R, hP.em, fun z hz => ?_, ?_, Nat.zero_le _, rfl, hcv, rfl⟩
    · obtain ⟨x, hx, rfl⟩ := List.mem_map.1 hz
      obtain ⟨q1, v, q2, q3, q4⟩ := hP.it x hx
      obtain ⟨mw, q5⟩ := he.sp _ v q2
      exact ⟨rfl, _, q5, q3, q4, hP.M0 _⟩
    · show (flipL W.L).length = _
      unfold flipL
      rw [List.length_map, hP.len]; rfl
  have H34 : Sat [SweepP E b h s r { W with S := S', L := flipL W.L, rate := rt, charged := chargedV 0 a1, repaid := 0 }, Old w3] w34 := H34
  generalize ({ W with S := S', L := flipL W.L, rate := rt, charged := chargedV 0 a1, repaid := 0 } : SW) = W4 at hCS H34
  refine JOIN_intro (fun st w' => w' = w34 /\ st.1 = (if a2 = 0 then 0 else a1 / 65536)) (CND_eq (fun e => ⟨rfl, by rw [if_pos e]⟩) fun e => ⟨rfl, by
    rw [if_neg e]
    show u64 (Int.tdiv a1 65536) = _
    rw [Int.tdiv_eq_ediv_of_nonneg h1.1, u64_id (by omega) (by omega)]⟩) ?_
  rintro ⟨o1, u⟩ _ w37 ⟨rfl, ho1⟩
  dsimp only at ho1 ⊢
  refine JOIN_intro (fun st w' => w' = w37 /\ st.1 = timesV a1 rt) (CND_dec (fun g => ?_) fun g => ⟨rfl, ?_⟩) ?_
  · have e1 : i64 (a2 - 1) = a2 - 1 := i64_id (by omega) (by omega)
    rw [e1]
    refine ⟨by omega, by decide, LET_intro fun ow how => ⟨rfl, ?_⟩⟩
    show ow = _
    rw [how, howed]
    rcases (show a2 = 2 ∨ a2 = 3 by omega) with rfl | rfl
    · show u64 (Int.tdiv (u64 (a1 * 2 ^ 1)) 65536) = a1 * 2 / 65536
      rw [show a1 * 2 ^ 1 = a1 * 2 by rfl, u64_id (n := a1 * 2) (by omega) (by omega), Int.tdiv_eq_ediv_of_nonneg (by omega), u64_id (by omega) (by omega)]
    · show u64 (Int.tdiv (u64 (a1 * 2 ^ 2)) 65536) = a1 * 4 / 65536
      rw [show a1 * 2 ^ 2 = a1 * 4 by rfl, u64_id (n := a1 * 4) (by omega) (by omega), Int.tdiv_eq_ediv_of_nonneg (by omega), u64_id (by omega) (by omega)]
  · show o1 = _
    rw [ho1, howed]
    rcases (show a2 = 0 ∨ a2 = 1 by omega) with rfl | rfl
    · rfl
    · rfl
  rintro ⟨T, u⟩ _ w40 ⟨rfl, hTv⟩
  dsimp only at hTv ⊢
  have hTb : T <= 1073741824 := by
    rw [hTv, howed]
    split
    · decide
    · split
      · omega
      · split <;> omega
  have hT0 : 0 <= T := by rw [hTv]; exact hrt
  refine JOIN_intro (fun st w' => st.1 = false /\ ∃ (j : Nat) (W5 : SW) (U5 M5 : Bits), CrS W5 U5 M5 i j a1 rt /\ (j : Int) <= T /\ (j = i ∨ T = (j : Int)) /\ Sat [SweepP E b h s r W5, Old w3] w') ?_ ?_
  · refine swdebt_spec H34 (by rw [hCS.rp]; exact Int.le_refl _) fun w46 H46 => ?_
    rw [SW.debt_eq hCS, if_neg (by omega), <- hTv]
    refine CND_ne (fun e => absurd (by simp) e) fun _ => swrepayC_spec hE hTz (by omega) hCS H46 fun j W5 U5 M5 k1 k2 k3 w48 H48 => ⟨rfl, j, W5, U5, M5, k1, by rw [hTv]; exact k2, by rw [hTv]; exact k3, H48⟩
  rintro ⟨s43, u⟩ _ w44 ⟨h43, j, W5, U5, M5, k1, k2, k3, H44⟩
  refine CND_f h43 ?_
  have ua : u64 a0 = (i : Int) := by rw [hn0]; exact u64_id (by omega) (by omega)
  rw [ua]
  have hji := k1.le
  refine JOIN_intro (fun st w' => w' = w44 /\ st.1 = (i : Int) - j) (CND_dec (fun g => ⟨rfl, by show u64 ((i : Int) - T) = _; rw [u64_id (by omega) (by omega)]; omega⟩) fun g => ⟨rfl, by show (0 : Int) = _; omega⟩) ?_
  rintro ⟨lf, u⟩ _ w51 ⟨rfl, hlf⟩
  refine JOIN_intro (fun st w' => w' = w51 /\ st.1 = T - j) (CND_dec (fun g => ⟨rfl, by show u64 (T - (i : Int)) = _; rw [u64_id (by omega) (by omega)]; omega⟩) fun g => ⟨rfl, by show (0 : Int) = _; omega⟩) ?_
  rintro ⟨ov, u⟩ _ w54 ⟨rfl, hov⟩
  dsimp only at hlf hov ⊢
  refine swsets_spec H44 ?_
  obtain ⟨R, HH, hz, hb⟩ := H44.swSets
  refine secount_spec HH fun w58 H58 => ?_
  have hcnt : cntS W5.L false = i - j := by
    rw [<- k1.len]
    show (W5.L.filter _).length = _
    rw [List.filter_eq_self.2 fun x hx => by rw [(k1.it x hx).1]; rfl]
  rw [hcnt, u64_id (by omega) (by omega)]
  refine CND_t (by rw [hlf]; simp; omega) (swdebt_spec (hb H58) (by rw [show (SW.repaid _) = W5.repaid from rfl, k1.rp]; omega) fun w60 H60 => ?_)
  have hdb : ({ W5 with L := W5.L } : SW).debt = T - j := by
    show W5.debt = _
    rw [SW.debt_eq k1, <- hTv, if_neg (by omega)]
  rw [hdb]
  exact CND_t (by rw [hov]; simp) (haw 1 H60 rfl)
end
end Go.Sh

namespace Go.Proofs.YtdnkgjeggfhfiaaGreatDoor.sweepCredit
open Go.ChangeShapes Go.WideShapes Go.ChangeAt Go.RowKit
set_option linter.unusedVariables false
set_option linter.unusedSimpArgs false
theorem own : ownKnob Tryz.prog.godebug = none := by kernel_rfl
theorem laidOut : laidOutB Tryz.prog = true := by kernel_rfl
theorem gTab : Tryz.prog.globalNamed "math/bits.deBruijn64tab" = some 0 := by kernel_rfl
theorem gTabType : (Tryz.prog.globals[0]?).map (·.type) = some 212 := by kernel_rfl
theorem und1 : Tryz.prog.underlying 212 = some (.array 64 5) := by kernel_rfl
theorem und2 : Tryz.prog.underlying 5 = some (.int .u8) := by kernel_rfl
theorem cells1 : Tryz.prog.cellsOf 212 = 64 := by kernel_rfl
theorem cells2 : Tryz.prog.cellsOf 5 = 1 := by kernel_rfl
theorem table {W : World} (h : laidMetH Tryz.prog Rows.sweepCreditRow.laid W) : Go.Sh.TabAt Go.Sh.env.g_math_bits_deBruijn64tab W := by
  have ht := Lib.tabIs_of_head (rest := []) (k := .u8) (zs := Lib.deBruijn64tab.map fun n : Nat => (n : Int)) gTab gTabType und1 und2 cells2 cells1 h
  intro i hi
  have := ht.cell gTab i (by rw [List.length_map]; exact hi)
  rw [show (Lib.deBruijn64tab.map fun n : Nat => (n : Int)).getD i 0 = ((Lib.deBruijn64tab.getD i 0 : Nat) : Int) by rw [List.getD_eq_getElem?_getD, List.getD_eq_getElem?_getD, List.getElem?_map]; cases Lib.deBruijn64tab[i]? <;> rfl] at this
  exact this
theorem walk (x : Go.Sh.ArgTs [.int .i64, .int .u64, .int .i64]) (w : World) (h : Go.Sh.argOks w [.int .i64, .int .u64, .int .i64] x) (hT : Go.Sh.TabAt Go.Sh.env.g_math_bits_deBruijn64tab w) :
    Calls Tryz.prog 7 ⟨Go.Sh.argVals [.int .i64, .int .u64, .int .i64] x⟩ w fun e w' => e = .returned (.bool true) /\ Below w.heap.size w w' := by
  obtain ⟨a0, a1, a2, u⟩ := x
  obtain ⟨w0, w1, w2, _⟩ := h
  refine (Go.Sh.fits7 _ w (fun v w' => v = .bool true /\ Below w.heap.size w w') Go.Sh.noP ?_).2.mono ?_
  · show Go.Sh.F.mallowlaw18_SweepCredit Go.Sh.env a0 a1 a2 (fun r w' => Value.bool r = .bool true /\ Below w.heap.size w w') w
    exact Go.Sh.credit_spec Go.Sh.envW hT (Go.Sh.u64_wf w1) fun w' h => ⟨rfl, h.below (Nat.le_refl _) fun _ f => f.elim⟩
  · intro e w' hE
    obtain ⟨v, rfl, rfl, h⟩ := hE.val
    exact ⟨rfl, h⟩
noncomputable def laidWorld (os : Os) : World :=
  { World.holding Tryz.prog os ⟨#[], #[], []⟩ with heap := (World.holding Tryz.prog os ⟨#[], #[], []⟩).heap.modify 0 fun
      | .cells _ t frozen => .cells ⟨Lib.deBruijn64tab.map fun n : Nat => .int .u8 (n : Int)⟩ t frozen
      | o => o }
theorem laid_met (os : Os) : laidMet Tryz.prog Rows.sweepCreditRow.laid ((laidWorld os).forCall (fun _ _ => 0) ⟨#[], #[.int .i64 0, .int .u64 0, .int .i64 0], []⟩).memory :=
  laidMet_of_run' 8 (by kernel_rfl) (by kernel_rfl)
theorem reads (os : Os) {H : Type} (enc : TypeId × Value -> H) : ∃ places, DataW.whole enc Tryz.prog ((laidWorld os).forCall (fun _ _ => 0) ⟨#[], #[.int .i64 0, .int .u64 0, .int .i64 0], []⟩).memory Tryz.f7.params.toList Rows.sweepCreditSpec.vars false (#[.int .i64 0, .int .u64 0, .int .i64 0] : Array Value).toList 8 = some ([.lit (.int .i64 0), .lit (.int .u64 0), .lit (.int .i64 0)], [], places) :=
  ⟨[], by kernel_rfl⟩
set_option maxRecDepth 100000 in
theorem lifted (os : Os) (started : os.Started) (H : Type) (enc : TypeId × Value -> H) (F : Stop.Interp) :
    ReturnsInHanded {} Tryz.checked os 7 .any ((OpenSpec.ofChange Rows.sweepCreditSpec).preRow enc Tryz.prog Tryz.f7 Rows.sweepCreditRow.domain false Rows.sweepCreditRow.laid) (((OpenSpec.ofChange Rows.sweepCreditSpec).at F).post enc Tryz.prog Tryz.f7 false true false false) := by
  obtain ⟨places, hx⟩ := reads os enc
  refine returnsInHanded_of_row (C := Tryz.checked) (s := OpenSpec.ofChange Rows.sweepCreditSpec) own started (by kernel_rfl) Tryz.func7
    (witness_row_at (enc := enc) (C := Tryz.checked) false (laidWorld os) #[.int .i64 0, .int .u64 0, .int .i64 0] rfl (by kernel_rfl) (by kernel_rfl) (by kernel_rfl)
      (OpenSpec.preRow_of_cond 8 hx (by kernel_rfl) (fun k hk => by cases hk) (by kernel_rfl) (laid_met os))) ?_
  intro W base args ds gs before hval0 hW _ _ _ hL _ _
  have hW' := hW
  obtain ⟨p, q, hA, hV, rfl, hfz, hnd⟩ := hW
  obtain ⟨rfl, rfl⟩ := trodVars_none hV
  have hargs := Go.Sh.args_of (P := Tryz.prog) (shs := [.int .i64, .int .u64, .int .i64]) (by kernel_rfl) (fun j t v ht hv => hval0 j t v (by simpa using ht) (by simpa using hv)) hA
  obtain ⟨x, hx, hok⟩ := Go.Sh.argVals_of hargs
  obtain rfl : args = ⟨Go.Sh.argVals [.int .i64, .int .u64, .int .i64] x⟩ := Array.toList_inj.1 (by simpa using hx)
  have hlen := Go.Sh.trodAll_len hA
  obtain ⟨d0, d1, d2, rfl⟩ : ∃ d0 d1 d2, ds = [d0, d1, d2] := by
    have hl : ds.length = 3 := hlen
    match ds, hl with
    | [d0, d1, d2], _ => exact ⟨d0, d1, d2, rfl⟩
  refine (walk x W hok (table hL)).mono fun e W' ⟨he, bel⟩ => ?_
  subst he
  exact ⟨_, rfl, _, _, _, [], _, [], hW', trodAll_mk1 (shut_bool Tryz.underlying4 _), Go.Sh.trodAll_below laidOut bel (by kernel_rfl) hA, rfl, bel.frame _, fun h => by cases h⟩
theorem said : Rows.SweepCreditSaid :=
  OpenClaim.holds_of_cond 7 Tryz.f7 rfl rfl rfl rfl rfl rfl rfl ⟨rfl, rfl, rfl, rfl, rfl⟩ rfl rfl rfl rfl rfl (by kernel_rfl) Tryz.func7 (by kernel_rfl)
    (of_decide_eq_true (by kernel_rfl)) (by unfold Func.isWrapper; first | (rw [if_pos (by decide +kernel)]; kernel_rfl) | (rw [if_neg (by decide +kernel)]; exact ⟨rfl, rfl⟩))
    (fun os started H enc _ F => by rw [OpenClaim.pre_eq_preRow]; exact lifted os started H enc F)
theorem plain (f : FuncId) (fn : Func) (hf : Tryz.pinned.checked.prog.funcNamed "mallow/mallowlaw18.SweepCredit" = some f) (hfn : Tryz.pinned.checked.prog.funcs[f]? = some fn) :
    true = Tryz.pinned.checked.prog.looks [] /\ ∀ (j : Nat) t, fn.params[j]? = some t -> Tryz.pinned.checked.prog.wantsStandIn t = false := by
  obtain rfl : f = 7 := Option.some.inj ((show Tryz.prog.funcNamed "mallow/mallowlaw18.SweepCredit" = some 7 by kernel_rfl).symm.trans hf) |>.symm
  obtain rfl : fn = Tryz.f7 := (Option.some.inj (Tryz.func7.symm.trans hfn)).symm
  refine ⟨by kernel_rfl, fun j t ht => ?_⟩
  have hall : (Tryz.f7.params.toList.all fun t => !(Tryz.prog.wantsStandIn t)) = true := by kernel_rfl
  have := List.all_eq_true.1 hall t (Array.mem_toList_iff.2 (Array.mem_of_getElem? ht))
  exact Bool.not_eq_true' _ ▸ this
theorem proved : Rows.SweepCreditCardSaid :=
  Claim7.holds_tied_plain_at .later [] _ _ _ _ said (fun _ h => by cases h) (by kernel_rfl) (fun _ h => by cases h) sweepCredit_row_tie rfl ⟨rfl, rfl⟩ (by kernel_rfl) rfl plain (by kernel_rfl)
#print axioms proved
end Go.Proofs.YtdnkgjeggfhfiaaGreatDoor.sweepCredit
