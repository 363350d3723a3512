/- The law StacksRefused holds (its card: math/bits' table as the program's text lays it): for every input the Go function returns true and leaves its arguments alone. No further condition. -/
import Derived.Test.YtcmlamembchcdaaGreatDoorK
import Derived.Test.YtcmlamembchcdaaGreatDoorQ
import Derived.Test.YtcmlamembchcdaaGreatDoorA
import Derived.Test.YtcmlamembchcdaaGreatDoorCards
import Derived.Test.YtcmlamembchcdaaGreatDoorTie
import Derived.WalkKit
import Derived.ProofKit
import Derived.OpenShut
import Derived.Deep.DeepHandedRow
import Derived.Lib.LaidTab
set_option linter.all false
set_option maxRecDepth 8000
set_option maxHeartbeats 4000000
namespace Go.Sh

theorem T0_rdy {rf : List Bool} {S : HS} (h : RfSt S 0 512 512 []) (hs : ∀ id, S.sp id = none) (o : Nat) : Rdy ⟨S, fun _ => [], fun _ _ => false, fun _ => none⟩ o 4194304 0 false 0 512 512 :=
  ⟨h, by decide, fun id x hx => (by rw [show (⟨S, fun _ => [], fun _ _ => false, fun _ => none⟩ : ST).S.sp id = none from hs id] at hx; cases hx), fun _ _ _ _ => rfl, by decide, .inl ⟨rfl, rfl, by decide, fun _ => rfl⟩⟩

section
variable {E : Env} {w : World} {Z : List Pr} {b h : Nat} {T : ST} {g : SG} {o i : Nat} {next bb : Int} {r : List Bool}

section
variable (hE : EnvA E)
include hE

theorem small_lost (hT : ∀ w', Sat Z w' → TabAt E.g_math_bits_deBruijn64tab w') (H : Sat (stres E b h T g ++ Z) w) {p : Nat} (hp : p < 64) (ho : o < 4) (hR : RfSt T.S i next bb (true :: r)) (hnb : bb ≤ 100000) (hpn : ∀ j, j < 4 → ∀ id, T.pool j id = false) (hrow : T.row (4 * p + o) = []) {K : Int → Int → World → Prop}
    (hK : ∀ S2 w', RfSt S2 i next bb r → S2.sp = T.S.sp → Sat (stres E b h { T with S := S2 } g ++ Z) w' → K 0 13 w') : F.stack_Stacks_small E (some ⟨b, 0, none⟩) p o K w := by
  have hbo := byO_bnd ho
  have hc := byO_c ho
  have hk : 4 * p + o < 256 := by omega
  have hok : HOk T.S := by
    obtain ⟨R, HH, _, _⟩ := H.stHeap
    exact HH.hok
  unfold F.stack_Stacks_small
  simp only [NC_some, add_add, Int.toNat_natCast, Nat.mul_one]
  rw [show 1 + p * 4 + o = (4 * p + o) + 1 by omega]
  refine ⟨⟨by omega, by omega⟩, ⟨by omega, by omega⟩, ?_⟩
  have hlen : ∀ {T' : ST} {g' : SG} {w'}, Sat (stres E b h T' g' ++ Z) w' → (g'.sl (4 * p + o)).len = (T'.row (4 * p + o)).length := fun h' => by
    obtain ⟨M, R, HR, _⟩ := h'.stRow hk
    have := HR.rowLen
    simp only [ints, List.length_map] at this
    omega
  have hpl : ∀ j, j < 4 → ∀ id, T.pool j id = true → T.S.sp id ≠ none := fun j hj id hid => by rw [hpn j hj] at hid; cases hid
  refine JOIN_in ⟨_, (stcell H).2.1 _ hk, CND_eq (fun _ => stbytes_spec ho ⟨by omega, ?_⟩) fun e => absurd (by rw [hlen H, hrow]; rfl) e⟩
  have ec : u64 (Int.tdiv 16384 (byO o)) = 16384 / byO o := by
    rw [Int.tdiv_eq_ediv_of_nonneg (by decide), u64_id (by omega) (by omega)]
  rw [ec]
  refine LOOP_intro (fun st w' => st.1 = 0 ∧ w' = w) (fun _ _ => 0) ⟨rfl, rfl⟩ ?_
  rintro ⟨z, u⟩ _ w9 ⟨hz, rfl⟩
  dsimp only at hz ⊢
  subst hz
  refine CND_dec (fun _ => ?_) fun g => absurd (by omega) g
  refine sttake_spec hE hT H hR.inv ho hpl (U := fun _ _ => false) (fun id x hid => by rw [hpn o ho] at hid; cases hid) (fun id x n hid => by rw [hpn o ho] at hid; cases hid) (fun _ S2 hl hI2 w' H' => ?_) fun _ page S2 bl id X hf q0 q1 hX hI3 w' H' => ?_
  · rcases hR.lost hok hok.clr (by decide) (by rw [show upN 4 = 512 by decide]; omega) hl hI2 with ⟨r', e, hR2, _, hsp⟩ | ⟨_, e, _⟩
    · cases e
      refine CND_t rfl fun j => ⟨_, (stcell H').2.1 _ hk, CND_eq (fun _ => hK S2 w' hR2 hsp H') fun e => absurd (by rw [hlen H']; show ((T.row (4 * p + o)).length : Int) = 0; rw [hrow]; rfl) e⟩
    · exact absurd rfl (e r)
  · obtain ⟨_, _, _, _, _, e⟩ := hR.keep hok hok.clr (by decide) (by rw [show upN 4 = 512 by decide]; omega) hf hX hI3
    exact absurd rfl (e r)

theorem large_lost (hT : ∀ w', Sat Z w' → TabAt E.g_math_bits_deBruijn64tab w') (H : Sat (stres E b h T g ++ Z) w) (hR : RfSt T.S i next bb (true :: r)) (hnb : bb ≤ 100000) (hpn : ∀ j, j < 4 → ∀ id, T.pool j id = false) {n : Int} (hn0 : 8192 ≤ n) (hn1 : n ≤ 67108864) (hn : n % 8192 = 0) {K : Int → Int → World → Prop}
    (hK : ∀ S2 w', RfSt S2 i next bb r → S2.sp = T.S.sp → Sat (stres E b h { T with S := S2 } g ++ Z) w' → K 0 13 w') : F.stack_Stacks_large E (some ⟨b, 0, none⟩) n K w := by
  have hu := upN_le (n / 8192)
  have hok : HOk T.S := by
    obtain ⟨R, HH, _, _⟩ := H.stHeap
    exact HH.hok
  unfold F.stack_Stacks_large
  simp only [NC_some]
  refine ⟨_, (stcell H).1, by decide, ?_⟩
  rw [Int.tdiv_eq_ediv_of_nonneg (by omega), u64_id (n := n / 8192) (by omega) (by omega), i64_id (n := n) (by omega) (by omega)]
  obtain ⟨R2, HH, hz, hb⟩ := H.stHeap
  have hgood : ¬ manBad (n / 8192) n := by unfold manBad; omega
  refine hmanual_spec hE (fun w' h' => hT w' (hz h')) HH hR.inv (by omega) (by omega) (by omega) (fun hb => absurd hb hgood) (fun _ S2 hl hI2 w' H' => ?_) fun _ page S2 bl id X hf hI2 q0 q1 hX hI3 w5 H5 => ?_
  · rcases hR.lost hok hok.clr (by omega) (by omega) hl hI2 with ⟨r', e, hR2, _, hsp⟩ | ⟨_, e, _⟩
    · cases e
      exact CND_t rfl (hK S2 w' hR2 hsp (hb (fun j hj k hk => by rw [hpn j hj] at hk; cases hk) H'))
    · exact absurd rfl (e r)
  · obtain ⟨_, _, _, _, _, e⟩ := hR.keep hok hok.clr (by omega) (by omega) hf hX hI3
    exact absurd rfl (e r)
end

theorem afterA_no {n a e : Int} (he : e ≠ 0) {K : Int → Int → World → Prop} (hK : K a e w) : afterA b n K a e w := by
  unfold afterA
  intro _
  exact CND_eq (fun h => absurd h he) fun _ => hK

variable (hE : EnvH E)
include hE

theorem refused21_spec (hT : TabAt E.g_math_bits_deBruijn64tab w) {a0 a1 : Int} {K : Bool → World → Prop} (hK : ∀ w', Ext Nothing w w' → K true w') : F.mallowlaw21_StacksRefused E a0 a1 K w := by
  unfold F.mallowlaw21_StacksRefused
  have ht : K true w := hK w (Ext.refl _ _)
  refine JOIN_in (CND_dec (fun _ j => CND_t rfl ht) fun g1 => CND_dec (fun _ j => CND_t rfl ht) fun g2 => CND_ne (fun _ j => CND_t rfl ht) fun g3 => CND_dec (fun _ j => CND_t rfl ht) fun g4 j => CND_dec (fun _ => ht) fun g5 => ?_)
  obtain ⟨n, rfl⟩ := Int.eq_ofNat_of_zero_le (show 0 ≤ a1 by omega)
  obtain ⟨j, hj, hn⟩ : ∃ j : Nat, j ≤ 15 ∧ a0 = 2048 * 2 ^ j := by
    rcases pow_test (n := a0) (by omega) (by omega) with ⟨j, hj, hn, _⟩ | hne
    · exact ⟨j, hj, hn⟩
    · exact absurd g3 hne
  rw [Int.toNat_natCast, Nat.mul_one, mkZero_flags]
  refine ⟨by omega, AL_rows (n := n) (z := 1) (Sat.start w) (by rw [flags_len]; omega) (by omega) fun b4 w5 H5 => ?_⟩
  refine LOOP_intro (fun st w' => ∃ r : Nat, st.1 = (r : Int) ∧ r ≤ n ∧ Sat [Row E.t_bool 1 ⟨some ⟨b4, 0, none⟩, n, n⟩ (flags n fun k => decide (k < (r : Int))), Old w] w') (fun st _ => ((n : Int) - st.1).toNat) ⟨0, rfl, Nat.zero_le _, ?_⟩ ?_
  · rw [flags_congr (v := fun k => decide (k < ((0 : Nat) : Int))) fun k k0 k1 => (decide_eq_false (by omega)).symm] at H5
    exact H5
  rintro ⟨r', v⟩ _ w7 ⟨r, hr, hrn, H7⟩
  dsimp only at hr ⊢
  subst hr
  refine CND_dec (fun hlt => ?_) fun hge => ?_
  · refine ⟨⟨by omega, by omega⟩, ?_⟩
    rw [Int.toNat_natCast, Nat.mul_one, i64_id (n := (r : Int) + 1) (by omega) (by omega)]
    refine st_row H7 rfl (by rw [flags_len]; omega) rfl fun w9 H9 => ⟨⟨r + 1, rfl, by omega, ?_⟩, by omega⟩
    have e := flags_set (n := n) (u := fun k => decide (k < (r : Int))) (i := (r : Int)) (by omega) true
    rw [Int.toNat_natCast, Nat.zero_add] at e
    rw [e, flags_congr (v := fun k => decide (k < ((r + 1 : Nat) : Int))) fun k k0 k1 => ?_] at H9
    · exact H9
    · by_cases g : k = (r : Int)
      · rw [if_pos g]; exact (decide_eq_true (by omega)).symm
      · rw [if_neg g]; exact decide_eq_decide.2 (by omega)
  obtain rfl : r = n := by omega
  have ef : flags r (fun k => decide (k < (r : Int))) = bools (List.replicate r true) := by
    refine List.ext_getElem (by simp [flags, bools]) fun i h1 h2 => ?_
    simp only [flags, bools, List.getElem_map, List.getElem_range, List.getElem_replicate]
    simp only [flags_len] at h1
    rw [decide_eq_true (by omega)]
  rw [ef] at H7
  have hT' : ∀ w', Sat [Row E.t_bool 1 ⟨some ⟨b4, 0, none⟩, r, r⟩ (bools (List.replicate r true)), Old w] w' → TabAt E.g_math_bits_deBruijn64tab w' := fun w' h => hT.ext (h.old 1 rfl)
  have haw : ∀ {w'}, Sat [Row E.t_bool 1 ⟨some ⟨b4, 0, none⟩, r, r⟩ (bools (List.replicate r true)), Old w] w' → F.mallowlaw21_awake E (fun r w'' => K r w'') w' := fun H => awake21_spec hE hT' H fun w'' H'' => hK w'' (H''.old 1 rfl)
  refine fresh21_spec (a0 := ⟨none, 0, 0⟩) (a2 := ⟨none, 0, 0⟩) (pl := []) (rf := List.replicate r true) (fl := []) H7 (by simp) (fun _ _ => show ([] : List Value) = [] from rfl) rfl (by decide)
    (fun w' h => by have := h.rowAll; rwa [Nat.mul_one] at this) (by simp) (by show r ≤ _; omega) (fun _ _ => show ([] : List Value) = [] from rfl) rfl (by decide) fun h w11 H11 => CND_f rfl ?_
  refine stnew_spec H11 fun b g w13 H13 => CND_f rfl ?_
  refine LOOP_intro (fun st w' => ∃ (q : Nat) (S : HS), st.1 = (q : Int) ∧ q ≤ r ∧ RfSt S 0 512 512 (List.replicate (r - q) true) ∧ (∀ id, S.sp id = none) ∧ Sat (stres E b h ⟨S, fun _ => [], fun _ _ => false, fun _ => none⟩ g ++ [Row E.t_bool 1 ⟨some ⟨b4, 0, none⟩, r, r⟩ (bools (List.replicate r true)), Old w]) w') (fun st _ => ((r : Int) - st.1).toNat)
    ⟨0, _, rfl, Nat.zero_le _, RfSt.new _, fun _ => rfl, H13⟩ ?_
  rintro ⟨q', v⟩ _ w15 ⟨q, S, hq, hqr, hR, hs, H15⟩
  dsimp only at hq ⊢
  subst hq
  have hn8 : 4 ≤ j → a0 % 8192 = 0 ∧ 8192 ≤ a0 := fun hj4 => by
    have h4 : (2 : Int) ^ j = 4 * 2 ^ (j - 2) := by
      rw [show (4 : Int) = 2 ^ 2 by decide, ← Int.pow_add]; congr 1; omega
    have h16 : (16 : Int) ≤ 2 ^ j := by
      have := Nat.pow_le_pow_right (n := 2) (by decide) hj4
      exact_mod_cast this
    exact ⟨by rw [hn, h4]; omega, by omega⟩
  refine CND_dec (fun hlt => ?_) fun hge => ?_
  · rw [show r - q = (r - (q + 1)) + 1 by omega, List.replicate_succ] at hR
    have main : ∀ S2 w', RfSt S2 0 512 512 (List.replicate (r - (q + 1)) true) → S2.sp = S.sp → Sat (stres E b h ⟨S2, fun _ => [], fun _ _ => false, fun _ => none⟩ g ++ [Row E.t_bool 1 ⟨some ⟨b4, 0, none⟩, r, r⟩ (bools (List.replicate r true)), Old w]) w' →
        JOIN (Bool × Unit) (fun J20 =>
                    CND ((0 : Int) != 0) (
                      J20 (true, ()) w'
                    ) (
                      CND ((13 : Int) != 13) (
                        J20 (true, ()) w'
                      ) (
                        F.stack_Stacks_Cached E (some ⟨b, 0, none⟩) 0 (fun r23 w24 =>
                        CND ((((r23.len : Nat) : Int) : Int) != 0) (
                          J20 (true, ()) w24
                        ) (
                          F.stack_Stacks_Inuse E (some ⟨b, 0, none⟩) (fun r25 w26 =>
                          J20 ((r25 : Int) != 0, ()) w26
                          ) w24
                        )
                        ) w'
                      )
                    )
                  ) fun s21 _ w22 =>
                    CND (s21.1) (
                      K false w22
                    ) (
                      (∃ (q2 : Nat) (S : HS), i64 ((q : Int) + 1) = (q2 : Int) ∧ q2 ≤ r ∧ RfSt S 0 512 512 (List.replicate (r - q2) true) ∧ (∀ id, S.sp id = none) ∧ Sat (stres E b h ⟨S, fun _ => [], fun _ _ => false, fun _ => none⟩ g ++ [Row E.t_bool 1 ⟨some ⟨b4, 0, none⟩, r, r⟩ (bools (List.replicate r true)), Old w]) w22) ∧ ((r : Int) - i64 ((q : Int) + 1)).toNat < ((r : Int) - (q : Int)).toNat
                    ) := by
      intro S2 w' hR2 hsp H'
      refine JOIN_in (CND_f rfl (CND_f rfl (stcached_spec H' (p := 0) (by decide) ⟨Nat.zero_le _, Nat.zero_le _, Nat.zero_le _, Nat.zero_le _⟩ fun s w24 hsl H24 => ?_)))
      have hsl : s.len = 0 := hsl
      rw [hsl]
      refine CND_f rfl (inuse2_spec hE H24 hR2 (by decide) (fun id x hx => ?_) fun w26 H26 jj => CND_f (by decide) ?_)
      · have hx : S2.sp id = some x := hx
        rw [hsp, hs] at hx; cases hx
      · rw [i64_id (n := (q : Int) + 1) (by omega) (by omega)]
        exact ⟨⟨q + 1, S2, rfl, by omega, hR2, fun id => by rw [hsp]; exact hs id, H26⟩, by omega⟩
    refine stalloc_right (p := 0) (hT' _ (stTail H15)) (by decide) hj hn (by omega) (by omega) g3 (fun hj4 => ?_) fun hj4 => ?_
    · exact small_lost hE.toEnvA hT' H15 (p := 0) (by decide) hj4 hR (by decide) (fun _ _ _ => rfl) rfl fun S2 w' h1 h2 h3 => afterA_no (by decide) (main S2 w' h1 h2 h3)
    · obtain ⟨m1, m2⟩ := hn8 hj4
      exact large_lost hE.toEnvA hT' H15 hR (by decide) (fun _ _ _ => rfl) m2 (by omega) m1 fun S2 w' h1 h2 h3 => afterA_no (by decide) (main S2 w' h1 h2 h3)
  · obtain rfl : q = r := by omega
    rw [Nat.sub_self] at hR
    refine stalloc_right (p := 0) (hT' _ (stTail H15)) (by decide) hj hn (by omega) (by omega) g3 (fun hj4 => ?_) fun hj4 => ?_
    · have hbo := byO_bnd hj4
      have hc := byO_c hj4
      obtain ⟨c, hcc⟩ := Int.eq_ofNat_of_zero_le (show 0 ≤ 16384 / byO j by omega)
      refine small_fill hE.toEnvA hT' H15 (p := 0) (by decide) hj4 (T0_rdy (rf := []) hR hs j) (by decide) rfl (c := c) hcc.symm (by rw [Nat.zero_add]; omega) fun T1 g1 w29 r1 o1 hR1 H29 => afterA_ok H29 fun w30 H30 => ?_
      refine CND_ne (fun _ => CND_t rfl ?_) fun e => ?_
      · have hR1' : Rdy T1 j 4194304 (0 + c) true 1 516 1024 := hR1
        refine inuse2_spec hE H30 hR1'.rf (by decide) hR1'.mn fun w31 H31 => CND_t (by decide) (haw (stTail H31))
      · exfalso
        have h0 : 0 ≤ ((0 + (c - 1) : Nat) : Int) * byO j := Int.mul_nonneg (by omega) (by omega)
        have e : 4194304 + ((0 + (c - 1) : Nat) : Int) * byO j = 0 := e
        omega
    · obtain ⟨m1, m2⟩ := hn8 hj4
      refine large_spec hE.toEnvA hT' H15 hR (by decide) (fun j' _ id hid => (by cases hid)) m1 m2 (by omega) fun S' bl I w29 hrf hsp hU hst hsl hpg hbs hne how H29 => afterA_ok H29 fun w30 H30 => ?_
      refine CND_t (by decide) (CND_t rfl ?_)
      refine inuse2_spec hE H30 hrf (by decide) (fun id x hx => ?_) fun w31 H31 => CND_ne (fun _ => haw (stTail H31)) fun e => absurd e (by omega)
      by_cases q : id = ((0 : Nat) : Int) + 1
      · rw [q] at hx
        have hx := hsp.symm.trans hx
        cases hx
        exact hst
      · have hx := (hne id q).symm.trans hx
        have hx : S.sp id = some x := hx
        rw [hs] at hx; cases hx
end
end Go.Sh


namespace Go.Proofs.YtcmlamembchcdaaGreatDoor.stacksRefused
open Go.ChangeShapes Go.WideShapes Go.ChangeAt Go.RowKit
set_option linter.unusedVariables false
set_option linter.unusedSimpArgs false

theorem own : ownKnob Tryz.prog.godebug = none := by kernel_rfl
theorem laidOut : laidOutB Tryz.prog = true := by kernel_rfl
theorem gTab : Tryz.prog.globalNamed "math/bits.deBruijn64tab" = some 0 := by kernel_rfl
theorem gTabType : (Tryz.prog.globals[0]?).map (·.type) = some 135 := by kernel_rfl
theorem und1 : Tryz.prog.underlying 135 = some (.array 64 5) := by kernel_rfl
theorem und2 : Tryz.prog.underlying 5 = some (.int .u8) := by kernel_rfl
theorem cells1 : Tryz.prog.cellsOf 135 = 64 := by kernel_rfl
theorem cells2 : Tryz.prog.cellsOf 5 = 1 := by kernel_rfl

theorem table {W : World} (h : laidMetH Tryz.prog Rows.stacksRefusedRow.laid W) : Go.Sh.TabAt Go.Sh.env.g_math_bits_deBruijn64tab W := by
  have ht := Lib.tabIs_of_head (rest := []) (k := .u8) (zs := Lib.deBruijn64tab.map fun n : Nat => (n : Int)) gTab gTabType und1 und2 cells2 cells1 h
  intro i hi
  have := ht.cell gTab i (by rw [List.length_map]; exact hi)
  rw [show (Lib.deBruijn64tab.map fun n : Nat => (n : Int)).getD i 0 = ((Lib.deBruijn64tab.getD i 0 : Nat) : Int) by rw [List.getD_eq_getElem?_getD, List.getD_eq_getElem?_getD, List.getElem?_map]; cases Lib.deBruijn64tab[i]? <;> rfl] at this
  exact this

theorem walk (x : Go.Sh.ArgTs [.int .u64, .int .i64]) (w : World) (h : Go.Sh.argOks w [.int .u64, .int .i64] x) (hT : Go.Sh.TabAt Go.Sh.env.g_math_bits_deBruijn64tab w) :
    Calls Tryz.prog 5 ⟨Go.Sh.argVals [.int .u64, .int .i64] x⟩ w fun e w' => e = .returned (.bool true) ∧ Below w.heap.size w w' := by
  obtain ⟨a0, a1, u⟩ := x
  obtain ⟨w0, w1, _⟩ := h
  refine (Go.Sh.fits5 _ w (fun v w' => v = .bool true ∧ Below w.heap.size w w') Go.Sh.noP ?_).2.mono ?_
  · show Go.Sh.F.mallowlaw21_StacksRefused Go.Sh.env a0 a1 (fun r w' => Value.bool r = .bool true ∧ Below w.heap.size w w') w
    exact Go.Sh.refused21_spec Go.Sh.envH hT fun w' h => ⟨rfl, h.below (Nat.le_refl _) fun _ f => f.elim⟩
  · intro e w' hE
    obtain ⟨v, rfl, rfl, h⟩ := hE.val
    exact ⟨rfl, h⟩

noncomputable def laidWorld (os : Os) : World :=
  { World.holding Tryz.prog os ⟨#[], #[], []⟩ with heap := (World.holding Tryz.prog os ⟨#[], #[], []⟩).heap.modify 0 fun
      | .cells _ t frozen => .cells ⟨Lib.deBruijn64tab.map fun n : Nat => .int .u8 (n : Int)⟩ t frozen
      | o => o }
theorem laid_met (os : Os) : laidMet Tryz.prog Rows.stacksRefusedRow.laid ((laidWorld os).forCall (fun _ _ => 0) ⟨#[], #[.int .u64 0, .int .i64 0], []⟩).memory :=
  laidMet_of_run' 8 (by kernel_rfl) (by kernel_rfl)
theorem reads (os : Os) {H : Type} (enc : TypeId × Value → H) : ∃ places, DataW.whole enc Tryz.prog ((laidWorld os).forCall (fun _ _ => 0) ⟨#[], #[.int .u64 0, .int .i64 0], []⟩).memory Tryz.f5.params.toList Rows.stacksRefusedSpec.vars false (#[.int .u64 0, .int .i64 0] : Array Value).toList 8 = some ([.lit (.int .u64 0), .lit (.int .i64 0)], [], places) :=
  ⟨[], by kernel_rfl⟩

set_option maxRecDepth 100000 in
theorem lifted (os : Os) (started : os.Started) (H : Type) (enc : TypeId × Value → H) (F : Stop.Interp) :
    ReturnsInHanded {} Tryz.checked os 5 .any ((OpenSpec.ofChange Rows.stacksRefusedSpec).preRow enc Tryz.prog Tryz.f5 Rows.stacksRefusedRow.domain false Rows.stacksRefusedRow.laid) (((OpenSpec.ofChange Rows.stacksRefusedSpec).at F).post enc Tryz.prog Tryz.f5 false true false false) := by
  obtain ⟨places, hx⟩ := reads os enc
  refine returnsInHanded_of_row (C := Tryz.checked) (s := OpenSpec.ofChange Rows.stacksRefusedSpec) own started (by kernel_rfl) Tryz.func5
    (witness_row_at (enc := enc) (C := Tryz.checked) false (laidWorld os) #[.int .u64 0, .int .i64 0] rfl (by kernel_rfl) (by kernel_rfl) (by kernel_rfl)
      (OpenSpec.preRow_of_cond 8 hx (by kernel_rfl) (fun k hk => by cases hk) (by kernel_rfl) (laid_met os))) ?_
  intro W base args ds gs before hval0 hW _ _ _ hL _ _
  have hW' := hW
  obtain ⟨p, q, hA, hV, rfl, hfz, hnd⟩ := hW
  obtain ⟨rfl, rfl⟩ := trodVars_none hV
  have hargs := Go.Sh.args_of (P := Tryz.prog) (shs := [.int .u64, .int .i64]) (by kernel_rfl) (fun j t v ht hv => hval0 j t v (by simpa using ht) (by simpa using hv)) hA
  obtain ⟨x, hx, hok⟩ := Go.Sh.argVals_of hargs
  obtain rfl : args = ⟨Go.Sh.argVals [.int .u64, .int .i64] x⟩ := Array.toList_inj.1 (by simpa using hx)
  have hlen := Go.Sh.trodAll_len hA
  obtain ⟨d0, d1, rfl⟩ : ∃ d0 d1, ds = [d0, d1] := by
    have hl : ds.length = 2 := hlen
    match ds, hl with
    | [d0, d1], _ => exact ⟨d0, d1, rfl⟩
  refine (walk x W hok (table hL)).mono fun e W' ⟨he, bel⟩ => ?_
  subst he
  exact ⟨_, rfl, _, _, _, [], _, [], hW', trodAll_mk1 (shut_bool Tryz.underlying4 _), Go.Sh.trodAll_below laidOut bel (by kernel_rfl) hA, rfl, bel.frame _, fun h => by cases h⟩

theorem said : Rows.StacksRefusedSaid :=
  OpenClaim.holds_of_cond 5 Tryz.f5 rfl rfl rfl rfl rfl rfl rfl ⟨rfl, rfl, rfl, rfl, rfl⟩ rfl rfl rfl rfl rfl (by kernel_rfl) Tryz.func5 (by kernel_rfl)
    (of_decide_eq_true (by kernel_rfl)) (by unfold Func.isWrapper; first | (rw [if_pos (by decide +kernel)]; kernel_rfl) | (rw [if_neg (by decide +kernel)]; exact ⟨rfl, rfl⟩))
    (fun os started H enc _ F => by rw [OpenClaim.pre_eq_preRow]; exact lifted os started H enc F)

theorem plain (f : FuncId) (fn : Func) (hf : Tryz.pinned.checked.prog.funcNamed "mallow/mallowlaw21.StacksRefused" = some f) (hfn : Tryz.pinned.checked.prog.funcs[f]? = some fn) :
    true = Tryz.pinned.checked.prog.looks [] ∧ ∀ (j : Nat) t, fn.params[j]? = some t → Tryz.pinned.checked.prog.wantsStandIn t = false := by
  obtain rfl : f = 5 := Option.some.inj ((show Tryz.prog.funcNamed "mallow/mallowlaw21.StacksRefused" = some 5 by kernel_rfl).symm.trans hf) |>.symm
  obtain rfl : fn = Tryz.f5 := (Option.some.inj (Tryz.func5.symm.trans hfn)).symm
  refine ⟨by kernel_rfl, fun j t ht => ?_⟩
  have hall : (Tryz.f5.params.toList.all fun t => !(Tryz.prog.wantsStandIn t)) = true := by kernel_rfl
  have := List.all_eq_true.1 hall t (Array.mem_toList_iff.2 (Array.mem_of_getElem? ht))
  exact Bool.not_eq_true' _ ▸ this

theorem proved : Rows.StacksRefusedCardSaid :=
  Claim7.holds_tied_plain_at .later [] _ _ _ _ said (fun _ h => by cases h) (by kernel_rfl) (fun _ h => by cases h) stacksRefused_row_tie rfl ⟨rfl, rfl⟩ (by kernel_rfl) rfl plain (by kernel_rfl)
#print axioms proved
end Go.Proofs.YtcmlamembchcdaaGreatDoor.stacksRefused

