/- The law StacksLast holds (its card: math/bits' table as the program's text lays it): for every input the Go function returns true and leaves its arguments alone. No further condition. -/
import Derived.Test.YtcmlamembchcdaaGreatDoorK
import Derived.Test.YtcmlamembchcdaaGreatDoorQ
import Derived.Test.YtcmlamembchcdaaGreatDoorA
import Derived.Test.YtcmlamembchcdaaGreatDoorCards
import Derived.Test.YtcmlamembchcdaaGreatDoorTie
import Derived.WalkKit
import Derived.ProofKit
import Derived.OpenShut
import Derived.Deep.DeepHandedRow
import Derived.Lib.LaidTab
set_option linter.all false
set_option maxRecDepth 8000
set_option maxHeartbeats 4000000
namespace Go.Sh

theorem byO_pow (j : Nat) : byO j = 2048 * 2 ^ j := rfl

theorem T0_rdy {rf : List Bool} {S : HS} (h : RfSt S 0 512 512 []) (hs : ∀ id, S.sp id = none) (o : Nat) : Rdy ⟨S, fun _ => [], fun _ _ => false, fun _ => none⟩ o 4194304 0 false 0 512 512 :=
  ⟨h, by decide, fun id x hx => (by rw [show (⟨S, fun _ => [], fun _ _ => false, fun _ => none⟩ : ST).S.sp id = none from hs id] at hx; cases hx), fun _ _ _ _ => rfl, by decide, .inl ⟨rfl, rfl, by decide, fun _ => rfl⟩⟩

section
variable {E : Env} {w : World} {Z : List Pr} {b h : Nat} {T : ST} {g : SG} {o i : Nat} {next bb : Int} {r : List Bool}

section
variable (hE : EnvA E)
include hE

end

variable (hE : EnvH E)
include hE

end
end Go.Sh


set_option linter.all false
set_option maxRecDepth 8000
set_option maxHeartbeats 4000000
namespace Go.Sh

def ls (base : Int) (o c i : Nat) : Int := adr base o (c - 1 - i)
def lst (base : Int) (o c n : Nat) : List Int := (List.range n).map fun i => ls base o c i

theorem lst_succ (base : Int) (o c n : Nat) : lst base o c (n + 1) = lst base o c n ++ [ls base o c n] := by simp [lst, List.range_succ]
theorem lst_len (base : Int) (o c n : Nat) : (lst base o c n).length = n := by simp [lst]
theorem lst_get {base : Int} {o c n i : Nat} (h : i < n) : (ints .u64 (lst base o c n))[i]? = some (.int .u64 (ls base o c i)) := by simp [ints, lst, h]

theorem adr_inj {base : Int} {o a b : Nat} (ho : o < 4) (h : adr base o a = adr base o b) : a = b := by
  have hb := (byO_bnd ho).1
  unfold adr at h
  have h2 : (a : Int) * byO o = (b : Int) * byO o := by omega
  have := Int.eq_of_mul_eq_mul_right (by omega) h2
  omega

section
variable {E : Env} {w : World} {Z : List Pr} {b h : Nat} {T : ST} {g : SG} {o i : Nat} {next bb : Int} {r : List Bool}

variable (hE : EnvH E)
include hE

theorem last_spec (hT : TabAt E.g_math_bits_deBruijn64tab w) {a0 a1 : Int} {K : Bool → World → Prop} (hK : ∀ w', Ext Nothing w w' → K true w') : F.mallowlaw21_StacksLast E a0 a1 K w := by
  unfold F.mallowlaw21_StacksLast
  have ht : K true w := hK w (Ext.refl _ _)
  refine JOIN_in (CND_dec (fun _ j => CND_t rfl ht) fun g1 => CND_dec (fun _ j => CND_t rfl ht) fun g2 => CND_dec (fun _ j => CND_t rfl ht) fun g3 => ⟨by omega, fun j => CND_dec (fun _ => ht) fun g4 => ?_⟩)
  obtain ⟨o, rfl⟩ := Int.eq_ofNat_of_zero_le (show 0 ≤ a0 by omega)
  obtain ⟨n, rfl⟩ := Int.eq_ofNat_of_zero_le (show 0 ≤ a1 by omega)
  have ho : o < 4 := by omega
  have hbo := byO_bnd ho
  have hc := byO_c ho
  obtain ⟨c, hcc⟩ := Int.eq_ofNat_of_zero_le (show 0 ≤ 16384 / byO o by omega)
  have hnc : n ≤ c := by
    have e : Int.fdiv 8 (2 ^ (min (Int.toNat (o : Int)) (IntKind.bits .i64))) = 16384 / byO o := by
      match o, ho with
      | 0, _ => decide
      | 1, _ => decide
      | 2, _ => decide
      | 3, _ => decide
    rw [e] at g4
    omega
  have hn1 : 1 ≤ n := by omega
  have hc8 : 1 ≤ c ∧ c ≤ 8 := by omega
  have hcb : (c : Int) * byO o = 16384 := by rw [← hcc]; exact hc.2.2.2
  clear g1 g2 g3 g4
  have hT' : ∀ w', Sat [Old w] w' → TabAt E.g_math_bits_deBruijn64tab w' := fun w' h => hT.ext (h.old 0 rfl)
  refine fresh21_nil (Sat.start w) fun h w5 H5 => CND_f rfl (stnew_spec H5 fun b g w7 H7 => CND_f rfl ⟨by omega, LET_intro fun bytes hby => ?_⟩)
  have hby2 : bytes = byO o := by
    rw [hby]
    match o, ho with
    | 0, _ => decide
    | 1, _ => decide
    | 2, _ => decide
    | 3, _ => decide
  subst hby2
  clear hby
  have htest : bitK .u64 0 (byO o) (u64 (byO o - 1)) = 0 := by
    match o, ho with
    | 0, _ => decide +kernel
    | 1, _ => decide +kernel
    | 2, _ => decide +kernel
    | 3, _ => decide +kernel
  have alloc : ∀ {p : Nat} {K : Int → Int → World → Prop} {w' : World}, p < 64 → TabAt E.g_math_bits_deBruijn64tab w' → F.stack_Stacks_small E (some ⟨b, 0, none⟩) p o (afterA b (byO o) K) w' → F.stack_Stacks_Alloc E (some ⟨b, 0, none⟩) p (byO o) K w' :=
    fun hp ht hs => stalloc_right ht hp (show o ≤ 15 by omega) (byO_pow o) (by omega) (by omega) htest (fun _ => hs) fun hg => absurd hg (by omega)
  have HT2 : ∀ {s : SlV} {vs : List Value} w', Sat [Row E.t_uint64 1 s vs, Old w] w' → TabAt E.g_math_bits_deBruijn64tab w' := fun w' h => hT.ext (h.old 1 rfl)
  have H8 : Sat (stres E b h ⟨HS.new (newV [] [] []), fun _ => [], fun _ _ => false, fun _ => none⟩ g ++ [Row E.t_uint64 1 ⟨none, 0, 0⟩ [], Old w]) w7 := (H7.nil E.t_uint64 1).perm (List.perm_middle (l₁ := stres E b h ⟨HS.new (newV [] [] []), fun _ => [], fun _ _ => false, fun _ => none⟩ g)).symm
  refine LOOP_intro (fun st w' => ∃ (i : Nat) (T : ST) (g : SG), st.2.1 = (i : Int) ∧ i ≤ n ∧ ((i = 0 ∧ T = ⟨HS.new (newV [] [] []), fun _ => [], fun _ _ => false, fun _ => none⟩) ∨ (1 ≤ i ∧ Rdy T o 4194304 c true 1 516 1024 ∧ (T.row = fun j => if j = 4 * 7 + o then rowL 4194304 o 0 (c - i) else []) ∧ ∀ q, q < i → T.out (ls 4194304 o c q) = some (byO o))) ∧
      Sat (stres E b h T g ++ [Row E.t_uint64 1 st.1 (ints .u64 (lst 4194304 o c i)), Old w]) w') (fun st _ => ((n : Int) - st.2.1).toNat) ⟨0, _, g, rfl, Nat.zero_le _, .inl ⟨rfl, rfl⟩, H8⟩ ?_
  rintro ⟨s, i', v⟩ _ w10 ⟨i, T, g1, hi, hin, hst, H10⟩
  dsimp only at hi H10 ⊢
  subst hi
  refine CND_dec (fun hlt => ?_) fun hge => ?_
  · have cont : ∀ (T' : ST) (g' : SG) w', Rdy T' o 4194304 c true 1 516 1024 → (T'.row = fun j => if j = 4 * 7 + o then rowL 4194304 o 0 (c - (i + 1)) else []) → (∀ q, q < i + 1 → T'.out (ls 4194304 o c q) = some (byO o)) → Sat (stres E b h T' g' ++ [Row E.t_uint64 1 s (ints .u64 (lst 4194304 o c i)), Old w]) w' →
        CND ((0 : Int) != 0) (K false w') (
          AL (.cells ⟨[.int .u64 (ls 4194304 o c i)]⟩ E.t_uint64) w' fun b15 w16 =>
                APP E.t_uint64 1 8 #[.int .u64 0] s ⟨(some (Addr.mk b15 0 none)), 1, 1⟩ w16 fun s17 w18 =>
          (∃ (i2 : Nat) (T : ST) (g : SG), i64 ((i : Int) + 1) = (i2 : Int) ∧ i2 ≤ n ∧ ((i2 = 0 ∧ T = ⟨HS.new (newV [] [] []), fun _ => [], fun _ _ => false, fun _ => none⟩) ∨ (1 ≤ i2 ∧ Rdy T o 4194304 c true 1 516 1024 ∧ (T.row = fun j => if j = 4 * 7 + o then rowL 4194304 o 0 (c - i2) else []) ∧ ∀ q, q < i2 → T.out (ls 4194304 o c q) = some (byO o))) ∧
            Sat (stres E b h T g ++ [Row E.t_uint64 1 s17 (ints .u64 (lst 4194304 o c i2)), Old w]) w18) ∧ ((n : Int) - i64 ((i : Int) + 1)).toNat < ((n : Int) - (i : Int)).toNat) := by
      intro T' g' w' q1 q2 q3 H'
      refine CND_f rfl ?_
      have Hr : Sat (Row E.t_uint64 1 s (ints .u64 (lst 4194304 o c i)) :: (stres E b h T' g' ++ [Old w])) w' := H'.perm List.perm_middle
      have hrl := Hr.rowLen
      simp only [ints, List.length_map, lst_len] at hrl
      refine AL_cells (vs := [.int .u64 (ls 4194304 o c i)]) Hr fun b15 w16 H16 _ => ?_
      refine APP_one (zs := #[.int .u64 0]) (bytes := 8) H16 rfl rfl (by simp [Value.oneCell']) (by show (s.len + 1) * 8 ≤ _; omega) (by omega) fun s17 w18 H18 _ => ?_
      rw [show ints .u64 (lst 4194304 o c i) ++ [.int .u64 (ls 4194304 o c i)] = ints .u64 (lst 4194304 o c (i + 1)) by rw [lst_succ]; simp [ints]] at H18
      rw [i64_id (n := (i : Int) + 1) (by omega) (by omega)]
      exact ⟨⟨i + 1, T', g', rfl, by omega, .inr ⟨by omega, q1, q2, q3⟩, H18.perm List.perm_middle.symm⟩, by omega⟩
    have hTw := HT2 _ (stTail H10)
    rcases hst with ⟨rfl, rfl⟩ | ⟨hi1, hR, hrow, hout⟩
    · refine alloc (p := 7) (by decide) hTw (small_fill hE.toEnvA HT2 H10 (p := 7) (by decide) ho (T0_rdy (rf := []) (RfSt.new []) (fun _ => rfl) o) (by decide) rfl (c := c) hcc.symm (by rw [Nat.zero_add]; omega) fun T1 g2 w14 r1 o1 hR1 H14 => afterA_ok H14 fun w15 H15 => ?_)
      have hR1 : Rdy T1 o 4194304 (0 + c) true 1 516 1024 := hR1
      rw [Nat.zero_add] at hR1
      have e0 : adr 4194304 o (0 + (c - 1)) = ls 4194304 o c 0 := by unfold ls; rw [Nat.zero_add, Nat.sub_zero]
      rw [e0] at H15 ⊢
      refine cont { T1 with out := fun x => if x = ls 4194304 o c 0 then some (byO o) else T1.out x } g2 w15 ⟨hR1.rf, hR1.nb, hR1.mn, hR1.pe, hR1.bs, hR1.po⟩ r1 (fun q hq => ?_) H15
      obtain rfl : q = 0 := by omega
      exact if_pos rfl
    · have hl : T.row (4 * 7 + o) = rowL 4194304 o 0 (c - (i + 1)) ++ [ls 4194304 o c i] := by
        rw [hrow]
        simp only [if_true]
        rw [show c - i = (c - (i + 1)) + 1 by omega, rowL_succ]
        unfold ls
        rw [Nat.zero_add, show c - (i + 1) = c - 1 - i by omega]
      refine alloc (p := 7) (by decide) hTw (small_pop H10 (p := 7) (by decide) ho hl (by rw [rowL_len]; omega) fun g2 w14 H14 => afterA_ok H14 fun w15 H15 => ?_)
      refine cont { T with row := fun j => if j = 4 * 7 + o then rowL 4194304 o 0 (c - (i + 1)) else T.row j, out := fun x => if x = ls 4194304 o c i then some (byO o) else T.out x } g2 w15 ⟨hR.rf, hR.nb, hR.mn, hR.pe, hR.bs, hR.po⟩ ?_ (fun q hq => ?_) H15
      · funext q
        show (if q = 4 * 7 + o then rowL 4194304 o 0 (c - (i + 1)) else T.row q) = _
        rw [hrow]
        by_cases e : q = 4 * 7 + o
        · simp [e]
        · simp [e]
      · show (if ls 4194304 o c q = ls 4194304 o c i then some (byO o) else T.out (ls 4194304 o c q)) = _
        by_cases e : ls 4194304 o c q = ls 4194304 o c i
        · rw [if_pos e]
        · rw [if_neg e]
          refine hout q ?_
          have : q ≠ i := fun h => e (by rw [h])
          omega
  obtain rfl : i = n := by omega
  rcases hst with ⟨h0, _⟩ | ⟨_, hR, hrow, hout⟩
  · omega
  have hTw := HT2 _ (stTail H10)
  have hr8 : T.row (4 * 8 + o) = [] := by rw [hrow]; simp
  refine alloc (p := 8) (by decide) hTw (small_fill hE.toEnvA HT2 H10 (p := 8) (by decide) ho hR (by decide) hr8 (c := c) hcc.symm (by omega) fun T1 g2 w21 r1 o1 hR1 H21 => afterA_ok H21 fun w22 H22 => CND_f rfl ?_)
  have hne : ∀ q, q < c → ls 4194304 o c q ≠ adr 4194304 o (c + (c - 1)) := fun q hq e => by
    have := adr_inj ho e
    omega
  have hlen : s.len = i := by
    have Hr : Sat (Row E.t_uint64 1 s (ints .u64 (lst 4194304 o c i)) :: _) w22 := H22.perm List.perm_middle
    have := Hr.rowLen
    simp only [ints, List.length_map, lst_len] at this
    omega
  obtain ⟨xb, hxb⟩ : ∃ xb, s.base = some ⟨xb, 0, none⟩ := by
    have Hr : Sat (Row E.t_uint64 1 s (ints .u64 (lst 4194304 o c i)) :: _) w22 := H22.perm List.perm_middle
    exact Hr.own.base_of (by omega)
  have rd : ∀ {T' : ST} {g' : SG} {w'} {q : Nat}, q < i → Sat (stres E b h T' g' ++ [Row E.t_uint64 1 s (ints .u64 (lst 4194304 o c i)), Old w]) w' → w'.cell? ((Addr.mk xb 0 none).add (Int.toNat (q : Int) * 1)) = some (.int .u64 (ls 4194304 o c q)) := fun hq H' => by
    have Hr : Sat (Row E.t_uint64 1 s (ints .u64 (lst 4194304 o c i)) :: _) _ := H'.perm List.perm_middle
    rw [Int.toNat_natCast, Nat.mul_one]
    exact Hr.own.cell hxb (lst_get hq)
  rw [hxb]
  simp only [NC_some]
  refine LOOP_intro (fun st w' => ∃ (q : Nat) (T : ST) (g : SG), st.1 = (q : Int) ∧ q ≤ i ∧ T.row (4 * 7 + o) = rowL 4194304 o 0 (c - i) ++ lst 4194304 o c q ∧ (∀ k, q ≤ k → k < i → T.out (ls 4194304 o c k) = some (byO o)) ∧ Sat (stres E b h T g ++ [Row E.t_uint64 1 s (ints .u64 (lst 4194304 o c i)), Old w]) w') (fun st _ => ((i : Int) - st.1).toNat)
    ⟨0, _, g2, rfl, Nat.zero_le _, ?_, fun k _ hk => ?_, H22⟩ ?_
  · show T1.row (4 * 7 + o) = _
    rw [r1, hrow]
    have : 4 * 7 + o ≠ 4 * 8 + o := by omega
    simp [lst]
  · show (if ls 4194304 o c k = adr 4194304 o (c + (c - 1)) then some (byO o) else T1.out (ls 4194304 o c k)) = _
    rw [if_neg (hne k (by omega)), o1]
    exact hout k hk
  rintro ⟨q', v⟩ _ w23 ⟨q, T2, g3, hq, hqi, hrow2, hout2, H23⟩
  dsimp only at hq ⊢
  subst hq
  refine CND_dec (fun hlt => ?_) fun hge => ?_
  · have hqi2 : q < i := by omega
    refine ⟨⟨by omega, by omega⟩, _, rd hqi2 H23, ?_⟩
    have hlr : (T2.row (4 * 7 + o)).length = c - i + q := by rw [hrow2, List.length_append, rowL_len, lst_len]
    have hlt2 : ((c - i + q : Nat) : Int) * byO o < 32768 := by
      have : ((c - i + q : Nat) : Int) * byO o ≤ (c : Int) * byO o := Int.mul_le_mul_of_nonneg_right (by omega) (by omega)
      omega
    refine stfree_small HT2 H23 (p := 7) (by decide) ho (hout2 q (Nat.le_refl _) hqi2) (c := c - i + q) hlr hlt2 fun g4 w29 H29 => ?_
    refine JOIN_in (CND_ne (fun e => absurd rfl e) fun _ => CND_f rfl ⟨⟨by omega, by omega⟩, _, rd hqi2 H29, fun j => CND_f ?_ ?_⟩)
    · have := hne q (by omega)
      simpa using this
    · rw [i64_id (n := (q : Int) + 1) (by omega) (by omega)]
      refine ⟨⟨q + 1, _, g4, rfl, by omega, ?_, fun k k0 k1 => ?_, H29⟩, by omega⟩
      · show (if 4 * 7 + o = 4 * 7 + o then T2.row (4 * 7 + o) ++ [ls 4194304 o c q] else _) = _
        rw [if_pos rfl, hrow2, lst_succ, List.append_assoc]
      · show (if ls 4194304 o c k = ls 4194304 o c q then none else T2.out (ls 4194304 o c k)) = _
        rw [if_neg (fun e => by have := adr_inj ho e; omega)]
        exact hout2 k (by omega) k1
  obtain rfl : q = i := by omega
  rw [i64_id (n := (q : Int) - 1) (by omega) (by omega)]
  refine LOOP_intro (fun st w' => ∃ (k : Nat) (T : ST) (g : SG), st.1 = (k : Int) - 1 ∧ k ≤ q ∧ T.row (4 * 7 + o) = rowL 4194304 o 0 (c - q) ++ lst 4194304 o c k ∧ Sat (stres E b h T g ++ [Row E.t_uint64 1 s (ints .u64 (lst 4194304 o c q)), Old w]) w') (fun st _ => (st.1 + 1).toNat) ⟨q, T2, g3, rfl, Nat.le_refl _, hrow2, H23⟩ ?_
  rintro ⟨k', v⟩ _ w36 ⟨k, T3, g4, hk, hkq, hrow3, H36⟩
  dsimp only at hk ⊢
  subst hk
  refine CND_dec (fun hlt => ?_) fun hge => ?_
  · have hk1 : 1 ≤ k := by omega
    have hl : T3.row (4 * 7 + o) = (rowL 4194304 o 0 (c - q) ++ lst 4194304 o c (k - 1)) ++ [ls 4194304 o c (k - 1)] := by
      have e : lst 4194304 o c k = lst 4194304 o c (k - 1) ++ [ls 4194304 o c (k - 1)] := by
        have := lst_succ 4194304 o c (k - 1)
        rwa [show k - 1 + 1 = k by omega] at this
      rw [hrow3, e, List.append_assoc]
    refine alloc (p := 7) (by decide) (HT2 _ (stTail H36)) (small_pop H36 (p := 7) (by decide) ho hl (by rw [List.length_append, rowL_len, lst_len]; omega) fun g5 w40 H40 => afterA_ok H40 fun w41 H41 => ?_)
    rw [show (k : Int) - 1 = ((k - 1 : Nat) : Int) by omega]
    refine JOIN_in ⟨⟨by omega, by omega⟩, _, rd (by omega) H41, CND_ne (fun e => absurd rfl e) fun _ j => CND_f rfl ?_⟩
    rw [i64_id (n := ((k - 1 : Nat) : Int) - 1) (by omega) (by omega)]
    exact ⟨⟨k - 1, _, g5, rfl, by omega, if_pos rfl, H41⟩, by omega⟩
  · exact awake21_spec hE HT2 (stTail H36) fun w47 H47 => hK w47 (H47.old 1 rfl)
end
end Go.Sh


namespace Go.Proofs.YtcmlamembchcdaaGreatDoor.stacksLast
open Go.ChangeShapes Go.WideShapes Go.ChangeAt Go.RowKit
set_option linter.unusedVariables false
set_option linter.unusedSimpArgs false

theorem own : ownKnob Tryz.prog.godebug = none := by kernel_rfl
theorem laidOut : laidOutB Tryz.prog = true := by kernel_rfl
theorem gTab : Tryz.prog.globalNamed "math/bits.deBruijn64tab" = some 0 := by kernel_rfl
theorem gTabType : (Tryz.prog.globals[0]?).map (·.type) = some 135 := by kernel_rfl
theorem und1 : Tryz.prog.underlying 135 = some (.array 64 5) := by kernel_rfl
theorem und2 : Tryz.prog.underlying 5 = some (.int .u8) := by kernel_rfl
theorem cells1 : Tryz.prog.cellsOf 135 = 64 := by kernel_rfl
theorem cells2 : Tryz.prog.cellsOf 5 = 1 := by kernel_rfl

theorem table {W : World} (h : laidMetH Tryz.prog Rows.stacksLastRow.laid W) : Go.Sh.TabAt Go.Sh.env.g_math_bits_deBruijn64tab W := by
  have ht := Lib.tabIs_of_head (rest := []) (k := .u8) (zs := Lib.deBruijn64tab.map fun n : Nat => (n : Int)) gTab gTabType und1 und2 cells2 cells1 h
  intro i hi
  have := ht.cell gTab i (by rw [List.length_map]; exact hi)
  rw [show (Lib.deBruijn64tab.map fun n : Nat => (n : Int)).getD i 0 = ((Lib.deBruijn64tab.getD i 0 : Nat) : Int) by rw [List.getD_eq_getElem?_getD, List.getD_eq_getElem?_getD, List.getElem?_map]; cases Lib.deBruijn64tab[i]? <;> rfl] at this
  exact this

theorem walk (x : Go.Sh.ArgTs [.int .i64, .int .i64]) (w : World) (h : Go.Sh.argOks w [.int .i64, .int .i64] x) (hT : Go.Sh.TabAt Go.Sh.env.g_math_bits_deBruijn64tab w) :
    Calls Tryz.prog 4 ⟨Go.Sh.argVals [.int .i64, .int .i64] x⟩ w fun e w' => e = .returned (.bool true) ∧ Below w.heap.size w w' := by
  obtain ⟨a0, a1, u⟩ := x
  obtain ⟨w0, w1, _⟩ := h
  refine (Go.Sh.fits4 _ w (fun v w' => v = .bool true ∧ Below w.heap.size w w') Go.Sh.noP ?_).2.mono ?_
  · show Go.Sh.F.mallowlaw21_StacksLast Go.Sh.env a0 a1 (fun r w' => Value.bool r = .bool true ∧ Below w.heap.size w w') w
    exact Go.Sh.last_spec Go.Sh.envH hT fun w' h => ⟨rfl, h.below (Nat.le_refl _) fun _ f => f.elim⟩
  · intro e w' hE
    obtain ⟨v, rfl, rfl, h⟩ := hE.val
    exact ⟨rfl, h⟩

noncomputable def laidWorld (os : Os) : World :=
  { World.holding Tryz.prog os ⟨#[], #[], []⟩ with heap := (World.holding Tryz.prog os ⟨#[], #[], []⟩).heap.modify 0 fun
      | .cells _ t frozen => .cells ⟨Lib.deBruijn64tab.map fun n : Nat => .int .u8 (n : Int)⟩ t frozen
      | o => o }
theorem laid_met (os : Os) : laidMet Tryz.prog Rows.stacksLastRow.laid ((laidWorld os).forCall (fun _ _ => 0) ⟨#[], #[.int .i64 0, .int .i64 0], []⟩).memory :=
  laidMet_of_run' 8 (by kernel_rfl) (by kernel_rfl)
theorem reads (os : Os) {H : Type} (enc : TypeId × Value → H) : ∃ places, DataW.whole enc Tryz.prog ((laidWorld os).forCall (fun _ _ => 0) ⟨#[], #[.int .i64 0, .int .i64 0], []⟩).memory Tryz.f4.params.toList Rows.stacksLastSpec.vars false (#[.int .i64 0, .int .i64 0] : Array Value).toList 8 = some ([.lit (.int .i64 0), .lit (.int .i64 0)], [], places) :=
  ⟨[], by kernel_rfl⟩

set_option maxRecDepth 100000 in
theorem lifted (os : Os) (started : os.Started) (H : Type) (enc : TypeId × Value → H) (F : Stop.Interp) :
    ReturnsInHanded {} Tryz.checked os 4 .any ((OpenSpec.ofChange Rows.stacksLastSpec).preRow enc Tryz.prog Tryz.f4 Rows.stacksLastRow.domain false Rows.stacksLastRow.laid) (((OpenSpec.ofChange Rows.stacksLastSpec).at F).post enc Tryz.prog Tryz.f4 false true false false) := by
  obtain ⟨places, hx⟩ := reads os enc
  refine returnsInHanded_of_row (C := Tryz.checked) (s := OpenSpec.ofChange Rows.stacksLastSpec) own started (by kernel_rfl) Tryz.func4
    (witness_row_at (enc := enc) (C := Tryz.checked) false (laidWorld os) #[.int .i64 0, .int .i64 0] rfl (by kernel_rfl) (by kernel_rfl) (by kernel_rfl)
      (OpenSpec.preRow_of_cond 8 hx (by kernel_rfl) (fun k hk => by cases hk) (by kernel_rfl) (laid_met os))) ?_
  intro W base args ds gs before hval0 hW _ _ _ hL _ _
  have hW' := hW
  obtain ⟨p, q, hA, hV, rfl, hfz, hnd⟩ := hW
  obtain ⟨rfl, rfl⟩ := trodVars_none hV
  have hargs := Go.Sh.args_of (P := Tryz.prog) (shs := [.int .i64, .int .i64]) (by kernel_rfl) (fun j t v ht hv => hval0 j t v (by simpa using ht) (by simpa using hv)) hA
  obtain ⟨x, hx, hok⟩ := Go.Sh.argVals_of hargs
  obtain rfl : args = ⟨Go.Sh.argVals [.int .i64, .int .i64] x⟩ := Array.toList_inj.1 (by simpa using hx)
  have hlen := Go.Sh.trodAll_len hA
  obtain ⟨d0, d1, rfl⟩ : ∃ d0 d1, ds = [d0, d1] := by
    have hl : ds.length = 2 := hlen
    match ds, hl with
    | [d0, d1], _ => exact ⟨d0, d1, rfl⟩
  refine (walk x W hok (table hL)).mono fun e W' ⟨he, bel⟩ => ?_
  subst he
  exact ⟨_, rfl, _, _, _, [], _, [], hW', trodAll_mk1 (shut_bool Tryz.underlying4 _), Go.Sh.trodAll_below laidOut bel (by kernel_rfl) hA, rfl, bel.frame _, fun h => by cases h⟩

theorem said : Rows.StacksLastSaid :=
  OpenClaim.holds_of_cond 4 Tryz.f4 rfl rfl rfl rfl rfl rfl rfl ⟨rfl, rfl, rfl, rfl, rfl⟩ rfl rfl rfl rfl rfl (by kernel_rfl) Tryz.func4 (by kernel_rfl)
    (of_decide_eq_true (by kernel_rfl)) (by unfold Func.isWrapper; first | (rw [if_pos (by decide +kernel)]; kernel_rfl) | (rw [if_neg (by decide +kernel)]; exact ⟨rfl, rfl⟩))
    (fun os started H enc _ F => by rw [OpenClaim.pre_eq_preRow]; exact lifted os started H enc F)

theorem plain (f : FuncId) (fn : Func) (hf : Tryz.pinned.checked.prog.funcNamed "mallow/mallowlaw21.StacksLast" = some f) (hfn : Tryz.pinned.checked.prog.funcs[f]? = some fn) :
    true = Tryz.pinned.checked.prog.looks [] ∧ ∀ (j : Nat) t, fn.params[j]? = some t → Tryz.pinned.checked.prog.wantsStandIn t = false := by
  obtain rfl : f = 4 := Option.some.inj ((show Tryz.prog.funcNamed "mallow/mallowlaw21.StacksLast" = some 4 by kernel_rfl).symm.trans hf) |>.symm
  obtain rfl : fn = Tryz.f4 := (Option.some.inj (Tryz.func4.symm.trans hfn)).symm
  refine ⟨by kernel_rfl, fun j t ht => ?_⟩
  have hall : (Tryz.f4.params.toList.all fun t => !(Tryz.prog.wantsStandIn t)) = true := by kernel_rfl
  have := List.all_eq_true.1 hall t (Array.mem_toList_iff.2 (Array.mem_of_getElem? ht))
  exact Bool.not_eq_true' _ ▸ this

theorem proved : Rows.StacksLastCardSaid :=
  Claim7.holds_tied_plain_at .later [] _ _ _ _ said (fun _ h => by cases h) (by kernel_rfl) (fun _ h => by cases h) stacksLast_row_tie rfl ⟨rfl, rfl⟩ (by kernel_rfl) rfl plain (by kernel_rfl)
#print axioms proved
end Go.Proofs.YtcmlamembchcdaaGreatDoor.stacksLast

