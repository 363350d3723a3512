/- The law HeapPlacesApart holds (its card: math/bits' table as the program's text lays it): for every input the Go function returns true and leaves its arguments alone. No further condition. -/
import Derived.Test.YtaaojaeeefbjiaaDoorL
import Derived.Test.YtaaojaeeefbjiaaDoorA
import Derived.Test.YtaaojaeeefbjiaaDoorB
import Derived.Test.YtaaojaeeefbjiaaDoorCards
import Derived.Test.YtaaojaeeefbjiaaDoorTie
import Derived.WalkKit
import Derived.ProofKit
import Derived.OpenShut
import Derived.Deep.DeepHandedRow
import Derived.Lib.LaidTab
set_option linter.all false
set_option maxRecDepth 8000
set_option maxHeartbeats 4000000
namespace Go.Sh

theorem cP_or_le (f g : Int → Bool) : cP (fun p => f p || g p) ≤ cP f + cP g := by
  have e : cP (fun p => f p || g p) = cP f + cP (fun p => g p && !f p) := cP_or (fun p => by cases f p <;> cases g p <;> rfl) fun p a b => by rw [a] at b; simp at b
  have := cP_mono (f := fun p => g p && !f p) (g := g) fun p h => by rw [Bool.and_eq_true] at h; exact h.1
  omega

/-- So many windows, each with a page of a kind. -/
theorem windows {f : Int → Bool} {W : Int} (h0 : 0 < W) : ∀ k : Nat, 512 + (k : Int) * W ≤ 34359738368 → (∀ j : Nat, j < k → ∃ m, 512 + (j : Int) * W ≤ m ∧ m < 512 + (j : Int) * W + W ∧ f m = true) → (k : Int) ≤ cP fun p => f p && decide (p < 512 + (k : Int) * W)
  | 0, _, _ => (cP_bnd _).1
  | k + 1, hb, h => by
    have e : ((k + 1 : Nat) : Int) * W = (k : Int) * W + W := by rw [Int.natCast_add, Int.add_mul]; simp
    have hkW : 0 ≤ (k : Int) * W := Int.mul_nonneg (by omega) (by omega)
    rw [e] at hb ⊢
    have ih := windows (f := f) h0 k (by omega) fun j hj => h j (by omega)
    obtain ⟨m, m1, m2, m3⟩ := h k (by omega)
    have e2 : cP (fun p => f p && decide (p < 512 + ((k : Int) * W + W))) = cP (fun p => f p && decide (p < 512 + (k : Int) * W)) + cP (fun p => f p && (decide (512 + (k : Int) * W ≤ p) && decide (p < 512 + ((k : Int) * W + W)))) := by
      refine cP_or (fun p => ?_) fun p a b => ?_
      · cases f p
        · rfl
        · simp only [Bool.true_and]
          rw [Bool.eq_iff_iff, Bool.or_eq_true, Bool.and_eq_true]; simp only [decide_eq_true_eq]; omega
      · rw [Bool.and_eq_true, decide_eq_true_eq] at a
        rw [Bool.and_eq_true, Bool.and_eq_true, decide_eq_true_eq] at b
        omega
    have h1 : 1 ≤ cP (fun p => f p && (decide (512 + (k : Int) * W ≤ p) && decide (p < 512 + ((k : Int) * W + W)))) := cP_pos (p := m) (by rw [m3, decide_eq_true m1, decide_eq_true (show m < 512 + ((k : Int) * W + W) by omega)]; rfl) (by omega) (by omega)
    rw [e2]; omega

/-- Nothing is refused, and so many pages are laid out. -/
structure Plc (S : HS) (c : Int) : Prop where
  rf : S.V.rf = []
  ct : cP S.T.inn ≤ c

section
variable {S S2 : HS} {p n page c : Int}

theorem Filled.inn {i : Nat} (h : Filled S i S2) : S2.T.inn = S.T.inn := by
  rcases h with ⟨_, q, _, rfl⟩ | ⟨_, rfl⟩ <;> rfl
theorem Tried.inn (h : Tried S p n S2) : S2.T.inn = S.T.inn := by
  rcases h with ⟨_, rfl⟩ | ⟨i, _, _, _, h, _⟩
  · rfl
  · exact h.inn

theorem Taken.plc (h : Taken S p n page S2) (hP : Plc S c) (hc : 0 ≤ upN n) : Plc S2 (c + upN n) := by
  rcases h with (⟨S0, i, k, hi, _, _, hfl, _, _, _, _, rfl⟩ | ⟨S0, htr, _, rfl⟩) | ⟨S0, S0', htr, _, ⟨_, at_, _, rfl⟩, _, rfl⟩
  · refine ⟨by show S0.V.rf = []; rw [hfl.V.1]; exact hP.rf, ?_⟩
    show cP S0.T.inn ≤ _
    rw [hfl.inn]
    have := hP.ct
    omega
  · refine ⟨by show S0.V.rf = []; rw [htr.V.1]; exact hP.rf, ?_⟩
    show cP S0.T.inn ≤ _
    rw [htr.inn]
    have := hP.ct
    omega
  · refine ⟨by show S0.V.rf.tail = []; rw [htr.V.1, hP.rf]; rfl, ?_⟩
    show cP (fun q => S0.T.inn q || inr (at_ / 512 * 512) (upN n / 512 * 512) q) ≤ _
    rw [htr.inn]
    have h1 := cP_or_le S.T.inn (inr (at_ / 512 * 512) (upN n / 512 * 512))
    have h2 : cP (inr (at_ / 512 * 512) (upN n / 512 * 512)) ≤ upN n := by
      have hu := upN_le n
      unfold cP
      have key : ∀ k : Nat, cu (fun q => inr (at_ / 512 * 512) (upN n / 512 * 512) (0 + q)) k ≤ upN n ∧ cu (fun q => inr (at_ / 512 * 512) (upN n / 512 * 512) (0 + q)) k ≤ max 0 ((k : Int) - at_ / 512 * 512) := by
        intro k
        induction k with
        | zero => exact ⟨hc, by show (0 : Int) ≤ _; omega⟩
        | succ k ih =>
          simp only [cu]
          by_cases g : inr (at_ / 512 * 512) (upN n / 512 * 512) (0 + (k : Int)) = true
          · rw [if_pos g]
            have g := inr_iff.1 g
            omega
          · rw [if_neg g]
            omega
      exact (key _).1
    have := hP.ct
    omega

theorem Found.plc (h : Found S p n page S2) (hP : Plc S c) (hc : 0 ≤ upN n) : Plc S2 (c + upN n) := by
  obtain ⟨S1, h, hm⟩ := h
  have h1 := h.plc hP hc
  rcases hm with ⟨_, rfl⟩ | ⟨_, _, rfl⟩
  · exact h1
  · exact ⟨by show S1.V.rf.tail = []; rw [h1.rf]; rfl, h1.ct⟩

theorem Plc.lost (hP : Plc S c) (hI : HInv S no) (hk : HOk S) (hn : 1 ≤ n) (hn2 : upN n ≤ 1024) (hc : c ≤ 1000000) (h : Lost S p n S2) : False := by
  have hu := upN_le n
  rcases h with ⟨S0, htr, _, ⟨r, hr, _⟩ | ⟨_, ⟨_, _, hup⟩, _⟩⟩ | ⟨S1, page, r, hk, _, hr, _⟩
  · rw [htr.V.1, hP.rf] at hr; cases hr
  · rw [htr.V.1] at hup
    rcases hup with g | ⟨a, g1, g2⟩
    · omega
    · have hw := windows (f := S.T.inn) (W := 1024) (by decide) 1000001 (by decide) fun j hj => ?_
      · have := cP_mono (f := fun p => S.T.inn p && decide (p < 512 + ((1000001 : Nat) : Int) * 1024)) (g := S.T.inn) fun p h => by rw [Bool.and_eq_true] at h; exact h.1
        have := hP.ct
        omega
      · obtain ⟨m, m1, m2, m3⟩ := g1.first (512 + (j : Int) * 1024) (by omega) (by omega) (by omega) (by omega)
        exact ⟨m, m1, by omega, (hI.la m).1 m3⟩
  · have := (hk.plc hP (by omega)).rf
    rw [this] at hr; cases hr
end

section
variable {E : Env} {w : World} {Rs Z : List Pr} (hE : EnvA E)
include hE

theorem places_spec (hT : TabAt E.g_math_bits_deBruijn64tab w) {a0 a1 : SlV} {z0 z1 : Nat → Int} (ha0 : RowA w (.int .u64) a0 z0) (ha1 : RowA w (.int .u64) a1 z1) {K : Bool → World → Prop} (hK : ∀ w', Ext Nothing w w' → K true w') : F.mallowlaw16_HeapPlacesApart E a0 a1 K w := by
  unfold F.mallowlaw16_HeapPlacesApart
  have H0 := Sat.start w
  have hT' : ∀ w', Sat [Old w] w' → TabAt E.g_math_bits_deBruijn64tab w' := fun w' h => hT.ext (h.old 0 rfl)
  refine JOIN_in (CND_dec (fun _ j => CND_t rfl (hK w (Ext.refl _ _))) fun g1 j => CND_dec (fun _ => hK w (Ext.refl _ _)) fun g2 => ?_)
  refine fresh16_spec (a1 := ⟨none, 0, 0⟩) (a2 := ⟨none, 0, 0⟩) (rf := []) (fl := []) H0 (argI_wf ha0) (fun w' h => rowAt_argI (RowG.oldI ha0 (h.old 0 rfl))) (argI_len _ _) (by omega) (fun _ _ => show ([] : List Value) = [] from rfl) rfl (by decide) (fun _ _ => show ([] : List Value) = [] from rfl) rfl (by decide) fun h w5 H5 => CND_f rfl ?_
  refine LOOP_intro (fun st w' => ∃ (i : Nat) (S : HS), st.1 = (i : Int) ∧ i ≤ a1.len ∧ Plc S (1024 * i) ∧ HInv S no ∧ Sat (HeapP E h S :: [Old w]) w') (fun st _ => ((a1.len : Int) - st.1).toNat)
    ⟨0, _, rfl, Nat.zero_le _, ⟨rfl, by rw [show cP (HS.new (newV (argI a0.len z0) [] [])).T.inn = 0 from cP_zero fun _ => rfl]; decide⟩, HInv.newV _ [] [], H5⟩ ?_
  rintro ⟨i', v⟩ _ w7 ⟨i, S, hi, hin, hP, hI, H7⟩
  dsimp only at hi ⊢
  subst hi
  have hok := H7.hok
  refine CND_dec (fun hlt => ?_) fun hge => ?_
  · have hil : i < a1.len := by omega
    have cell : ∀ {w'} {S : HS}, Sat (HeapP E h S :: [Old w]) w' → ∃ x, a1.base = some x ∧ w'.cell? (x.add i) = some (.int .u64 (z1 i)) ∧ 0 ≤ z1 i ∧ z1 i < 18446744073709551616 := fun {w' S} hS => by
      obtain ⟨x, hx, hc, hwf⟩ := (RowG.oldI ha1 (hS.old 1 rfl)).cell1 hil
      exact ⟨x, hx, hc, u64_wf hwf⟩
    obtain ⟨x, hx, hc, hz0, hz1⟩ := cell H7
    have cell' : ∀ {w'} {S : HS}, Sat (HeapP E h S :: [Old w]) w' → w'.cell? (x.add i) = some (.int .u64 (z1 i)) := fun {w' S} hS => by
      obtain ⟨x', hx', hc', _⟩ := cell hS
      rw [hx] at hx'; cases hx'
      exact hc'
    rw [hx]
    simp only [NC_some, Int.toNat_natCast, Nat.mul_one]
    have hcl : (0 : Int) ≤ (i : Int) ∧ (i : Int) < (a1.len : Nat) := by omega
    generalize z1 i = n at *
    refine JOIN_in ⟨hcl, n, hc, CND_dec (fun _ j => CND_t rfl (hK _ (H7.old 1 rfl))) fun n1 => ⟨hcl, n, hc, fun j => CND_dec (fun _ => hK _ (H7.old 1 rfl)) fun n2 => ⟨hcl, n, hc, ?_⟩⟩⟩
    have hu := upN_le n
    have hu2 : upN n ≤ 1024 := by unfold upN; omega
    refine halloc_spec hE hT' H7 hI (by omega) (by omega) (fun hb => absurd hb (spOk0 (by omega) (by omega))) (fun _ S2 hl => (hP.lost hI hok (by omega) hu2 (by omega) hl).elim) fun _ page S2 bl id X hf hI2 q0 q1 hX hI3 w20 H20 => ?_
    have hP2 := hf.plc hP (by omega)
    have es := hf.same
    have hid : 0 < id := by
      rcases hX with ⟨_, e, _⟩ | ⟨a, r, _, e, _⟩ <;> omega
    have hspk : (S2.keep id (bl, spOf page n 0 false) page n X).sp id = some (bl, spOf page n 0 false) := if_pos rfl
    have hP3 : Plc (S2.keep id (bl, spOf page n 0 false) page n X) (1024 * i + upN n) := ⟨hP2.rf, hP2.ct⟩
    have ho3 : ∀ q, page ≤ q → q < page + n → (S2.keep id (bl, spOf page n 0 false) page n X).own q = id := fun q a b => by rw [own_keep, if_pos ⟨a, b⟩]
    generalize S2.keep id (bl, spOf page n 0 false) page n X = T at *
    refine hspan_spec H20 (fun e => by rw [hspk] at e; cases e) fun y hy => ?_
    rw [hspk] at hy
    cases hy
    obtain ⟨R, hs, hbk⟩ := H20.heapSpan hspk
    refine JOIN_in (CND_f rfl fun j => CND_f rfl (spinfo_spec hs fun w37 H37' => ⟨by decide, ?_⟩))
    have H37 := hbk H37'
    have ep : u64 (Int.tdiv (spOf page n 0 false).base 8192) = page := by
      show u64 (Int.tdiv (page * 8192) 8192) = page
      rw [Int.tdiv_eq_ediv_of_nonneg (by omega), show page * 8192 / 8192 = page by omega, u64_id (by omega) (by omega)]
    rw [ep]
    have epn : u64 (page + n) = page + n := u64_id (by omega) (by omega)
    refine LOOP_intro (fun st w' => page ≤ st.1 ∧ st.1 ≤ page + n ∧ Sat (HeapP E h T :: [Old w]) w') (fun st _ => (page + n - st.1).toNat) ⟨Int.le_refl _, by show page ≤ page + n; omega, H37⟩ ?_
    rintro ⟨k, v⟩ _ w39 ⟨hk1, hk2, H39⟩
    dsimp only at hk1 hk2 ⊢
    refine ⟨hcl, n, cell' H39, ?_⟩
    rw [epn]
    refine CND_dec (fun hkl => ?_) fun hkl => ?_
    · have ho := ho3 k hk1 hkl
      refine howner_spec hE H39 (by omega) (by omega) (fun hbad => ?_) (fun _ _ _ w45 H45 => ?_) (fun _ _ hb => absurd (by omega) hb) fun _ _ hb => absurd (by omega) hb
      · exfalso
        rcases hbad with g | g
        · omega
        · exact g ((hI3.ks k).2 (hI3.ow k (by omega)).1)
      · rw [ho]
        refine JOIN_in (CND_f rfl (CND_ne (fun e => absurd rfl e) fun _ j => CND_dec (fun e => by omega) fun _ => ?_))
        rw [u64_id (n := k + 1) (by omega) (by omega)]
        exact ⟨⟨by show page ≤ k + 1; omega, by show k + 1 ≤ page + n; omega, H45⟩, by show (page + n - (k + 1)).toNat < (page + n - k).toNat; omega⟩
    · rw [i64_id (n := (i : Int) + 1) (by omega) (by omega)]
      exact ⟨⟨i + 1, T, by show (i : Int) + 1 = ((i + 1 : Nat) : Int); omega, by omega, ⟨hP3.rf, Int.le_trans hP3.ct (by omega)⟩, hI3, H39⟩, by show ((a1.len : Int) - ((i : Int) + 1)).toNat < ((a1.len : Int) - (i : Int)).toNat; omega⟩
  clear hok
  -- the places
  have hown0 : ∀ q, ¬ 0 < S.own q → S.own q = 0 := fun q g => by have := hI.o0 q; omega
  have hownL : ∀ q, 0 < S.own q → ∀ {w'}, Sat (HeapP E h S :: [Old w]) w' → 0 ≤ q ∧ q < 34359738368 := fun q g {w'} hS => hS.hok.tv.lim q (hI.ow q g).1
  refine LOOP_intro (fun st w' => ∃ i : Nat, st.1 = (i : Int) ∧ i ≤ a0.len ∧ Sat (HeapP E h S :: [Old w]) w') (fun st _ => ((a0.len : Int) - st.1).toNat) ⟨0, rfl, Nat.zero_le _, H7⟩ ?_
  clear H7 hge hin
  rintro ⟨i', v⟩ _ w50 ⟨i, hi, hin, H50⟩
  dsimp only at hi ⊢
  subst hi
  refine CND_dec (fun hlt => ?_) fun hge => ?_
  · have hil : i < a0.len := by omega
    obtain ⟨x, hx, hc, hwf⟩ := (RowG.oldI ha0 (H50.old 1 rfl)).cell1 hil
    have hz := u64_wf hwf
    rw [hx]
    simp only [NC_some, Int.toNat_natCast, Nat.mul_one]
    refine ⟨⟨by omega, by omega⟩, z0 i, hc, ?_⟩
    -- the place, rounded
    have hm : ∃ p0 : Int, bitK .u64 3 (z0 i) 511 = p0 ∧ 0 ≤ p0 ∧ p0 < 18446744073709551616 ∧ p0 % 512 = 0 := by
      refine ⟨_, rfl, ?_⟩
      have h1 := W_of hz.1 hz.2
      have h2 : W (511 : Int).toNat.testBit = 511 := W_of (by decide) (by decide)
      rw [← h1, ← h2, W_andNot]
      generalize hu : (fun j => (z0 i).toNat.testBit j && !(511 : Int).toNat.testBit j) = u
      have hb := W_bnd u
      refine ⟨hb.1, hb.2, ?_⟩
      have key : wN u 64 % 2 ^ 9 = 0 := by
        apply Nat.eq_of_testBit_eq
        intro j
        rw [Nat.testBit_mod_two_pow, wN_bit, Nat.zero_testBit, ← hu]
        by_cases g : j < 9
        · have e : (511 : Int).toNat.testBit j = true := by
            have : (511 : Int).toNat = 2 ^ 9 - 1 := rfl
            rw [this, Nat.testBit_two_pow_sub_one]; simp [g]
          show (decide (j < 9) && (decide (j < 64) && ((z0 i).toNat.testBit j && !(511 : Int).toNat.testBit j))) = false
          rw [e]; simp
        · rw [decide_eq_false g]; rfl
      unfold W
      have : (2 : Nat) ^ 9 = 512 := rfl
      omega
    obtain ⟨p0, e0, b0, b1, b2⟩ := hm
    rw [e0]
    refine LOOP_intro (fun st w' => p0 ≤ st.1 ∧ st.1 < 18446744073709551616 ∧ Sat (HeapP E h S :: [Old w]) w') (fun st _ => (18446744073709551616 - st.1).toNat) ⟨Int.le_refl _, b1, H50⟩ ?_
    rintro ⟨k, v⟩ _ w55 ⟨hk1, hk2, H55⟩
    dsimp only at hk1 hk2 ⊢
    have h1024 : u64 (p0 + 1024) = p0 + 1024 ∨ u64 (p0 + 1024) < p0 := by
      by_cases g : p0 + 1024 < 18446744073709551616
      · exact .inl (u64_id (by omega) g)
      · right
        have : u64 (p0 + 1024) = p0 + 1024 - 18446744073709551616 := by
          show IntKind.wrap .u64 (p0 + 1024) = _
          have e : p0 + 1024 = (p0 + 1024 - 18446744073709551616) + 18446744073709551616 := by omega
          unfold IntKind.wrap
          simp [IntKind.bits, IntKind.signed]
          omega
        omega
    refine CND_dec (fun hkl => ?_) fun hkl => ?_
    · have hp1 : u64 (p0 + 1024) = p0 + 1024 := by
        rcases h1024 with g | g
        · exact g
        · omega
      rw [hp1] at hkl
      have hp2 : p0 + 1024 < 18446744073709551616 := by
        have := (show 0 ≤ u64 (p0 + 1024) ∧ u64 (p0 + 1024) < 18446744073709551616 from ⟨by unfold u64 IntKind.wrap; simp [IntKind.bits, IntKind.signed]; omega, by unfold u64 IntKind.wrap; simp [IntKind.bits, IntKind.signed]; omega⟩)
        omega
      have hnx : u64 (k + 77) = k + 77 := u64_id (by omega) (by omega)
      have hadv : ∀ {w'}, Sat (HeapP E h S :: [Old w]) w' → (p0 ≤ k + 77 ∧ k + 77 < 18446744073709551616 ∧ Sat (HeapP E h S :: [Old w]) w') ∧ (18446744073709551616 - (k + 77)).toNat < (18446744073709551616 - k).toNat := fun hS => ⟨⟨by omega, by omega, hS⟩, by omega⟩
      rw [hnx]
      have hu0 : 0 ≤ u64 (k * 8192) ∧ u64 (k * 8192) < 18446744073709551616 := ⟨by unfold u64 IntKind.wrap; simp [IntKind.bits, IntKind.signed]; omega, by unfold u64 IntKind.wrap; simp [IntKind.bits, IntKind.signed]; omega⟩
      refine CND_dec (fun hbig => ?_) fun hsm => ?_
      · refine JOIN_in (hof_spec H55 hu0.1 hu0.2 fun w61 H61 => CND_ne (fun hne => ⟨by decide, fun j => CND_eq (fun e => ?_) fun _ => hadv H61⟩) fun _ j => CND_f rfl (hadv H61))
        exfalso
        rw [Int.tdiv_eq_ediv_of_nonneg hu0.1, u64_id (n := u64 (k * 8192) / 8192) (by omega) (by omega)] at e
        rw [e] at hne
        have h1 := hI.o0 k
        have := (hownL k (by omega) H61).2
        omega
      · have ek : u64 (k * 8192) = k * 8192 := u64_id (by omega) (by omega)
        rw [ek]
        have eq8 : k * 8192 / 8192 = k := by omega
        -- no span's
        have hnone : S.own k = 0 → ∀ (what who : Int), what ≠ 3 → ∀ {w64}, Sat (HeapP E h S :: [Old w]) w64 → JOIN (Bool × Unit) (fun J65 =>
                        F.mheap_Heap_Of E (some ⟨h, 0, none⟩) (k * 8192) (fun r68 w69 =>
                        CND ((r68 : Int) != who) (
                          CND ((what : Int) == 3) (
                            J65 (true, ()) w69
                          ) (
                            CND ((what : Int) != 3) (
                              F.mheap_Heap_Of E (some ⟨h, 0, none⟩) (k * 8192) (fun r70 w71 =>
                              J65 ((r70 : Int) != 0, ()) w71
                              ) w69
                            ) (
                              J65 (false, ()) w69
                            )
                          )
                        ) (
                          CND ((what : Int) != 3) (
                            F.mheap_Heap_Of E (some ⟨h, 0, none⟩) (k * 8192) (fun r72 w73 =>
                            J65 ((r72 : Int) != 0, ()) w73
                            ) w69
                          ) (
                            J65 (false, ()) w69
                          )
                        )
                        ) w64
                      ) fun s66 _ w67 =>
                        CND (s66.1) (
                          K false w67
                        ) (
                          (p0 ≤ k + 77 ∧ k + 77 < 18446744073709551616 ∧ Sat (HeapP E h S :: [Old w]) w67) ∧ (18446744073709551616 - (k + 77)).toNat < (18446744073709551616 - k).toNat
                        ) := by
          intro hz what who hw w64 H64
          refine JOIN_in (hof_spec H64 (by omega) (by omega) fun w69 H69 => ?_)
          have hr : ∀ {w69}, Sat (HeapP E h S :: [Old w]) w69 → F.mheap_Heap_Of E (some ⟨h, 0, none⟩) (k * 8192) (fun r70 w71 => ∀ j : Nat → Value, CND ((r70 : Int) != 0) (K false w71) ((p0 ≤ k + 77 ∧ k + 77 < 18446744073709551616 ∧ Sat (HeapP E h S :: [Old w]) w71) ∧ (18446744073709551616 - (k + 77)).toNat < (18446744073709551616 - k).toNat)) w69 := fun {w69} H69 => by
            refine hof_spec H69 (by omega) (by omega) fun w71 H71 j => ?_
            rw [eq8, hz]
            exact CND_f rfl (hadv H71)
          exact CND_ne (fun _ => CND_eq (fun e => absurd e hw) fun _ => CND_ne (fun _ => hr H69) fun e => absurd e hw) fun _ => CND_ne (fun _ => hr H69) fun e => absurd e hw
        refine howner_spec hE H55 (by omega) (by omega) (fun hbad w64 H64 => ?_) (fun _ _ hpos w64 H64 => ?_) (fun _ _ hz q _ _ _ w64 H64 => hnone (hown0 k hz) 2 q (by decide) H64) fun _ _ hz _ w64 H64 => hnone (hown0 k hz) 1 0 (by decide) H64
        · refine hnone (hown0 k fun g => ?_) 0 0 (by decide) H64
          rcases hbad with e | e
          · omega
          · exact e ((hI.ks k).2 (hI.ow k g).1)
        · refine JOIN_in (hof_spec H64 (by omega) (by omega) fun w69 H69 => ?_)
          rw [eq8]
          exact CND_ne (fun e => absurd rfl e) fun _ => CND_f rfl fun j => CND_f rfl (hadv H69)
    · rw [i64_id (n := (i : Int) + 1) (by omega) (by omega)]
      exact ⟨⟨i + 1, by show (i : Int) + 1 = ((i + 1 : Nat) : Int); omega, by omega, H55⟩, by show ((a0.len : Int) - ((i : Int) + 1)).toNat < ((a0.len : Int) - (i : Int)).toNat; omega⟩
  · exact hawake_spec hE hT' H50.tail fun w39 H39 => hK w39 (H39.old 0 rfl)
end
end Go.Sh

namespace Go.Proofs.YtaaojaeeefbjiaaDoor.heapPlacesApart
open Go.ChangeShapes Go.WideShapes Go.ChangeAt Go.RowKit
set_option linter.unusedVariables false
set_option linter.unusedSimpArgs false

theorem own : ownKnob Tryd.prog.godebug = none := by kernel_rfl
theorem laidOut : laidOutB Tryd.prog = true := by kernel_rfl
theorem gTab : Tryd.prog.globalNamed "math/bits.deBruijn64tab" = some 0 := by kernel_rfl
theorem gTabType : (Tryd.prog.globals[0]?).map (·.type) = some 164 := by kernel_rfl
theorem und1 : Tryd.prog.underlying 164 = some (.array 64 5) := by kernel_rfl
theorem und2 : Tryd.prog.underlying 5 = some (.int .u8) := by kernel_rfl
theorem cells1 : Tryd.prog.cellsOf 164 = 64 := by kernel_rfl
theorem cells2 : Tryd.prog.cellsOf 5 = 1 := by kernel_rfl

/-- What the row's list gives: the table's cells hold its numbers. -/
theorem table {W : World} (h : laidMetH Tryd.prog Rows.heapPlacesApartRow.laid W) : Go.Sh.TabAt Go.Sh.env.g_math_bits_deBruijn64tab W := by
  have ht := Lib.tabIs_of_head (rest := []) (k := .u8) (zs := Lib.deBruijn64tab.map fun n : Nat => (n : Int)) gTab gTabType und1 und2 cells2 cells1 h
  intro i hi
  have := ht.cell gTab i (by rw [List.length_map]; exact hi)
  rw [show (Lib.deBruijn64tab.map fun n : Nat => (n : Int)).getD i 0 = ((Lib.deBruijn64tab.getD i 0 : Nat) : Int) by rw [List.getD_eq_getElem?_getD, List.getD_eq_getElem?_getD, List.getElem?_map]; cases Lib.deBruijn64tab[i]? <;> rfl] at this
  exact this

theorem walk (x : Go.Sh.ArgTs [.sl (.int .u64), .sl (.int .u64)]) (w : World) (h : Go.Sh.argOks w [.sl (.int .u64), .sl (.int .u64)] x) (hT : Go.Sh.TabAt Go.Sh.env.g_math_bits_deBruijn64tab w) :
    Calls Tryd.prog 3 ⟨Go.Sh.argVals [.sl (.int .u64), .sl (.int .u64)] x⟩ w fun e w' => e = .returned (.bool true) ∧ Below w.heap.size w w' := by
  obtain ⟨a0, a1, u⟩ := x
  obtain ⟨w0, w1, _⟩ := h
  obtain ⟨z0, w0⟩ := w0
  obtain ⟨z1, w1⟩ := w1
  refine (Go.Sh.fits3 _ w (fun v w' => v = .bool true ∧ Below w.heap.size w w') Go.Sh.noP ?_).2.mono ?_
  · show Go.Sh.F.mallowlaw16_HeapPlacesApart Go.Sh.env a0 a1 (fun r w' => Value.bool r = .bool true ∧ Below w.heap.size w w') w
    exact Go.Sh.places_spec Go.Sh.envA hT w0 w1 fun w' h => ⟨rfl, h.below (Nat.le_refl _) fun _ f => f.elim⟩
  · intro e w' hE
    obtain ⟨v, rfl, rfl, h⟩ := hE.val
    exact ⟨rfl, h⟩

noncomputable def laidWorld (os : Os) : World :=
  { World.holding Tryd.prog os ⟨#[], #[], []⟩ with heap := (World.holding Tryd.prog os ⟨#[], #[], []⟩).heap.modify 0 fun
      | .cells _ t frozen => .cells ⟨Lib.deBruijn64tab.map fun n : Nat => .int .u8 (n : Int)⟩ t frozen
      | o => o }
theorem laid_met (os : Os) : laidMet Tryd.prog Rows.heapPlacesApartRow.laid ((laidWorld os).forCall (fun _ _ => 0) ⟨#[], #[.slice none 0 0, .slice none 0 0], []⟩).memory :=
  laidMet_of_run' 8 (by kernel_rfl) (by kernel_rfl)
theorem reads (os : Os) {H : Type} (enc : TypeId × Value → H) : ∃ places, DataW.whole enc Tryd.prog ((laidWorld os).forCall (fun _ _ => 0) ⟨#[], #[.slice none 0 0, .slice none 0 0], []⟩).memory Tryd.f3.params.toList Rows.heapPlacesApartSpec.vars false (#[.slice none 0 0, .slice none 0 0] : Array Value).toList 8 = some ([.nil, .nil], [], places) :=
  ⟨[], by kernel_rfl⟩

set_option maxRecDepth 100000 in
theorem lifted (os : Os) (started : os.Started) (H : Type) (enc : TypeId × Value → H) (F : Stop.Interp) :
    ReturnsInHanded {} Tryd.checked os 3 .any ((OpenSpec.ofChange Rows.heapPlacesApartSpec).preRow enc Tryd.prog Tryd.f3 Rows.heapPlacesApartRow.domain false Rows.heapPlacesApartRow.laid) (((OpenSpec.ofChange Rows.heapPlacesApartSpec).at F).post enc Tryd.prog Tryd.f3 false true false false) := by
  obtain ⟨places, hx⟩ := reads os enc
  refine returnsInHanded_of_row (C := Tryd.checked) (s := OpenSpec.ofChange Rows.heapPlacesApartSpec) own started (by kernel_rfl) Tryd.func3
    (witness_row_at (enc := enc) (C := Tryd.checked) false (laidWorld os) #[.slice none 0 0, .slice none 0 0] rfl (by kernel_rfl) (by kernel_rfl) (by kernel_rfl)
      (OpenSpec.preRow_of_cond 8 hx (by kernel_rfl) (fun k hk => by cases hk) (by kernel_rfl) (laid_met os))) ?_
  intro W base args ds gs before hval0 hW _ _ _ hL _ _
  have hW' := hW
  obtain ⟨p, q, hA, hV, rfl, hfz, hnd⟩ := hW
  obtain ⟨rfl, rfl⟩ := trodVars_none hV
  have hargs := Go.Sh.args_of (P := Tryd.prog) (shs := [.sl (.int .u64), .sl (.int .u64)]) (by kernel_rfl) (fun j t v ht hv => hval0 j t v (by simpa using ht) (by simpa using hv)) hA
  obtain ⟨x, hx, hok⟩ := Go.Sh.argVals_of hargs
  obtain rfl : args = ⟨Go.Sh.argVals [.sl (.int .u64), .sl (.int .u64)] x⟩ := Array.toList_inj.1 (by simpa using hx)
  have hlen := Go.Sh.trodAll_len hA
  obtain ⟨d0, d1, rfl⟩ : ∃ d0 d1, ds = [d0, d1] := by
    have hl : ds.length = 2 := hlen
    match ds, hl with
    | [d0, d1], _ => exact ⟨d0, d1, rfl⟩
  refine (walk x W hok (table hL)).mono fun e W' ⟨he, bel⟩ => ?_
  subst he
  exact ⟨_, rfl, _, _, _, [], _, [], hW', trodAll_mk1 (shut_bool Tryd.underlying4 _), Go.Sh.trodAll_below laidOut bel (by kernel_rfl) hA, rfl, bel.frame _, fun h => by cases h⟩

theorem said : Rows.HeapPlacesApartSaid :=
  OpenClaim.holds_of_cond 3 Tryd.f3 rfl rfl rfl rfl rfl rfl rfl ⟨rfl, rfl, rfl, rfl, rfl⟩ rfl rfl rfl rfl rfl (by kernel_rfl) Tryd.func3 (by kernel_rfl)
    (of_decide_eq_true (by kernel_rfl)) (by unfold Func.isWrapper; first | (rw [if_pos (by decide +kernel)]; kernel_rfl) | (rw [if_neg (by decide +kernel)]; exact ⟨rfl, rfl⟩))
    (fun os started H enc _ F => by rw [OpenClaim.pre_eq_preRow]; exact lifted os started H enc F)

theorem plain (f : FuncId) (fn : Func) (hf : Tryd.pinned.checked.prog.funcNamed "mallow/mallowlaw16.HeapPlacesApart" = some f) (hfn : Tryd.pinned.checked.prog.funcs[f]? = some fn) :
    true = Tryd.pinned.checked.prog.looks [] ∧ ∀ (j : Nat) t, fn.params[j]? = some t → Tryd.pinned.checked.prog.wantsStandIn t = false := by
  obtain rfl : f = 3 := Option.some.inj ((show Tryd.prog.funcNamed "mallow/mallowlaw16.HeapPlacesApart" = some 3 by kernel_rfl).symm.trans hf) |>.symm
  obtain rfl : fn = Tryd.f3 := (Option.some.inj (Tryd.func3.symm.trans hfn)).symm
  refine ⟨by kernel_rfl, fun j t ht => ?_⟩
  have hall : (Tryd.f3.params.toList.all fun t => !(Tryd.prog.wantsStandIn t)) = true := by kernel_rfl
  have := List.all_eq_true.1 hall t (Array.mem_toList_iff.2 (Array.mem_of_getElem? ht))
  exact Bool.not_eq_true' _ ▸ this

/-- ████ THE CARD ████ -/
theorem proved : Rows.HeapPlacesApartCardSaid :=
  Claim7.holds_tied_plain_at .later [] _ _ _ _ said (fun _ h => by cases h) (by kernel_rfl) (fun _ h => by cases h) heapPlacesApart_row_tie rfl ⟨rfl, rfl⟩ (by kernel_rfl) rfl plain (by kernel_rfl)
#print axioms proved
end Go.Proofs.YtaaojaeeefbjiaaDoor.heapPlacesApart
