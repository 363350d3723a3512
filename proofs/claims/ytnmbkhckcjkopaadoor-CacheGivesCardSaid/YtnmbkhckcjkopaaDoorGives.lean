/- The law CacheGives holds (its card: math/bits' table as the program's text lays it): for every input the Go function returns true and leaves its arguments alone. No further condition. -/
import Derived.Test.YtnmbkhckcjkopaaDoorR
import Derived.Test.YtnmbkhckcjkopaaDoorA
import Derived.Test.YtnmbkhckcjkopaaDoorT
import Derived.Test.YtnmbkhckcjkopaaDoorCards
import Derived.Test.YtnmbkhckcjkopaaDoorTie
import Derived.WalkKit
import Derived.ProofKit
import Derived.OpenShut
import Derived.Deep.DeepHandedRow
import Derived.Lib.LaidTab
set_option linter.all false
set_option maxRecDepth 4000
set_option maxHeartbeats 2000000
namespace Go.Sh

/-- The places of a row that nobody has. -/
def fitsG (g : Int → Bool) (k n : Int) : Prop := ∀ m, k ≤ m → m < k + n → g m = false

section
variable {E : Env} (hE : EnvS E) {w : World}
include hE

theorem gives_spec (hT : TabAt E.g_math_bits_deBruijn64tab w) {a : SlV} {z : Nat → Int} (ha : RowA w (.int .i64) a z) {K : Bool → World → Prop} (hK : ∀ w', Ext Nothing w w' → K true w') : F.mallowlaw10_CacheGives E a K w := by
  unfold F.mallowlaw10_CacheGives
  refine CND_dec (fun _ => hK _ (Ext.refl _ _)) fun hlen => ?_
  refine vnew_sat (Sat.start w) fun w2 t H2 => pnew_spec H2 fun w4 c H4 => ?_
  refine JOIN_in (CND_f rfl (CND_f rfl (cgrow_spec hE (H4.perm (.swap _ _ _)) (by decide) (by decide) fun w9 H9 => CND_f rfl ?_)))
  refine cfill_spec hE (by decide) (by decide) (H9.perm (.swap _ _ _)) fun w11 S0 hb0 hh0 hr0 H11 j => CND_f rfl ⟨by decide, ?_⟩
  generalize hV : (one 5).take (5 * 512) 64 = V at H11
  have hVin : ∀ p, 2560 ≤ p → p < 2624 → V.inn p = true ∧ V.fr p = false := fun p h1 h2 => by
    rw [← hV]
    refine ⟨one_iff.2 (by omega), ?_⟩
    show ((one 5).fr p && !inr (5 * 512) 64 p) = false
    rw [inr_iff.2 (by omega)]; simp
  rw [show Int.toNat 64 * 1 = 64 from rfl, mkZero_flags]
  refine AL_cells H11 fun b12 w13 H13 _ => ?_
  refine LOOP_intro (fun st w' => ∃ (i : Nat) (g : Int → Bool) (S : CS), st.1 = (i : Int) ∧ i ≤ a.len ∧ S.base = 2560 ∧ (∀ k, S.has k = (decide (k < 64) && !g k)) ∧ (∀ k, S.rel k = S.has k) ∧
      Sat (Cells b12 E.t_bool (flags 64 g) :: CacheP E c S :: TreeV E t V :: [Old w]) w') (fun st _ => (a.len - st.1).toNat)
    ⟨0, _, S0, rfl, Nat.zero_le _, hb0, fun k => by rw [hh0]; simp, fun k => by rw [hr0, hh0], H13⟩ ?_
  clear H13 H11 hh0 hr0 hb0 H9 H4 H2
  rintro ⟨i', v⟩ _ w15 ⟨i, g, S, hi, hil, hb, hh, hr, H15⟩
  dsimp only at hi ⊢
  subst hi
  refine CND_dec (fun hlt => ?_) fun hge => cawake_spec hE H15 (fun w' h => hT.ext (h.old 3 rfl)) fun w' h => hK _ (h.old 3 rfl)
  obtain ⟨x, hx, hc0, hwf⟩ := ha.cell1 (show i < a.len by omega)
  obtain ⟨hn0, hn1⟩ := i64_wf hwf
  generalize z i = n at hc0 hn0 hn1
  rw [hx]
  simp only [NC_some, Int.toNat_natCast, Nat.mul_one]
  rw [i64_id (n := (i : Int) + 1) (by omega) (by omega)]
  refine ⟨⟨by omega, by omega⟩, n, (H15.old 3 rfl).cell hc0 fun f => f, ?_⟩
  have fin : ∀ {w'} (g' : Int → Bool) (S' : CS), S'.base = 2560 → (∀ k, S'.has k = (decide (k < 64) && !g' k)) → (∀ k, S'.rel k = S'.has k) → Sat (Cells b12 E.t_bool (flags 64 g') :: CacheP E c S' :: TreeV E t V :: [Old w]) w' →
      (∃ (j : Nat) (g : Int → Bool) (S : CS), (i : Int) + 1 = (j : Int) ∧ j ≤ a.len ∧ S.base = 2560 ∧ (∀ k, S.has k = (decide (k < 64) && !g k)) ∧ (∀ k, S.rel k = S.has k) ∧
      Sat (Cells b12 E.t_bool (flags 64 g) :: CacheP E c S :: TreeV E t V :: [Old w]) w') ∧ (a.len - ((i : Int) + 1)).toNat < (a.len - (i : Int)).toNat := fun g' S' h1 h2 h3 h4 => ⟨⟨i + 1, g', S', by omega, by omega, h1, h2, h3, h4⟩, by omega⟩
  -- what it told ahead of it
  have toC : ∀ {w' S'}, Sat (Cells b12 E.t_bool (flags 64 g) :: CacheP E c S' :: TreeV E t V :: [Old w]) w' → Sat (CacheP E c S' :: Cells b12 E.t_bool (flags 64 g) :: TreeV E t V :: [Old w]) w' := fun h => h.perm (.swap _ _ _)
  have toB : ∀ {w' S'}, Sat (CacheP E c S' :: Cells b12 E.t_bool (flags 64 g) :: TreeV E t V :: [Old w]) w' → Sat (Cells b12 E.t_bool (flags 64 g) :: CacheP E c S' :: TreeV E t V :: [Old w]) w' := fun h => h.perm (.swap _ _ _)
  -- the search for a row
  have search : 1 ≤ n → n ≤ 64 → ∀ {w'} {S'}, Sat (Cells b12 E.t_bool (flags 64 g) :: CacheP E c S' :: TreeV E t V :: [Old w]) w' → ∀ {rest : Int × Unit → (Nat → Value) → World → Prop},
      (∀ want, (want = -1 ∧ (∀ k, 0 ≤ k → k + n ≤ 64 → ¬ fitsG g k n)) ∨ (0 ≤ want ∧ want + n ≤ 64 ∧ fitsG g want n ∧ ∀ k, 0 ≤ k → k < want → ¬ fitsG g k n) → ∀ j, rest (want, ()) j w') →
      JOIN (Int × Unit) (fun J33 =>
        LOOP (Int × Int × Unit) ((-1), 0, ()) w' fun s36 _ w37 next38 =>
          CND (decide (((i64 (s36.2.1 + n)) : Int) ≤ 64)) (
            CND (decide ((s36.1 : Int) < 0)) (
              LOOP (Bool × Int × Unit) (true, s36.2.1, ()) w37 fun s39 _ w40 next41 =>
                CND (decide ((s39.2.1 : Int) < (i64 (s36.2.1 + n)))) (
                  CND (s39.1) (
                    ((0 : Int) ≤ s39.2.1 ∧ (s39.2.1 : Int) < ((Int.toNat 64) : Nat)) ∧
                    ∃ x42 : Bool, w40.cell? ((Addr.mk b12 0 none).add (Int.toNat s39.2.1)) = some (.bool x42) ∧
                    next41 (!x42, i64 (s39.2.1 + 1), ()) w40
                  ) (
                    next41 (false, i64 (s39.2.1 + 1), ()) w40
                  )
                ) (
                  CND (s39.1) (
                    next38 (s36.2.1, i64 (s36.2.1 + 1), ()) w40
                  ) (
                    next38 (s36.1, i64 (s36.2.1 + 1), ()) w40
                  )
                )
            ) (
              J33 (s36.1, ()) w37
            )
          ) (
            J33 (s36.1, ()) w37
          )) rest := by
    intro n1 n64 w' S' HS rest hrest
    refine JOIN_st (fun st w'' => w'' = w' ∧ ((st.1 = -1 ∧ (∀ k, 0 ≤ k → k + n ≤ 64 → ¬ fitsG g k n)) ∨ (0 ≤ st.1 ∧ st.1 + n ≤ 64 ∧ fitsG g st.1 n ∧ ∀ k, 0 ≤ k → k < st.1 → ¬ fitsG g k n))) ?_ ?_
    · refine LOOP_intro (fun st w'' => w'' = w' ∧ 0 ≤ st.2.1 ∧ st.2.1 ≤ 64 ∧ ((st.1 = -1 ∧ (∀ k, 0 ≤ k → k < st.2.1 → ¬ fitsG g k n)) ∨ (0 ≤ st.1 ∧ st.1 + n ≤ 64 ∧ fitsG g st.1 n ∧ ∀ k, 0 ≤ k → k < st.1 → ¬ fitsG g k n))) (fun st _ => (65 - st.2.1).toNat)
        ⟨rfl, by decide, by decide, .inl ⟨rfl, fun k h1 h2 => by dsimp only at h2; omega⟩⟩ ?_
      rintro ⟨want, k, v⟩ _ w37 ⟨rfl, k0, k1, hw⟩
      dsimp only at k0 k1 hw ⊢
      rw [i64_id (n := k + n) (by omega) (by omega), i64_id (n := k + 1) (by omega) (by omega)]
      refine CND_dec (fun hle => CND_dec (fun hneg => ?_) fun hpos => ⟨rfl, ?_⟩) fun hgt => ⟨rfl, ?_⟩
      · obtain ⟨hw1, hw2⟩ : want = -1 ∧ (∀ k', 0 ≤ k' → k' < k → ¬ fitsG g k' n) := by
          rcases hw with h | h
          · exact h
          · omega
        refine LOOP_intro (fun st w'' => w'' = w37 ∧ k ≤ st.2.1 ∧ st.2.1 ≤ k + n ∧ (st.1 = true ↔ ∀ m, k ≤ m → m < st.2.1 → g m = false)) (fun st _ => (k + n - st.2.1).toNat)
          ⟨rfl, Int.le_refl _, by dsimp only; omega, ⟨fun _ m h1 h2 => by dsimp only at h2; omega, fun _ => rfl⟩⟩ ?_
        rintro ⟨fits, m, v⟩ _ w40 ⟨rfl, m0, m1, hf⟩
        dsimp only at m0 m1 hf ⊢
        refine CND_dec (fun hlt2 => ?_) fun hge2 => ?_
        · rw [i64_id (n := m + 1) (by omega) (by omega)]
          refine CND_intro (fun e => ⟨⟨by omega, by show m < 64; omega⟩, g m, HS.cell (flags_getI (n := 64) (by omega) (by omega)), ⟨by trivial, by omega, by omega, ?_⟩, by omega⟩) fun e => ⟨⟨by trivial, by omega, by omega, ?_⟩, by omega⟩
          · constructor
            · intro h m' a1 a2
              by_cases e2 : m' = m
              · rw [e2]; simpa using h
              · exact hf.1 e m' a1 (by omega)
            · intro h
              have := h m (by omega) (by omega)
              rw [this]; rfl
          · constructor
            · intro h; cases h
            · intro h
              have := hf.2 fun m' a1 a2 => h m' a1 (by omega)
              rw [this] at e; cases e
        · have em : m = k + n := by omega
          subst em
          refine CND_intro (fun e => ⟨⟨by trivial, by omega, by omega, .inr ⟨by omega, by omega, fun m' a1 a2 => hf.1 e m' a1 a2, hw2⟩⟩, by omega⟩) fun e => ⟨⟨by trivial, by omega, by omega, .inl ⟨hw1, fun k' a1 a2 hk' => ?_⟩⟩, by omega⟩
          by_cases e2 : k' = k
          · subst e2
            rw [hf.2 fun m' a1 a2 => hk' m' a1 a2] at e; cases e
          · exact hw2 k' a1 (by omega) hk'
      · rcases hw with h | h
        · omega
        · exact .inr h
      · rcases hw with ⟨h1, h2⟩ | h
        · exact .inl ⟨h1, fun k' a1 a2 => h2 k' a1 (by omega)⟩
        · exact .inr h
    · rintro ⟨want, v⟩ j w35 ⟨rfl, hw⟩
      exact hrest want hw j
  have hrunfit : ∀ (k : Nat), 1 ≤ n → k + n.toNat ≤ 64 → (runAt S.has k n.toNat ↔ fitsG g k n) := fun k hn1 hk => by
    constructor
    · intro h m a1 a2
      have := h (m - k).toNat (by omega)
      rw [hh, show k + (m - k).toNat = m.toNat by omega, show ((m.toNat : Nat) : Int) = m by omega, Bool.and_eq_true] at this
      simpa using this.2
    · intro h m hm
      rw [hh, h _ (by omega) (by omega)]
      simp; omega
  have body : ∀ (r19 r20 r21 : Int) (w22 : World), (¬ S.empty → r20 = W S.has) → Sat (CacheP E c S :: Cells b12 E.t_bool (flags 64 g) :: TreeV E t V :: [Old w]) w22 → ∀ (J : Int → Int → Int → World → Prop),
      (∀ r23 r24 r25 w26, (n < 1 ∨ 64 < n) ∧ r23 = 0 ∧ r24 = 0 ∧ r25 = 1 ∧ Sat (CacheP E c S :: Cells b12 E.t_bool (flags 64 g) :: TreeV E t V :: [Old w]) w26 → J r23 r24 r25 w26) →
      (∀ r23 r24 r25 w26, (1 ≤ n ∧ n ≤ 64) ∧ (∀ i, ¬ runAt S.has i n.toNat) ∧ r25 = 30 ∧ Sat (CacheP E c S :: Cells b12 E.t_bool (flags 64 g) :: TreeV E t V :: [Old w]) w26 → J r23 r24 r25 w26) →
      (∀ i r24 w26, (1 ≤ n ∧ n ≤ 64) ∧ runAt S.has i n.toNat ∧ (∀ j, runAt S.has j n.toNat → i ≤ j) ∧ i + n.toNat ≤ 64 ∧ r24 = n ∧ Sat (CacheP E c (S.alloc i n.toNat) :: Cells b12 E.t_bool (flags 64 g) :: TreeV E t V :: [Old w]) w26 → J (2560 + (i : Int)) r24 0 w26) →
      F.pcache_Cache_Alloc E (some ⟨c, 0, none⟩) n J w22 := fun r19 r20 r21 w22 hr20 H22 J j1 j2 j3 => by
    refine palloc_spec (hT.ext (H22.old 3 rfl)) H22 hn0 hn1 (fun h => j1 _ _ _ _ ⟨h, rfl, rfl, rfl, H22⟩) (fun h1 h2 hno => j2 _ _ _ _ ⟨⟨h1, h2⟩, hno, rfl, H22⟩) fun h1 h2 k hrun hmin h64 w26 H26 => ?_
    rw [hb]
    refine j3 _ _ _ ⟨⟨h1, h2⟩, hrun, hmin, h64, ?_, H26⟩
    rw [cN_congr (v := fun k' => decide (k ≤ k') && decide (k' < k + n.toNat)) fun k' hk' => ?_, cN_row]
    · omega
    · by_cases g1 : k ≤ k'
      · by_cases g2 : k' < k + n.toNat
        · have := hrun (k' - k) (by omega)
          rw [show k + (k' - k) = k' by omega] at this
          rw [hr, this]; simp
        · simp [g2]
      · simp [g1]
  have hjoin : ∀ {r23 r24 r25 : Int} {w26 : World} {T : Bool × Unit → (Nat → Value) → World → Prop}, ((n < 1 ∨ 64 < n) → ∀ j, T (true, ()) j w26) → (1 ≤ n → n ≤ 64 → ∀ j, T (false, ()) j w26) →
      JOIN (Bool × Unit) (fun J27 => CND (decide ((n : Int) < 1)) (J27 (true, ()) w26) (J27 (decide ((n : Int) > 64), ()) w26)) T := fun h1 h0 => by
    refine JOIN_in (CND_dec (fun h j => h1 (.inl h) j) fun h j => ?_)
    by_cases h' : n > 64
    · rw [decide_eq_true h']; exact h1 (.inr h') j
    · rw [decide_eq_false h']; exact h0 (by omega) (by omega) j
  refine ptell_any (toC H15) fun r19 r20 r21 w22 _ hr20 H22 => body r19 r20 r21 w22 (fun h => (hr20 h).2.1) H22 _ (fun r23 r24 r25 w26 ⟨hbad, e1, e2, e3, H26⟩ => by
      subst e1; subst e2; subst e3
      refine hjoin (r23 := 0) (r24 := 0) (r25 := 1) (fun _ j => CND_t rfl (JOIN_in (CND_ne (fun h => absurd rfl h) fun _ => CND_ne (fun h => absurd rfl h) fun _ j => CND_f rfl (fin g S hb hh hr (toB H26))))) fun h1 h2 => ?_
      omega) (fun r23 r24 r25 w26 ⟨⟨h1, h2⟩, hno, e3, H26⟩ => by
      subst e3
      refine hjoin (r23 := r23) (r24 := r24) (r25 := 30) (fun h => by omega) fun _ _ j => CND_f rfl (search h1 h2 (toB H26) fun want hw j => ?_)
      rcases hw with ⟨e, _⟩ | ⟨g1, g2, g3, _⟩
      · subst e
        exact CND_t rfl (CND_ne (fun h => absurd rfl h) fun _ => fin g S hb hh hr (toB H26))
      · exfalso
        have := hno want.toNat
        rw [hrunfit want.toNat h1 (by omega), show ((want.toNat : Nat) : Int) = want by omega] at this
        exact this g3) fun k r24 w26 ⟨⟨h1, h2⟩, hrun, hmin, h64, e4, H26⟩ => by
      have e4 := e4.symm
      subst e4
      have hne : ¬ S.empty := fun h => by have := hrun 0 (by omega); rw [h] at this; cases this
      have hr20 := (hr20 hne).2.1
      subst hr20
      have hkfit := (hrunfit k h1 h64).1 hrun
      refine hjoin (r23 := 0) (r24 := 0) (r25 := 0) (fun h => by omega) fun _ _ j => CND_f rfl (search h1 h2 (toB H26) fun want hw j => ?_)
      have hwant : want = (k : Int) := by
        rcases hw with ⟨_, e⟩ | ⟨g1, g2, g3, g4⟩
        · exact absurd hkfit (e k (by omega) (by omega))
        · have a1 : ¬ ((k : Int) < want) := fun h => g4 k (by omega) h hkfit
          have a2 := hmin want.toNat ((hrunfit want.toNat h1 (by omega)).2 (by rwa [show ((want.toNat : Nat) : Int) = want by omega]))
          omega
      clear hw
      subst hwant
      refine CND_f (decide_eq_false (by omega)) ?_
      rw [u64_id (n := (k : Int)) (by omega) (by omega), u64_id (n := 2560 + (k : Int)) (by omega) (by omega), i64_id (n := (k : Int) + n) (by omega) (by omega)]
      refine JOIN_in (CND_f rfl (CND_ne (fun h => absurd rfl h) fun _ j => CND_ne (fun h => absurd rfl h) fun _ => ?_))
      refine LOOP_intro (fun st w' => (k : Int) ≤ st.1 ∧ st.1 ≤ k + n ∧ Sat (Cells b12 E.t_bool (flags 64 fun m => if (k : Int) ≤ m ∧ m < st.1 then true else g m) :: CacheP E c (S.alloc k n.toNat) :: TreeV E t V :: [Old w]) w') (fun st _ => (k + n - st.1).toNat)
        ⟨Int.le_refl _, by dsimp only; omega, ?_⟩ ?_
      · have : (flags 64 fun m => if (k : Int) ≤ m ∧ m < (k : Int) then true else g m) = flags 64 g := flags_congr fun m _ _ => by rw [if_neg (by omega)]
        dsimp only; rw [this]; exact H26.perm (.swap _ _ _)
      rintro ⟨m, v⟩ _ w47 ⟨m0, m1, H47⟩
      dsimp only at m0 m1 H47 ⊢
      refine CND_dec (fun hlt2 => ⟨by omega, ?_⟩) fun hge2 => ?_
      · rw [W_get S.has (by omega) (by omega)]
        have hb1 := hrun (m - k).toNat (by omega)
        rw [show k + (m - k).toNat = m.toNat by omega] at hb1
        rw [if_pos hb1, u64_id (n := m) (by omega) (by omega), u64_id (n := 2560 + m) (by omega) (by omega), i64_id (n := m + 1) (by omega) (by omega)]
        refine CND_f rfl ⟨⟨by omega, by show m < 64; omega⟩, st_cell H47 rfl (by rw [flags_len]; omega) fun w49 H49 => ?_⟩
        rw [flags_set (by omega)] at H49
        have hfl : (flags 64 fun j => if j = m then true else if (k : Int) ≤ j ∧ j < m then true else g j) = flags 64 fun j => if (k : Int) ≤ j ∧ j < m + 1 then true else g j := flags_congr fun j _ _ => by
          by_cases e : j = m
          · rw [if_pos e, if_pos (by omega)]
          · rw [if_neg e]
            by_cases e2 : (k : Int) ≤ j ∧ j < m
            · rw [if_pos e2, if_pos (by omega)]
            · rw [if_neg e2, if_neg (by omega)]
        rw [hfl] at H49
        obtain ⟨v1, v2⟩ := hVin (2560 + m) (by omega) (by omega)
        refine vstateT_sat hE (H49.front 2 rfl) (by omega) fun w53 H53 => ?_
        rw [v1, v2]
        refine JOIN_in (CND_f rfl fun j => CND_f rfl ⟨⟨by omega, by omega, ?_⟩, by omega⟩)
        exact H53.perm (List.Perm.trans (.swap _ _ _) (.cons _ (.swap _ _ _)))
      · have em : m = k + n := by omega
        subst em
        refine fin (fun m => if (k : Int) ≤ m ∧ m < k + n then true else g m) (S.alloc k n.toNat) hb (fun j => ?_) (fun j => ?_) H47
        · show (S.has j && !(decide (k ≤ j) && decide (j < k + n.toNat))) = _
          rw [hh]
          by_cases e : (k : Int) ≤ j ∧ (j : Int) < k + n
          · rw [if_pos e]
            have e1 : k ≤ j := by omega
            have e2 : j < k + n.toNat := by omega
            simp [e1, e2]
          · rw [if_neg e]
            have e1 : ¬ (k ≤ j ∧ j < k + n.toNat) := by omega
            have e2 : (decide (k ≤ j) && decide (j < k + n.toNat)) = false := by rw [Bool.and_eq_false_iff, decide_eq_false_iff_not, decide_eq_false_iff_not]; omega
            rw [e2]; simp
        · show (S.rel j && _) = (S.has j && _)
          rw [hr]

end
end Go.Sh

namespace Go.Proofs.YtnmbkhckcjkopaaDoor.cacheGives
open Go.ChangeShapes Go.WideShapes Go.ChangeAt Go.RowKit
set_option linter.unusedVariables false
set_option linter.unusedSimpArgs false

theorem own : ownKnob Tryd.prog.godebug = none := by kernel_rfl
theorem laidOut : laidOutB Tryd.prog = true := by kernel_rfl
theorem gTab : Tryd.prog.globalNamed "math/bits.deBruijn64tab" = some 0 := by kernel_rfl
theorem gTabType : (Tryd.prog.globals[0]?).map (·.type) = some 113 := by kernel_rfl
theorem und1 : Tryd.prog.underlying 113 = some (.array 64 5) := by kernel_rfl
theorem und2 : Tryd.prog.underlying 5 = some (.int .u8) := by kernel_rfl
theorem cells1 : Tryd.prog.cellsOf 113 = 64 := by kernel_rfl
theorem cells2 : Tryd.prog.cellsOf 5 = 1 := by kernel_rfl

/-- What the row's list gives: the table's cells hold its numbers. -/
theorem table {W : World} (h : laidMetH Tryd.prog Rows.cacheGivesRow.laid W) : Go.Sh.TabAt Go.Sh.env.g_math_bits_deBruijn64tab W := by
  have ht := Lib.tabIs_of_head (rest := []) (k := .u8) (zs := Lib.deBruijn64tab.map fun n : Nat => (n : Int)) gTab gTabType und1 und2 cells2 cells1 h
  intro i hi
  have := ht.cell gTab i (by rw [List.length_map]; exact hi)
  rw [show (Lib.deBruijn64tab.map fun n : Nat => (n : Int)).getD i 0 = ((Lib.deBruijn64tab.getD i 0 : Nat) : Int) by rw [List.getD_eq_getElem?_getD, List.getD_eq_getElem?_getD, List.getElem?_map]; cases Lib.deBruijn64tab[i]? <;> rfl] at this
  exact this

theorem walk (x : Go.Sh.ArgTs [.sl (.int .i64)]) (w : World) (h : Go.Sh.argOks w [.sl (.int .i64)] x) (hT : Go.Sh.TabAt Go.Sh.env.g_math_bits_deBruijn64tab w) :
    Calls Tryd.prog 3 ⟨Go.Sh.argVals [.sl (.int .i64)] x⟩ w fun e w' => e = .returned (.bool true) ∧ Below w.heap.size w w' := by
  obtain ⟨a0, u⟩ := x
  obtain ⟨w0, _⟩ := h
  obtain ⟨z0, w0⟩ := w0
  refine (Go.Sh.fits3 _ w (fun v w' => v = .bool true ∧ Below w.heap.size w w') Go.Sh.noP ?_).2.mono ?_
  · show Go.Sh.F.mallowlaw10_CacheGives Go.Sh.env a0 (fun r w' => Value.bool r = .bool true ∧ Below w.heap.size w w') w
    exact Go.Sh.gives_spec Go.Sh.envS hT w0 fun w' h => ⟨rfl, h.below (Nat.le_refl _) fun _ f => f.elim⟩
  · intro e w' hE
    obtain ⟨v, rfl, rfl, h⟩ := hE.val
    exact ⟨rfl, h⟩

noncomputable def laidWorld (os : Os) : World :=
  { World.holding Tryd.prog os ⟨#[], #[], []⟩ with heap := (World.holding Tryd.prog os ⟨#[], #[], []⟩).heap.modify 0 fun
      | .cells _ t frozen => .cells ⟨Lib.deBruijn64tab.map fun n : Nat => .int .u8 (n : Int)⟩ t frozen
      | o => o }
theorem laid_met (os : Os) : laidMet Tryd.prog Rows.cacheGivesRow.laid ((laidWorld os).forCall (fun _ _ => 0) ⟨#[], #[.slice none 0 0], []⟩).memory :=
  laidMet_of_run' 8 (by kernel_rfl) (by kernel_rfl)
theorem reads (os : Os) {H : Type} (enc : TypeId × Value → H) : ∃ places, DataW.whole enc Tryd.prog ((laidWorld os).forCall (fun _ _ => 0) ⟨#[], #[.slice none 0 0], []⟩).memory Tryd.f3.params.toList Rows.cacheGivesSpec.vars false (#[.slice none 0 0] : Array Value).toList 8 = some ([.nil], [], places) :=
  ⟨[], by kernel_rfl⟩

set_option maxRecDepth 100000 in
theorem lifted (os : Os) (started : os.Started) (H : Type) (enc : TypeId × Value → H) (F : Stop.Interp) :
    ReturnsInHanded {} Tryd.checked os 3 .any ((OpenSpec.ofChange Rows.cacheGivesSpec).preRow enc Tryd.prog Tryd.f3 Rows.cacheGivesRow.domain false Rows.cacheGivesRow.laid) (((OpenSpec.ofChange Rows.cacheGivesSpec).at F).post enc Tryd.prog Tryd.f3 false true false false) := by
  obtain ⟨places, hx⟩ := reads os enc
  refine returnsInHanded_of_row (C := Tryd.checked) (s := OpenSpec.ofChange Rows.cacheGivesSpec) own started (by kernel_rfl) Tryd.func3
    (witness_row_at (enc := enc) (C := Tryd.checked) false (laidWorld os) #[.slice none 0 0] rfl (by kernel_rfl) (by kernel_rfl) (by kernel_rfl)
      (OpenSpec.preRow_of_cond 8 hx (by kernel_rfl) (fun k hk => by cases hk) (by kernel_rfl) (laid_met os))) ?_
  intro W base args ds gs before hval0 hW _ _ _ hL _ _
  have hW' := hW
  obtain ⟨p, q, hA, hV, rfl, hfz, hnd⟩ := hW
  obtain ⟨rfl, rfl⟩ := trodVars_none hV
  have hargs := Go.Sh.args_of (P := Tryd.prog) (shs := [.sl (.int .i64)]) (by kernel_rfl) (fun j t v ht hv => hval0 j t v (by simpa using ht) (by simpa using hv)) hA
  obtain ⟨x, hx, hok⟩ := Go.Sh.argVals_of hargs
  obtain rfl : args = ⟨Go.Sh.argVals [.sl (.int .i64)] x⟩ := Array.toList_inj.1 (by simpa using hx)
  have hlen := Go.Sh.trodAll_len hA
  obtain ⟨d0, rfl⟩ : ∃ d0, ds = [d0] := by
    have hl : ds.length = 1 := hlen
    match ds, hl with
    | [d0], _ => exact ⟨d0, rfl⟩
  refine (walk x W hok (table hL)).mono fun e W' ⟨he, bel⟩ => ?_
  subst he
  exact ⟨_, rfl, _, _, _, [], _, [], hW', trodAll_mk1 (shut_bool Tryd.underlying4 _), Go.Sh.trodAll_below laidOut bel (by kernel_rfl) hA, rfl, bel.frame _, fun h => by cases h⟩

theorem said : Rows.CacheGivesSaid :=
  OpenClaim.holds_of_cond 3 Tryd.f3 rfl rfl rfl rfl rfl rfl rfl ⟨rfl, rfl, rfl, rfl, rfl⟩ rfl rfl rfl rfl rfl (by kernel_rfl) Tryd.func3 (by kernel_rfl)
    (of_decide_eq_true (by kernel_rfl)) (by unfold Func.isWrapper; first | (rw [if_pos (by decide +kernel)]; kernel_rfl) | (rw [if_neg (by decide +kernel)]; exact ⟨rfl, rfl⟩))
    (fun os started H enc _ F => by rw [OpenClaim.pre_eq_preRow]; exact lifted os started H enc F)

theorem plain (f : FuncId) (fn : Func) (hf : Tryd.pinned.checked.prog.funcNamed "mallow/mallowlaw10.CacheGives" = some f) (hfn : Tryd.pinned.checked.prog.funcs[f]? = some fn) :
    false = Tryd.pinned.checked.prog.looks [] ∧ ∀ (j : Nat) t, fn.params[j]? = some t → Tryd.pinned.checked.prog.wantsStandIn t = false := by
  obtain rfl : f = 3 := Option.some.inj ((show Tryd.prog.funcNamed "mallow/mallowlaw10.CacheGives" = some 3 by kernel_rfl).symm.trans hf) |>.symm
  obtain rfl : fn = Tryd.f3 := (Option.some.inj (Tryd.func3.symm.trans hfn)).symm
  refine ⟨by kernel_rfl, fun j t ht => ?_⟩
  have hall : (Tryd.f3.params.toList.all fun t => !(Tryd.prog.wantsStandIn t)) = true := by kernel_rfl
  have := List.all_eq_true.1 hall t (Array.mem_toList_iff.2 (Array.mem_of_getElem? ht))
  exact Bool.not_eq_true' _ ▸ this

/-- ████ THE CARD ████ -/
theorem proved : Rows.CacheGivesCardSaid :=
  Claim7.holds_tied_plain_at .later [] _ _ _ _ said (fun _ h => by cases h) (by kernel_rfl) (fun _ h => by cases h) cacheGives_row_tie rfl ⟨rfl, rfl⟩ (by kernel_rfl) rfl plain (by kernel_rfl)
#print axioms proved
end Go.Proofs.YtnmbkhckcjkopaaDoor.cacheGives
