/- The law CacheUndo holds (its card: math/bits' table as the program's text lays it): for every input the Go function returns true and leaves its arguments alone. No further condition. -/
import Derived.Test.YtnmbkhckcjkopaaDoorR
import Derived.Test.YtnmbkhckcjkopaaDoorA
import Derived.Test.YtnmbkhckcjkopaaDoorT
import Derived.Test.YtnmbkhckcjkopaaDoorCards
import Derived.Test.YtnmbkhckcjkopaaDoorTie
import Derived.WalkKit
import Derived.ProofKit
import Derived.OpenShut
import Derived.Deep.DeepHandedRow
import Derived.Lib.LaidTab
set_option linter.all false
set_option maxRecDepth 4000
set_option maxHeartbeats 2000000
namespace Go.Sh

theorem flags_snoc2 (m : Nat) (u : Int → Bool) : flags m u ++ [.bool (u m), .bool (u (m + 1))] = flags (m + 2) u := by
  unfold flags
  rw [show m + 2 = m + 1 + 1 from rfl, List.range_succ, List.range_succ]
  simp

theorem cN_zero {u : Nat → Bool} {j n : Nat} (hj : j ≤ n) (h : ∀ i, j ≤ i → i < n → u i = false) : cN u n = cN u j := by
  induction n with
  | zero => have : j = 0 := by omega
            subst this; rfl
  | succ n ih =>
    by_cases e : j = n + 1
    · rw [e]
    · simp only [cN]
      rw [ih (by omega) fun i h1 h2 => h i h1 (by omega), h n (by omega) (by omega)]; rfl

theorem cu_cN (f : Int → Bool) (x : Int) : ∀ n : Nat, cu (fun k => f (x + k)) n = (cN (fun i => f (x + i)) n : Nat)
  | 0 => rfl
  | n + 1 => by
    simp only [cu, cN]
    rw [cu_cN f x n]
    by_cases e : f (x + n) = true
    · rw [if_pos e, e]; rfl
    · have e' : f (x + n) = false := by simpa using e
      rw [if_neg e, e']; simp

/-- The bits of a word, counted one by one. -/
theorem count_bits {w : World} {u : Nat → Bool} (hu : ∀ i, 64 ≤ i → u i = false) {K : (Int × Int × Unit) → World → Prop} (hK : ∀ s : Int × Int × Unit, s.1 = (cN u 64 : Nat) → K s w) :
    LOOP (Int × Int × Unit) (0, W u, ()) w fun s55 _ w56 next57 =>
      CND (decide ((s55.2.1 : Int) > 0)) (
        LET (u64 (s55.1 + (bitK .u64 0 s55.2.1 1)) : Int) fun n_58 =>
        (0 : Int) ≤ 1 ∧
        LET (Int.fdiv s55.2.1 (2 ^ (min (Int.toNat 1) (IntKind.bits .u64))) : Int) fun x_59 =>
        next57 (n_58, x_59, ()) w56
      ) (K s55 w56) := by
  refine LOOP_intro (fun st w' => w' = w ∧ ∃ (j : Nat) (v : Nat → Bool), j ≤ 64 ∧ st.1 = (cN u j : Nat) ∧ st.2.1 = W v ∧ (∀ i, v i = u (i + j)) ∧ (st.2.1 = 0 ∨ j < 64)) (fun st _ => st.2.1.toNat) ⟨rfl, 0, u, by decide, rfl, rfl, fun i => rfl, .inr (by decide)⟩ ?_
  rintro ⟨n, x, c⟩ _ w' ⟨rfl, j, v, hj, hn, hx, hv, hor⟩
  dsimp only at hn hx hor ⊢
  have hb := W_bnd v
  have hc := cN_le u j
  refine CND_dec (fun hpos => LET_intro fun n' hn' => ⟨by decide, LET_intro fun x' hx' => ?_⟩) fun hz => ?_
  · have hj64 : j < 64 := by omega
    rw [hx, W_low, hn] at hn'
    have hx'' : x' = W fun i => decide (i + 1 < 64) && v (i + 1) := by
      rw [hx', hx]
      exact W_shr v (n := 1) (by decide) (by decide)
    have hvz : ∀ i, 64 ≤ i → v i = false := fun i hi => by rw [hv]; exact hu _ (by omega)
    have hv' : ∀ i, (decide (i + 1 < 64) && v (i + 1)) = u (i + (j + 1)) := fun i => by
      by_cases g : i + 1 < 64
      · simp only [g, decide_true, Bool.true_and]; rw [hv]; congr 1; omega
      · simp only [g, decide_false, Bool.false_and]; rw [hu _ (by omega)]
    have hlt : x'.toNat < x.toNat := by
      have e : x' = x / 2 := by
        rw [hx', Int.fdiv_eq_ediv_of_nonneg _ (Int.pow_nonneg (by decide))]; rfl
      omega
    have hstep : n' = (cN u (j + 1) : Nat) := by
      rw [hn']
      simp only [cN]
      have := hv 0
      rw [Nat.zero_add] at this
      rw [this]
      cases hu' : u j
      · rw [if_neg (by decide), u64_id (by omega) (by omega)]; simp
      · rw [if_pos rfl, u64_id (by omega) (by omega)]; simp
    refine ⟨⟨by trivial, j + 1, _, by omega, hstep, hx'', hv', ?_⟩, hlt⟩
    by_cases e : j + 1 < 64
    · exact .inr e
    · left
      rw [hx'', W_eq_zero]
      intro i hi
      rw [hv']; exact hu _ (by omega)
  · have hx0 : W v = 0 := by omega
    refine hK _ ?_
    dsimp only
    rw [cN_zero (j := j) hj fun i h1 h2 => ?_]
    · exact hn
    · have := W_eq_zero.1 hx0 (i - j) (by omega)
      rw [hv, show i - j + j = i by omega] at this
      exact this

section
variable {E : Env} (hE : EnvS E) {w : World}
include hE

theorem undo_spec (hT : TabAt E.g_math_bits_deBruijn64tab w) {a : SlV} {z : Nat → Int} {sc : Int} (hs0 : 0 ≤ sc ∧ sc < 18446744073709551616) (ha : RowA w (.int .u64) a z) {K : Bool → World → Prop} (hK : ∀ w', Ext Nothing w w' → K true w') : F.mallowlaw10_CacheUndo E a sc K w := by
  unfold F.mallowlaw10_CacheUndo
  refine CND_dec (fun _ => hK _ (Ext.refl _ _)) fun hlen => ?_
  refine vnew_sat (Sat.start w) fun w2 t H2 => pnew_spec H2 fun w4 c H4 => ?_
  refine JOIN_in (CND_f rfl (CND_f rfl (cgrow_spec hE (H4.perm (.swap _ _ _)) (by decide) (by decide) fun w9 H9 j => CND_f rfl ?_)))
  refine LOOP_intro (fun st w' => ∃ (i : Nat) (V : TV), st.1 = (i : Int) ∧ i ≤ a.len ∧ (∀ p, V.inn p = true ↔ 512 ≤ p ∧ p < 1024) ∧ Sat (TreeV E t V :: CacheP E c CS.nil :: [Old w]) w') (fun st _ => (a.len - st.1).toNat)
    ⟨0, _, rfl, Nat.zero_le _, fun p => by rw [one_iff]; omega, H9⟩ ?_
  clear H9 H4 H2
  rintro ⟨i', v⟩ _ w11 ⟨i, V, hi, hil, hin, H11⟩
  dsimp only at hi ⊢
  subst hi
  refine CND_dec (fun hlt => ?_) fun hge => ?_
  · obtain ⟨x, hx, hc0, hwf⟩ := ha.cell1 (show i < a.len by omega)
    obtain ⟨hn0, hn1⟩ := u64_wf hwf
    generalize z i = n at hc0 hn0 hn1
    rw [hx]
    simp only [NC_some, Int.toNat_natCast, Nat.mul_one]
    rw [i64_id (n := (i : Int) + 1) (by omega) (by omega)]
    have hii : (0 : Int) ≤ (i : Int) ∧ (i : Int) < (a.len : Int) := ⟨by omega, by omega⟩
    have he := H11.old 2 rfl
    have hcell : ∀ {w'}, Ext Nothing w w' → w'.cell? (x.add i) = some (.int .u64 n) := fun h => h.cell hc0 fun f => f
    refine JOIN_in ⟨hii, n, hcell he, CND_dec (fun _ j => CND_t rfl (hK _ he)) fun g1 => ⟨hii, n, hcell he, fun j => CND_dec (fun _ => hK _ he) fun g2 => ⟨hii, n, hcell he, ?_⟩⟩⟩
    have fin : ∀ {w' V'}, (∀ p, V'.inn p = true ↔ 512 ≤ p ∧ p < 1024) → Sat (TreeV E t V' :: CacheP E c CS.nil :: [Old w]) w' → (∃ (j : Nat) (V : TV), (i : Int) + 1 = (j : Int) ∧ j ≤ a.len ∧ (∀ p, V.inn p = true ↔ 512 ≤ p ∧ p < 1024) ∧ Sat (TreeV E t V :: CacheP E c CS.nil :: [Old w]) w') ∧ (a.len - ((i : Int) + 1)).toNat < (a.len - (i : Int)).toNat := fun h1 h2 => ⟨⟨i + 1, _, by omega, by omega, h1, h2⟩, by omega⟩
    refine valloc_sat hE H11 hn0 hn1 (fun h => by omega) (fun _ _ w25 H25 => JOIN_in (CND_f rfl fun j => CND_f rfl (fin hin H25))) fun _ p hp w25 H25 => ?_
    refine JOIN_in (CND_t rfl ⟨by decide, CND_eq (fun _ => ⟨hii, n, hcell (H25.old 2 rfl), ?_⟩) fun _ j => CND_f rfl (fin (V' := V.take p n) hin H25)⟩)
    have hp0 := hp.1
    have hp1 := hp.2.1
    have hinr : inRow (V.take p n) p n := ⟨by omega, hp1, fun m h1 h2 => H11.tvok.fi m (hp.2.2.1 m h1 h2)⟩
    have hnf : ∀ m, p ≤ m → m < p + n → (V.take p n).fr m = false := fun m h1 h2 => by
      show (V.fr m && !inr p n m) = false
      rw [inr_iff.2 ⟨h1, h2⟩]; simp
    exact vgive_sat hE H25 hp0 (by omega) hn0 hn1 (fun h => absurd hinr h) (fun _ ⟨m, h1, h2, h3⟩ => by rw [hnf m h1 h2] at h3; cases h3) fun _ _ w32 H32 j => CND_f rfl (fin (V' := (V.take p n).give p n) hin H32)
  -- releasing
  have after : ∀ (V : TV) (w35 : World), (∀ p, V.inn p = true ↔ 512 ≤ p ∧ p < 1024) → Sat (TreeV E t V :: CacheP E c CS.nil :: [Old w]) w35 → 
      LOOP (SlV × Int × Unit) (⟨none, 0, 0⟩, 512, ()) w35 fun s36 _ w37 next38 =>
        CND (decide ((s36.2.1 : Int) < 1024)) (
          F.radix_Tree_State E (some ⟨t, 0, none⟩) s36.2.1 (fun r39 r40 r41 w42 =>
          AL (.cells ⟨[.bool r40, .bool r41]⟩ E.t_bool) w42 fun b43 w44 =>
          APP E.t_bool 1 1 #[.bool false] s36.1 ⟨(some (Addr.mk b43 0 none)), 2, 2⟩ w44 fun s45 w46 =>
          next38 (s45, u64 (s36.2.1 + 1), ()) w46
          ) w37
        ) (
          F.pcache_Cache_Fill E (some ⟨c, 0, none⟩) (some ⟨t, 0, none⟩) (fun r47 w48 =>
          F.pcache_Cache_Empty E (some ⟨c, 0, none⟩) (fun r49 w50 =>
          CND (((r47 : Int) == 0) == r49) (
            K false w50
          ) (
            F.pcache_Cache_Tell E (some ⟨c, 0, none⟩) (fun r51 r52 r53 w54 =>
            LOOP (Int × Int × Unit) (0, r52, ()) w54 fun s55 _ w56 next57 =>
              CND (decide ((s55.2.1 : Int) > 0)) (
                LET (u64 (s55.1 + (bitK .u64 0 s55.2.1 1)) : Int) fun n_58 =>
                (0 : Int) ≤ 1 ∧
                LET (Int.fdiv s55.2.1 (2 ^ (min (Int.toNat 1) (IntKind.bits .u64))) : Int) fun x_59 =>
                next57 (n_58, x_59, ()) w56
              ) (
                F.radix_Tree_Free E (some ⟨t, 0, none⟩) (fun r60 w61 =>
                F.pcache_Cache_Flush E (some ⟨c, 0, none⟩) (some ⟨t, 0, none⟩) (fun w62 =>
                JOIN (Bool × Unit) (fun J63 =>
                  F.pcache_Cache_Empty E (some ⟨c, 0, none⟩) (fun r66 w67 =>
                  CND (!r66) (
                    J63 (true, ()) w67
                  ) (
                    F.radix_Tree_Free E (some ⟨t, 0, none⟩) (fun r68 w69 =>
                    J63 ((r68 : Int) != (u64 (r60 + s55.1)), ()) w69
                    ) w67
                  )
                  ) w62
                ) fun s64 _ w65 =>
                  CND (s64.1) (
                    K false w65
                  ) (
                    LOOP (Int × Unit) (512, ()) w65 fun s70 _ w71 next72 =>
                      CND (decide ((s70.1 : Int) < 1024)) (
                        F.radix_Tree_State E (some ⟨t, 0, none⟩) s70.1 (fun r73 r74 r75 w76 =>
                        JOIN (Bool × Unit) (fun J77 =>
                          NC s36.1.base fun p80 =>
                          ((0 : Int) ≤ (u64 (2 * (u64 (s70.1 - 512)))) ∧ ((u64 (2 * (u64 (s70.1 - 512)))) : Int) < (s36.1.len : Nat)) ∧
                          ∃ x81 : Bool, w76.cell? (p80.add (Int.toNat (u64 (2 * (u64 (s70.1 - 512)))))) = some (.bool x81) ∧
                          CND (!(r74 == x81)) (
                            J77 (true, ()) w76
                          ) (
                            NC s36.1.base fun p82 =>
                            ((0 : Int) ≤ (u64 ((u64 (2 * (u64 (s70.1 - 512)))) + 1)) ∧ ((u64 ((u64 (2 * (u64 (s70.1 - 512)))) + 1)) : Int) < (s36.1.len : Nat)) ∧
                            ∃ x83 : Bool, w76.cell? (p82.add (Int.toNat (u64 ((u64 (2 * (u64 (s70.1 - 512)))) + 1)))) = some (.bool x83) ∧
                            J77 (!(r75 == x83), ()) w76
                          )
                        ) fun s78 _ w79 =>
                          CND (s78.1) (
                            K false w79
                          ) (
                            next72 (u64 (s70.1 + 1), ()) w79
                          )
                        ) w71
                      ) (
                        F.mallowlaw10_awake E (fun r84 w85 =>
                        K r84 w85
                        ) w71
                      )
                  )
                ) w61
                ) w56
              )
            ) w50
          )
          ) w48
          ) w37
        ) := by
    clear hin H11
    intro V w35 hin H35
    obtain ⟨u, hu⟩ : ∃ u : Int → Bool, u = fun k => if k % 2 = 0 then V.fr (512 + k / 2) else V.rl (512 + k / 2) := ⟨_, rfl⟩
    have hue : ∀ q : Int, u (2 * q) = V.fr (512 + q) := fun q => by rw [hu]; dsimp only; rw [if_pos (by omega)]; congr 1; omega
    have huo : ∀ q : Int, u (2 * q + 1) = V.rl (512 + q) := fun q => by rw [hu]; dsimp only; rw [if_neg (by omega)]; congr 1; omega
    refine LOOP_intro (fun st w' => ∃ k : Nat, st.2.1 = 512 + (k : Int) ∧ k ≤ 512 ∧ Sat (Row E.t_bool 1 st.1 (flags (2 * k) u) :: TreeV E t V :: CacheP E c CS.nil :: [Old w]) w') (fun st _ => (1024 - st.2.1).toNat) ⟨0, rfl, by decide, H35.nil E.t_bool 1⟩ ?_
    rintro ⟨sl, q', v⟩ _ w37 ⟨k, hq, hk, H37⟩
    dsimp only at hq H37 ⊢
    refine CND_dec (fun hlt2 => ?_) fun hge2 => ?_
    · rw [u64_id (n := q' + 1) (by omega) (by omega)]
      refine vstateT_sat hE (H37.front 1 rfl) (by omega) fun w42 H42 => ?_
      refine AL_cells H42 fun b43 w44 H44 _ => ?_
      have hl := (H44.front 2 rfl).rowLen
      rw [flags_len] at hl
      have H45 : Sat (Cells b43 E.t_bool [.bool (V.fr q'), .bool (V.rl q')] :: Row E.t_bool 1 sl (flags (2 * k) u) :: TreeV E t V :: CacheP E c CS.nil :: [Old w]) w44 := H44.front2 1 rfl
      refine APP_row (news := [.bool (V.fr q'), .bool (V.rl q')]) (x := ⟨some (Addr.mk b43 0 none), 2, 2⟩) H45.tail rfl ⟨rfl, fun j v hj => H45.cell (by simpa using hj)⟩ rfl (by simp [Value.oneCell']) (by dsimp only; omega) (by dsimp only; omega) fun s45 w46 H46 _ => ⟨⟨k + 1, by omega, by omega, ?_⟩, by omega⟩
      have e : flags (2 * k) u ++ [.bool (V.fr q'), .bool (V.rl q')] = flags (2 * (k + 1)) u := by
        rw [hq]
        rw [show 2 * (k + 1) = 2 * k + 2 by omega, ← flags_snoc2]
        have e1 : u ((2 * k : Nat) : Int) = V.fr (512 + k) := by rw [← hue]; rfl
        have e2 : u ((2 * k : Nat) + 1 : Int) = V.rl (512 + k) := by rw [← huo]; rfl
        rw [e1, e2]
      rw [e] at H46
      exact H46
    have ek : k = 512 := by omega
    subst ek
    -- how the row is read
    have hrow : ∀ {Y : List Pr} {w'} (i : Nat), Sat Y w' → Y[i]? = some (Row E.t_bool 1 sl (flags 1024 u)) → ∀ q : Int, 0 ≤ q → q < 1024 → ∃ a, sl.base = some a ∧ w'.cell? (a.add q.toNat) = some (.bool (u q)) ∧ sl.len = 1024 := fun i h hi q q0 q1 => by
      have h1 := h.front i hi
      have hl := h1.rowLen
      rw [flags_len] at hl
      obtain ⟨b, hb⟩ := h1.own.base_of (by omega)
      refine ⟨_, hb, h1.own.cell hb ?_, by omega⟩
      have := flags_getI (n := 1024) (u := u) q0 q1
      rwa [Nat.zero_add] at this
    -- the end: the tree is what it was
    have last : ∀ (w65 : World), Sat (TreeV E t V :: Row E.t_bool 1 sl (flags 1024 u) :: CacheP E c CS.nil :: [Old w]) w65 → 
        LOOP (Int × Unit) (512, ()) w65 fun s70 _ w71 next72 =>
          CND (decide ((s70.1 : Int) < 1024)) (
            F.radix_Tree_State E (some ⟨t, 0, none⟩) s70.1 (fun r73 r74 r75 w76 =>
            JOIN (Bool × Unit) (fun J77 =>
              NC sl.base fun p80 =>
              ((0 : Int) ≤ (u64 (2 * (u64 (s70.1 - 512)))) ∧ ((u64 (2 * (u64 (s70.1 - 512)))) : Int) < (sl.len : Nat)) ∧
              ∃ x81 : Bool, w76.cell? (p80.add (Int.toNat (u64 (2 * (u64 (s70.1 - 512)))))) = some (.bool x81) ∧
              CND (!(r74 == x81)) (
                J77 (true, ()) w76
              ) (
                NC sl.base fun p82 =>
                ((0 : Int) ≤ (u64 ((u64 (2 * (u64 (s70.1 - 512)))) + 1)) ∧ ((u64 ((u64 (2 * (u64 (s70.1 - 512)))) + 1)) : Int) < (sl.len : Nat)) ∧
                ∃ x83 : Bool, w76.cell? (p82.add (Int.toNat (u64 ((u64 (2 * (u64 (s70.1 - 512)))) + 1)))) = some (.bool x83) ∧
                J77 (!(r75 == x83), ()) w76
              )
            ) fun s78 _ w79 =>
              CND (s78.1) (
                K false w79
              ) (
                next72 (u64 (s70.1 + 1), ()) w79
              )
            ) w71
          ) (
            F.mallowlaw10_awake E (fun r84 w85 =>
            K r84 w85
            ) w71
          ) := by
      intro w65 H65
      refine LOOP_intro (fun st w' => 512 ≤ st.1 ∧ st.1 ≤ 1024 ∧ Sat (TreeV E t V :: Row E.t_bool 1 sl (flags 1024 u) :: CacheP E c CS.nil :: [Old w]) w') (fun st _ => (1024 - st.1).toNat) ⟨by decide, by decide, H65⟩ ?_
      rintro ⟨q, v⟩ _ w71 ⟨q0, q1, H71⟩
      dsimp only at q0 q1 ⊢
      refine CND_dec (fun hlt3 => ?_) fun hge3 => cawake_spec hE H71 (fun w' h => hT.ext (h.old 3 rfl)) fun w' h => hK _ (h.old 3 rfl)
      refine vstateT_sat hE H71 (by omega) fun w76 H76 => ?_
      rw [u64_id (n := q - 512) (by omega) (by omega), u64_id (n := 2 * (q - 512)) (by omega) (by omega), u64_id (n := 2 * (q - 512) + 1) (by omega) (by omega), u64_id (n := q + 1) (by omega) (by omega)]
      obtain ⟨b, hb, d1, hl⟩ := hrow 1 H76 rfl (2 * (q - 512)) (by omega) (by omega)
      obtain ⟨b', hb', d2, _⟩ := hrow 1 H76 rfl (2 * (q - 512) + 1) (by omega) (by omega)
      rw [hb] at hb'; have := Option.some.inj hb'; subst this
      rw [hue, show 512 + (q - 512) = q by omega] at d1
      rw [huo, show 512 + (q - 512) = q by omega] at d2
      rw [hb]
      simp only [NC_some]
      exact JOIN_in ⟨⟨by omega, by omega⟩, _, d1, CND_f (by simp) ⟨⟨by omega, by omega⟩, _, d2, fun j => CND_f (by simp) ⟨⟨by omega, by omega, H76⟩, by omega⟩⟩⟩
    -- filling, and what follows
    have H38 : Sat (CacheP E c CS.nil :: TreeV E t V :: Row E.t_bool 1 sl (flags 1024 u) :: [Old w]) w37 := (H37.front 2 rfl).perm (.cons _ (.swap _ _ _))
    have toL : ∀ {w' V'}, Sat (CacheP E c CS.nil :: TreeV E t V' :: Row E.t_bool 1 sl (flags 1024 u) :: [Old w]) w' → Sat (TreeV E t V' :: Row E.t_bool 1 sl (flags 1024 u) :: CacheP E c CS.nil :: [Old w]) w' := fun h => (h.front 1 rfl).perm (.cons _ (.swap _ _ _))
    have hv := H35.tvok
    have hNT := NT_nonneg hv
    refine pfill_spec hE H38 (fun h => absurd (fun _ => rfl) h) (fun _ hno w48 H48 => ?_) fun _ p hp w48 H48 => ?_
    · -- nothing was free
      refine pempty_spec H48 (fun _ => CND_f rfl ?_) fun h => absurd (fun _ => rfl) h
      refine ptell_any H48 fun r51 r52 r53 w54 he _ H54 => ?_
      obtain ⟨_, e52, _⟩ := he fun _ => rfl
      rw [e52, ← W_zero]
      have ecn : cN (fun _ => false) 64 = 0 := by decide
      refine count_bits (u := fun _ => false) (fun _ _ => rfl) fun s55 es => ?_
      rw [es, ecn]
      refine vfree_sat (H54.front 1 rfl) (pflush_spec hE H54 (fun q hq => by
        have : CS.nil.own q = false := by unfold CS.own CS.nil; simp
        rw [this] at hq; cases hq) fun w62 H62 => ?_)
      have efl : V.flush CS.nil = V := by
        have e1 : ∀ q, CS.nil.own q = false := fun q => by unfold CS.own CS.nil; simp
        have e2 : ∀ q, CS.nil.ownR q = false := fun q => by unfold CS.ownR CS.nil; simp
        unfold TV.flush
        simp [e1, e2]
      rw [efl] at H62
      refine JOIN_in (pempty_spec H62 (fun _ => CND_f rfl (vfree_sat (H62.front 1 rfl) fun j => ?_)) fun h => absurd (fun _ => rfl) h)
      rw [u64_id (by omega) (by omega)]
      exact CND_f (by simp) (last w62 (toL H62))
    · have hp0 := hp.1
      have hp1 := hp.2.1
      generalize hS : (⟨p / 64 * 64, fun i => decide (i < 64) && V.fr (p / 64 * 64 + i), fun i => decide (i < 64) && V.rl (p / 64 * 64 + i)⟩ : CS) = S at H48
      have hb : S.base = p / 64 * 64 := by rw [← hS]
      have hhas : ∀ i, S.has i = (decide (i < 64) && V.fr (p / 64 * 64 + i)) := fun i => by rw [← hS]
      have hrel : ∀ i, S.rel i = (decide (i < 64) && V.rl (p / 64 * 64 + i)) := fun i => by rw [← hS]
      have hfrp := hp.2.2.1 p (Int.le_refl _) (by omega)
      have hne : ¬ S.empty := fun h => by
        have := h (p % 64).toNat
        rw [hhas, show p / 64 * 64 + (((p % 64).toNat : Nat) : Int) = p by omega, hfrp] at this
        have e : (p % 64).toNat < 64 := by omega
        simp [e] at this
      have hown : ∀ q, S.own q = (inr (p / 64 * 64) 64 q && V.fr q) := fun q => by
        unfold CS.own
        rw [hb, hhas]
        by_cases g : inr (p / 64 * 64) 64 q = true
        · have g2 := inr_iff.1 g
          rw [g, show p / 64 * 64 + (((q - p / 64 * 64).toNat : Nat) : Int) = q by omega]
          have e : (q - p / 64 * 64).toNat < 64 := by omega
          simp [e]
        · have g : inr (p / 64 * 64) 64 q = false := by simpa using g
          rw [g]; rfl
      have hownR : ∀ q, S.ownR q = (inr (p / 64 * 64) 64 q && V.rl q) := fun q => by
        unfold CS.ownR
        rw [hb, hrel]
        by_cases g : inr (p / 64 * 64) 64 q = true
        · have g2 := inr_iff.1 g
          rw [g, show p / 64 * 64 + (((q - p / 64 * 64).toNat : Nat) : Int) = q by omega]
          have e : (q - p / 64 * 64).toNat < 64 := by omega
          simp [e]
        · have g : inr (p / 64 * 64) 64 q = false := by simpa using g
          rw [g]; rfl
      have hCR : CRel S (V.take (p / 64 * 64) 64) := fun q hq => by
        rw [hown, Bool.and_eq_true] at hq
        refine ⟨hv.fi q hq.2, ?_⟩
        show (V.fr q && !inr (p / 64 * 64) 64 q) = false
        rw [hq.1]; simp
      have efl : (V.take (p / 64 * 64) 64).flush S = V := by
        unfold TV.flush TV.take
        have e1 : (fun q => (V.fr q && !inr (p / 64 * 64) 64 q) || S.own q) = V.fr := by
          funext q; rw [hown]; cases V.fr q <;> cases inr (p / 64 * 64) 64 q <;> rfl
        have e2 : (fun q => (V.rl q && !inr (p / 64 * 64) 64 q) || S.ownR q) = V.rl := by
          funext q; rw [hownR]; cases V.rl q <;> cases inr (p / 64 * 64) 64 q <;> rfl
        show (⟨V.inn, fun q => (V.fr q && !inr (p / 64 * 64) 64 q) || S.own q, fun q => (V.rl q && !inr (p / 64 * 64) 64 q) || S.ownR q⟩ : TV) = V
        rw [e1, e2]
      refine pempty_spec H48 (fun h => absurd h hne) fun _ => CND_f rfl ?_
      refine ptell_any H48 fun r51 r52 r53 w54 _ hn H54 => ?_
      obtain ⟨_, e52, _⟩ := hn hne
      rw [e52]
      have ecn : (cN S.has 64 : Nat) = cr V.fr (p / 64 * 64) 64 := by
        show _ = cu (fun k => V.fr (p / 64 * 64 + k)) 64
        rw [cu_cN]
        congr 1
        exact cN_congr fun i hi => by rw [hhas]; simp [hi]
      refine count_bits (u := S.has) (fun i hi => by rw [hhas]; simp; omega) fun s55 es => ?_
      rw [es, ecn]
      have hcr := cr_bnd V.fr (p / 64 * 64) (n := 64) (by decide)
      have hnt := NT_take hv (x := p / 64 * 64) (n := 64) (by decide)
      refine vfree_sat (H54.front 1 rfl) (pflush_spec hE H54 hCR fun w62 H62 => ?_)
      rw [efl] at H62
      refine JOIN_in (pempty_spec H62 (fun _ => CND_f rfl (vfree_sat (H62.front 1 rfl) fun j => ?_)) fun h => absurd (fun _ => rfl) h)
      rw [hnt, show NT V.fr - cr V.fr (p / 64 * 64) 64 + cr V.fr (p / 64 * 64) 64 = NT V.fr by omega, u64_id hNT.1 hNT.2]
      exact CND_f (by simp) (last w62 (toL H62))
  simp only [Nat.mul_one]
  exact vscav_sat hE H11 hs0.1 hs0.2 (fun _ => after V w11 hin H11) fun p k hk w35 H35 => after (V.scav p k) w35 hin H35

end
end Go.Sh

namespace Go.Proofs.YtnmbkhckcjkopaaDoor.cacheUndo
open Go.ChangeShapes Go.WideShapes Go.ChangeAt Go.RowKit
set_option linter.unusedVariables false
set_option linter.unusedSimpArgs false

theorem own : ownKnob Tryd.prog.godebug = none := by kernel_rfl
theorem laidOut : laidOutB Tryd.prog = true := by kernel_rfl
theorem gTab : Tryd.prog.globalNamed "math/bits.deBruijn64tab" = some 0 := by kernel_rfl
theorem gTabType : (Tryd.prog.globals[0]?).map (·.type) = some 113 := by kernel_rfl
theorem und1 : Tryd.prog.underlying 113 = some (.array 64 5) := by kernel_rfl
theorem und2 : Tryd.prog.underlying 5 = some (.int .u8) := by kernel_rfl
theorem cells1 : Tryd.prog.cellsOf 113 = 64 := by kernel_rfl
theorem cells2 : Tryd.prog.cellsOf 5 = 1 := by kernel_rfl

/-- What the row's list gives: the table's cells hold its numbers. -/
theorem table {W : World} (h : laidMetH Tryd.prog Rows.cacheUndoRow.laid W) : Go.Sh.TabAt Go.Sh.env.g_math_bits_deBruijn64tab W := by
  have ht := Lib.tabIs_of_head (rest := []) (k := .u8) (zs := Lib.deBruijn64tab.map fun n : Nat => (n : Int)) gTab gTabType und1 und2 cells2 cells1 h
  intro i hi
  have := ht.cell gTab i (by rw [List.length_map]; exact hi)
  rw [show (Lib.deBruijn64tab.map fun n : Nat => (n : Int)).getD i 0 = ((Lib.deBruijn64tab.getD i 0 : Nat) : Int) by rw [List.getD_eq_getElem?_getD, List.getD_eq_getElem?_getD, List.getElem?_map]; cases Lib.deBruijn64tab[i]? <;> rfl] at this
  exact this

theorem walk (x : Go.Sh.ArgTs [.sl (.int .u64), .int .u64]) (w : World) (h : Go.Sh.argOks w [.sl (.int .u64), .int .u64] x) (hT : Go.Sh.TabAt Go.Sh.env.g_math_bits_deBruijn64tab w) :
    Calls Tryd.prog 5 ⟨Go.Sh.argVals [.sl (.int .u64), .int .u64] x⟩ w fun e w' => e = .returned (.bool true) ∧ Below w.heap.size w w' := by
  obtain ⟨a0, a1, u⟩ := x
  obtain ⟨w0, w1, _⟩ := h
  obtain ⟨z0, w0⟩ := w0
  refine (Go.Sh.fits5 _ w (fun v w' => v = .bool true ∧ Below w.heap.size w w') Go.Sh.noP ?_).2.mono ?_
  · show Go.Sh.F.mallowlaw10_CacheUndo Go.Sh.env a0 a1 (fun r w' => Value.bool r = .bool true ∧ Below w.heap.size w w') w
    exact Go.Sh.undo_spec Go.Sh.envS hT (Go.Sh.u64_wf w1) w0 fun w' h => ⟨rfl, h.below (Nat.le_refl _) fun _ f => f.elim⟩
  · intro e w' hE
    obtain ⟨v, rfl, rfl, h⟩ := hE.val
    exact ⟨rfl, h⟩

noncomputable def laidWorld (os : Os) : World :=
  { World.holding Tryd.prog os ⟨#[], #[], []⟩ with heap := (World.holding Tryd.prog os ⟨#[], #[], []⟩).heap.modify 0 fun
      | .cells _ t frozen => .cells ⟨Lib.deBruijn64tab.map fun n : Nat => .int .u8 (n : Int)⟩ t frozen
      | o => o }
theorem laid_met (os : Os) : laidMet Tryd.prog Rows.cacheUndoRow.laid ((laidWorld os).forCall (fun _ _ => 0) ⟨#[], #[.slice none 0 0, .int .u64 0], []⟩).memory :=
  laidMet_of_run' 8 (by kernel_rfl) (by kernel_rfl)
theorem reads (os : Os) {H : Type} (enc : TypeId × Value → H) : ∃ places, DataW.whole enc Tryd.prog ((laidWorld os).forCall (fun _ _ => 0) ⟨#[], #[.slice none 0 0, .int .u64 0], []⟩).memory Tryd.f5.params.toList Rows.cacheUndoSpec.vars false (#[.slice none 0 0, .int .u64 0] : Array Value).toList 8 = some ([.nil, .lit (.int .u64 0)], [], places) :=
  ⟨[], by kernel_rfl⟩

set_option maxRecDepth 100000 in
theorem lifted (os : Os) (started : os.Started) (H : Type) (enc : TypeId × Value → H) (F : Stop.Interp) :
    ReturnsInHanded {} Tryd.checked os 5 .any ((OpenSpec.ofChange Rows.cacheUndoSpec).preRow enc Tryd.prog Tryd.f5 Rows.cacheUndoRow.domain false Rows.cacheUndoRow.laid) (((OpenSpec.ofChange Rows.cacheUndoSpec).at F).post enc Tryd.prog Tryd.f5 false true false false) := by
  obtain ⟨places, hx⟩ := reads os enc
  refine returnsInHanded_of_row (C := Tryd.checked) (s := OpenSpec.ofChange Rows.cacheUndoSpec) own started (by kernel_rfl) Tryd.func5
    (witness_row_at (enc := enc) (C := Tryd.checked) false (laidWorld os) #[.slice none 0 0, .int .u64 0] rfl (by kernel_rfl) (by kernel_rfl) (by kernel_rfl)
      (OpenSpec.preRow_of_cond 8 hx (by kernel_rfl) (fun k hk => by cases hk) (by kernel_rfl) (laid_met os))) ?_
  intro W base args ds gs before hval0 hW _ _ _ hL _ _
  have hW' := hW
  obtain ⟨p, q, hA, hV, rfl, hfz, hnd⟩ := hW
  obtain ⟨rfl, rfl⟩ := trodVars_none hV
  have hargs := Go.Sh.args_of (P := Tryd.prog) (shs := [.sl (.int .u64), .int .u64]) (by kernel_rfl) (fun j t v ht hv => hval0 j t v (by simpa using ht) (by simpa using hv)) hA
  obtain ⟨x, hx, hok⟩ := Go.Sh.argVals_of hargs
  obtain rfl : args = ⟨Go.Sh.argVals [.sl (.int .u64), .int .u64] x⟩ := Array.toList_inj.1 (by simpa using hx)
  have hlen := Go.Sh.trodAll_len hA
  obtain ⟨d0, d1, rfl⟩ : ∃ d0 d1, ds = [d0, d1] := by
    have hl : ds.length = 2 := hlen
    match ds, hl with
    | [d0, d1], _ => exact ⟨d0, d1, rfl⟩
  refine (walk x W hok (table hL)).mono fun e W' ⟨he, bel⟩ => ?_
  subst he
  exact ⟨_, rfl, _, _, _, [], _, [], hW', trodAll_mk1 (shut_bool Tryd.underlying4 _), Go.Sh.trodAll_below laidOut bel (by kernel_rfl) hA, rfl, bel.frame _, fun h => by cases h⟩

theorem said : Rows.CacheUndoSaid :=
  OpenClaim.holds_of_cond 5 Tryd.f5 rfl rfl rfl rfl rfl rfl rfl ⟨rfl, rfl, rfl, rfl, rfl⟩ rfl rfl rfl rfl rfl (by kernel_rfl) Tryd.func5 (by kernel_rfl)
    (of_decide_eq_true (by kernel_rfl)) (by unfold Func.isWrapper; first | (rw [if_pos (by decide +kernel)]; kernel_rfl) | (rw [if_neg (by decide +kernel)]; exact ⟨rfl, rfl⟩))
    (fun os started H enc _ F => by rw [OpenClaim.pre_eq_preRow]; exact lifted os started H enc F)

theorem plain (f : FuncId) (fn : Func) (hf : Tryd.pinned.checked.prog.funcNamed "mallow/mallowlaw10.CacheUndo" = some f) (hfn : Tryd.pinned.checked.prog.funcs[f]? = some fn) :
    false = Tryd.pinned.checked.prog.looks [] ∧ ∀ (j : Nat) t, fn.params[j]? = some t → Tryd.pinned.checked.prog.wantsStandIn t = false := by
  obtain rfl : f = 5 := Option.some.inj ((show Tryd.prog.funcNamed "mallow/mallowlaw10.CacheUndo" = some 5 by kernel_rfl).symm.trans hf) |>.symm
  obtain rfl : fn = Tryd.f5 := (Option.some.inj (Tryd.func5.symm.trans hfn)).symm
  refine ⟨by kernel_rfl, fun j t ht => ?_⟩
  have hall : (Tryd.f5.params.toList.all fun t => !(Tryd.prog.wantsStandIn t)) = true := by kernel_rfl
  have := List.all_eq_true.1 hall t (Array.mem_toList_iff.2 (Array.mem_of_getElem? ht))
  exact Bool.not_eq_true' _ ▸ this

/-- ████ THE CARD ████ -/
theorem proved : Rows.CacheUndoCardSaid :=
  Claim7.holds_tied_plain_at .later [] _ _ _ _ said (fun _ h => by cases h) (by kernel_rfl) (fun _ h => by cases h) cacheUndo_row_tie rfl ⟨rfl, rfl⟩ (by kernel_rfl) rfl plain (by kernel_rfl)
#print axioms proved
end Go.Proofs.YtnmbkhckcjkopaaDoor.cacheUndo
