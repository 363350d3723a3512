/- The document's tree answers as its lists say. No further condition. -/
import Derived.Test.YtgpepagjkejimaaPlR
import Derived.Test.YtgpepagjkejimaaPlA
import Derived.Test.YtgpepagjkejimaaPlSh
set_option linter.all false
set_option maxRecDepth 4000
set_option maxHeartbeats 1000000
namespace Go.Sh

/-- How many of the first so many are true. -/
def cu (u : Int → Bool) : Nat → Int
  | 0 => 0
  | k + 1 => cu u k + (if u k then 1 else 0)

theorem cu_mem {u : Int → Bool} {l : Iv} {fr : Int} (h : Ok l) {n : Nat} (hu : ∀ k : Int, 0 ≤ k → k < n → (u k = true ↔ mem l (fr + k))) : cu u n = cnt l fr (fr + n) := by
  induction n with
  | zero =>
    have := cnt_nonneg l fr (fr + (0 : Nat))
    have h2 := cnt_split h (a := fr) (b := fr + ((0 : Nat) : Int)) (by omega)
    show 0 = _
    omega
  | succ n ih =>
    have hs := cnt_succ h (a := fr) (k := fr + n) (by omega)
    have e : fr + ((n + 1 : Nat) : Int) = fr + (n : Int) + 1 := by omega
    rw [e]
    simp only [cu]
    rw [ih fun k h0 h1 => hu k h0 (by omega)]
    have hk := hu n (by omega) (by omega)
    by_cases g : u n = true
    · rw [hs.1 (hk.1 g), if_pos g]
    · rw [hs.2 (fun e => g (hk.2 e)), if_neg g]; omega

theorem cu_not {u : Int → Bool} {l : Iv} {fr : Int} (h : Ok l) {n : Nat} (hu : ∀ k : Int, 0 ≤ k → k < n → (u k = true ↔ ¬ mem l (fr + k))) : cu u n = n - cnt l fr (fr + n) := by
  induction n with
  | zero =>
    have := cnt_nonneg l fr (fr + (0 : Nat))
    have h2 := cnt_split h (a := fr) (b := fr + ((0 : Nat) : Int)) (by omega)
    show 0 = _
    omega
  | succ n ih =>
    have hs := cnt_succ h (a := fr) (k := fr + n) (by omega)
    have e : fr + ((n + 1 : Nat) : Int) = fr + (n : Int) + 1 := by omega
    rw [e]
    simp only [cu]
    rw [ih fun k h0 h1 => hu k h0 (by omega)]
    have hk := hu n (by omega) (by omega)
    by_cases g : mem l (fr + n)
    · rw [hs.1 g, if_neg (fun e => hk.1 e g)]; omega
    · rw [hs.2 g, if_pos (hk.2 g)]; omega

theorem cu_bnd (u : Int → Bool) (n : Nat) : 0 ≤ cu u n ∧ cu u n ≤ n := by
  induction n with
  | zero => simp [cu]
  | succ n ih => simp only [cu]; split <;> omega

/-- A window of truths in a block. -/
def Win (vs : List Value) (o : Nat) (u : Int → Bool) : Prop := o + 512 ≤ vs.length ∧ ∀ k : Int, 0 ≤ k → k < 512 → vs[o + k.toNat]? = some (.bool (u k))

section
variable {E : Env} {w : World} {Z : List Pr} {b t o : Nat} {vs : List Value} {u : Int → Bool}

theorem rright_spec {i n : Int} (hi : -9223372036854775808 ≤ i) (hi2 : i < 9223372036854775808) {K : Bool → World → Prop}
    (hk1 : 0 ≤ i → 0 ≤ n → i + n ≤ 512 → K true w) (hk0 : ¬ (0 ≤ i ∧ 0 ≤ n ∧ i + n ≤ 512) → K false w) : F.mallowref6_Right E i n K w := by
  unfold F.mallowref6_Right
  refine CND_dec (fun h1 => CND_dec (fun h2 => CND_dec (fun h3 => ?_) fun h3 => hk0 (by omega)) fun h2 => hk0 (by omega)) fun h1 => hk0 (by omega)
  rw [i64_id (by omega) (by omega)]
  by_cases g : n ≤ 512 - i
  · rw [decide_eq_true g]; exact hk1 h1 h2 (by omega)
  · rw [decide_eq_false g]; exact hk0 (by omega)

theorem rput_spec (H : Sat (Cells b t vs :: Z) w) (hl : o + 512 ≤ vs.length) {i n : Int} (h0 : 0 ≤ i) (h1 : 0 ≤ n) (h2 : i + n ≤ 512) (x : Bool) {K : Int → World → Prop}
    (hK : ∀ w' vs', vs'.length = vs.length → (∀ j, vs'[j]? = if o + i.toNat ≤ j ∧ j < o + (i + n).toNat then some (.bool x) else vs[j]?) → Sat (Cells b t vs' :: Z) w' → K 0 w') :
    F.mallowref6_Row_Put E (some ⟨b, o, none⟩) i n x K w := by
  unfold F.mallowref6_Row_Put
  refine rright_spec (by omega) (by omega) (fun _ _ _ => CND_f rfl ?_) fun h => absurd ⟨h0, h1, h2⟩ h
  simp only [NC_some, Nat.mul_one]
  rw [i64_id (n := i + n) (by omega) (by omega)]
  refine LOOP_intro (fun st w' => i ≤ st.1 ∧ st.1 ≤ i + n ∧ ∃ vs', vs'.length = vs.length ∧ (∀ j, vs'[j]? = if o + i.toNat ≤ j ∧ j < o + st.1.toNat then some (.bool x) else vs[j]?) ∧ Sat (Cells b t vs' :: Z) w') (fun st _ => (i + n - st.1).toNat)
    ⟨Int.le_refl _, by show i ≤ i + n; omega, vs, rfl, fun j => by dsimp only; rw [if_neg (by omega)], H⟩ ?_
  rintro ⟨k, v⟩ _ w4 ⟨k0, k1, vs', hl', hv, H4⟩
  simp only at k0 k1 hv ⊢
  refine CND_dec (fun hlt => ⟨⟨by omega, by omega⟩, ?_⟩) fun hge => ?_
  · rw [i64_id (n := k + 1) (by omega) (by omega)]
    refine st_cell H4 rfl (by omega) fun w7 H7 => ⟨⟨by omega, by omega, _, by simpa using hl', fun j => ?_, H7⟩, by omega⟩
    rw [List.getElem?_set, hv]
    by_cases e : o + k.toNat = j
    · rw [if_pos e, if_pos (by omega), if_pos (by omega)]
    · rw [if_neg e]
      by_cases g : o + i.toNat ≤ j ∧ j < o + k.toNat
      · rw [if_pos g, if_pos (by omega)]
      · rw [if_neg g, if_neg (by omega)]
  · have e : k = i + n := by omega
    subst e
    exact hK _ _ hl' hv H4

theorem rcount_spec (H : Sat (Cells b t vs :: Z) w) (hu : Win vs o u) {K : Int → World → Prop} (hK : K (cu u 512) w) : F.mallowref6_Row_Count E (some ⟨b, o, none⟩) 0 512 K w := by
  unfold F.mallowref6_Row_Count
  refine rright_spec (by omega) (by omega) (fun _ _ _ => CND_f rfl ?_) fun h => absurd ⟨by omega, by omega, by omega⟩ h
  simp only [NC_some, Nat.mul_one]
  rw [i64_id (n := 0 + 512) (by omega) (by omega)]
  refine LOOP_intro (fun st w' => ∃ k : Nat, st.2.1 = (k : Int) ∧ k ≤ 512 ∧ st.1 = cu u k ∧ w' = w) (fun st _ => (512 - st.2.1).toNat) ⟨0, rfl, by decide, rfl, rfl⟩ ?_
  rintro ⟨c, i, v⟩ _ w4 ⟨k, hk, hk2, hc, rfl⟩
  simp only at hk hc ⊢
  subst hk; subst hc
  have hb := cu_bnd u k
  refine CND_dec (fun hlt => ?_) fun hge => ?_
  · have hg := hu.2 k (by omega) (by omega)
    refine ⟨⟨by omega, by omega⟩, u k, H.cell hg, ?_⟩
    rw [i64_id (n := cu u k + 1) (by omega) (by omega), i64_id (n := (k : Int) + 1) (by omega) (by omega)]
    refine CND_intro (fun e => ⟨⟨k + 1, by omega, by omega, ?_, by trivial⟩, by omega⟩) fun e => ⟨⟨k + 1, by omega, by omega, ?_, by trivial⟩, by omega⟩
    · simp [cu, e]
    · simp [cu, e]
  · have : k = 512 := by omega
    subst this
    exact hK

theorem rlast_spec (H : Sat (Cells b t vs :: Z) w) (hu : Win vs o u) {n : Int} (hn0 : -9223372036854775808 ≤ n) (hn : n < 9223372036854775808) {K : Int → Int → World → Prop}
    (hk0 : n < 1 ∨ (∀ k, 0 ≤ k → k < 512 → u k = true) → K 0 0 w)
    (hk1 : 1 ≤ n → ∀ e i, 0 ≤ i → i ≤ e → e < 512 → (∀ k, e < k → k < 512 → u k = true) → (∀ k, i ≤ k → k ≤ e → u k = false) → e - i + 1 ≤ n → (e - i + 1 = n ∨ i = 0 ∨ u (i - 1) = true) → K i (e - i + 1) w) :
    F.mallowref6_Row_Last E (some ⟨b, o, none⟩) n 512 K w := by
  unfold F.mallowref6_Row_Last
  simp only [NC_some, Nat.mul_one]
  refine JOIN_in (CND_f (by decide) fun j => ?_)
  refine JOIN_in (CND_f (by decide) fun j => CND_dec (fun h => hk0 (.inl h)) fun h1 => ?_)
  rw [i64_id (n := 512 - 1) (by omega) (by omega)]
  refine JOIN_intro (fun st w' => w' = w ∧ -1 ≤ st.1 ∧ st.1 < 512 ∧ (∀ k, st.1 < k → k < 512 → u k = true) ∧ (0 ≤ st.1 → u st.1 = false)) ?_ ?_
  · refine LOOP_intro (fun st w' => w' = w ∧ -1 ≤ st.1 ∧ st.1 < 512 ∧ (∀ k, st.1 < k → k < 512 → u k = true)) (fun st _ => (st.1 + 1).toNat) ⟨rfl, by decide, by decide, fun k h1 h2 => by simp only at h1; omega⟩ ?_
    rintro ⟨e, v⟩ _ w4 ⟨rfl, e0, e1, he⟩
    simp only at e0 e1 he ⊢
    refine CND_dec (fun hge => ⟨⟨by omega, by omega⟩, u e, H.cell (hu.2 e hge e1), CND_intro (fun g => ?_) fun g => ⟨by trivial, e0, e1, he, fun _ => g⟩⟩) fun hlt => ⟨by trivial, e0, e1, he, fun h => absurd h hlt⟩
    rw [i64_id (n := e - 1) (by omega) (by omega)]
    refine ⟨⟨by trivial, by omega, by omega, fun k h1 h2 => ?_⟩, by omega⟩
    by_cases e2 : k = e
    · rw [e2]; exact g
    · exact he k (by omega) h2
  · rintro ⟨e, v⟩ _ w4 ⟨rfl, e0, e1, he, hf⟩
    simp only at e0 e1 he hf ⊢
    refine CND_dec (fun hlt => hk0 (.inr fun k h1 h2 => he k (by omega) h2)) fun hge => ?_
    refine LOOP_intro (fun st w' => w' = w4 ∧ 0 ≤ st.1 ∧ st.1 ≤ e ∧ (∀ k, st.1 ≤ k → k ≤ e → u k = false) ∧ e - st.1 + 1 ≤ n) (fun st _ => st.1.toNat) ⟨rfl, by show 0 ≤ e; omega, Int.le_refl _, fun k h1 h2 => by
      have : k = e := by simp only at h1; omega
      rw [this]; exact hf (by omega), by show e - e + 1 ≤ n; omega⟩ ?_
    rintro ⟨i, v⟩ _ w5 ⟨rfl, i0, i1, hi, hle⟩
    simp only at i0 i1 hi hle ⊢
    rw [i64_id (n := e - i) (by omega) (by omega), i64_id (n := e - i + 1) (by omega) (by omega), i64_id (n := i - 1) (by omega) (by omega)]
    refine CND_dec (fun hpos => ⟨⟨by omega, by omega⟩, u (i - 1), H.cell (hu.2 (i - 1) (by omega) (by omega)), CND_intro (fun g => CND_dec (fun hlt => ?_) fun hge2 => LET_intro fun x hx => ?_) fun g => LET_intro fun x hx => ?_⟩) fun hz => LET_intro fun x hx => ?_
    · have g : u (i - 1) = false := by simpa using g
      refine ⟨⟨by trivial, by omega, by omega, fun k h1 h2 => ?_, by omega⟩, by omega⟩
      by_cases e2 : k = i - 1
      · rw [e2]; exact g
      · exact hi k (by omega) h2
    · subst hx; exact hk1 (by omega) e i i0 i1 e1 he hi hle (.inl (by omega))
    · subst hx
      have g : u (i - 1) = true := by simpa using g
      exact hk1 (by omega) e i i0 i1 e1 he hi hle (.inr (.inr g))
    · subst hx; exact hk1 (by omega) e i i0 i1 e1 he hi hle (.inr (.inl (by omega)))

/-- The summary of a row. -/
theorem rsum_spec (H : Sat (Cells b t vs :: Z) w) (hw : Win vs o u) {l : Iv} {fr : Int} (hu : ∀ k : Int, 0 ≤ k → k < 512 → (u k = true ↔ ¬ mem l (fr + k))) {K : Int → Int → Int → World → Prop}
    (hK : ∀ s m e w', IsSum l fr (fr + 512) s m e → Sat (Cells b t vs :: Z) w' → K s m e w') : F.mallowref6_Row_Sum E (some ⟨b, o, none⟩) K w := by
  unfold F.mallowref6_Row_Sum
  simp only [NC_some, Nat.mul_one]
  have hf : ∀ k : Int, 0 ≤ k → k < 512 → (u k = false ↔ mem l (fr + k)) := fun k h0 h1 => by
    have := hu k h0 h1
    cases g : u k with
    | true => rw [g] at this; exact ⟨fun h => (by cases h), fun h => absurd h (this.1 rfl)⟩
    | false => rw [g] at this; exact ⟨fun _ => Classical.byContradiction fun e => (by cases this.2 e), fun _ => rfl⟩
  refine AL_cells H fun b1 w2 H2 _ => AL_cells H2 fun b3 w4 H4 _ => ?_
  have stc : ∀ {w' : World} {s m e : Int}, Sat (Cells b3 E.t_api_Sum [.int .i64 s, .int .i64 m, .int .i64 e] :: Cells b1 E.t_api_Sum [.int .i64 0, .int .i64 0, .int .i64 0] :: Cells b t vs :: Z) w' → ∀ k : Int, 0 ≤ k → k < 512 → w'.cell? ((Addr.mk b o none).add k.toNat) = some (.bool (u k)) :=
    fun h k h0 h1 => (h.front 2 rfl).cell (hw.2 k h0 h1)
  refine JOIN_intro (fun _ w' => ∃ s, 0 ≤ s ∧ s ≤ 512 ∧ rowIn l fr s ∧ (s = 512 ∨ ¬ mem l (fr + s)) ∧ Sat (Cells b3 E.t_api_Sum [.int .i64 s, .int .i64 0, .int .i64 0] :: Cells b1 E.t_api_Sum [.int .i64 0, .int .i64 0, .int .i64 0] :: Cells b t vs :: Z) w') ?_ ?_
  · refine LOOP_intro (fun _ w' => ∃ s, 0 ≤ s ∧ s ≤ 512 ∧ rowIn l fr s ∧ Sat (Cells b3 E.t_api_Sum [.int .i64 s, .int .i64 0, .int .i64 0] :: Cells b1 E.t_api_Sum [.int .i64 0, .int .i64 0, .int .i64 0] :: Cells b t vs :: Z) w')
      (fun _ w' => match w'.cell? ⟨b3, 0, none⟩ with | some (.int .i64 s) => (512 - s).toNat | _ => 0) ⟨0, by decide, by decide, fun m h1 h2 => by omega, H4⟩ ?_
    rintro ⟨⟩ _ w9 ⟨s, s0, s1, hs, H9⟩
    have H9d := H9.drew
    refine ⟨s, H9d.cell0 rfl, CND_dec (fun hlt => ⟨s, H9d.cell0 rfl, ⟨s0, hlt⟩, u s, stc H9d s s0 hlt, CND_intro (fun g => ⟨s, H9d.cell0 rfl, ?_⟩) fun g => ⟨s, s0, s1, hs, .inr ?_, H9d⟩⟩) fun hge => ⟨s, s0, s1, hs, .inl (by omega), H9d⟩⟩
    · rw [i64_id (n := s + 1) (by omega) (by omega)]
      have g : u s = false := by simpa using g
      refine st_cell0 H9d rfl (by simp) fun w16 H16 => ?_
      simp only [List.set] at H16
      refine ⟨⟨s + 1, by omega, by omega, fun m h1 h2 => ?_, H16⟩, ?_⟩
      · by_cases e : m = fr + s
        · rw [e]; exact (hf s s0 hlt).1 g
        · exact hs m h1 (by omega)
      · rw [H16.cell0 (o := 0) rfl, H9.cell0 (o := 0) rfl]; simp only; omega
    · have g : u s = true := by simpa using g
      exact (hu s s0 hlt).1 g
  rintro ⟨⟩ _ w7 ⟨s, s0, s1, hs, hs2, H7⟩
  refine JOIN_intro (fun _ w' => ∃ e, 0 ≤ e ∧ e ≤ 512 ∧ rowIn l (fr + 512 - e) e ∧ (e = 512 ∨ ¬ mem l (fr + 512 - e - 1)) ∧ Sat (Cells b3 E.t_api_Sum [.int .i64 s, .int .i64 0, .int .i64 e] :: Cells b1 E.t_api_Sum [.int .i64 0, .int .i64 0, .int .i64 0] :: Cells b t vs :: Z) w') ?_ ?_
  · refine LOOP_intro (fun _ w' => ∃ e, 0 ≤ e ∧ e ≤ 512 ∧ rowIn l (fr + 512 - e) e ∧ Sat (Cells b3 E.t_api_Sum [.int .i64 s, .int .i64 0, .int .i64 e] :: Cells b1 E.t_api_Sum [.int .i64 0, .int .i64 0, .int .i64 0] :: Cells b t vs :: Z) w')
      (fun _ w' => match w'.cell? ⟨b3, 2, none⟩ with | some (.int .i64 s) => (512 - s).toNat | _ => 0) ⟨0, by decide, by decide, fun m h1 h2 => by omega, H7⟩ ?_
    rintro ⟨⟩ _ w9 ⟨e, e0, e1, he, H9⟩
    have H9d := H9.drew
    refine ⟨e, H9d.cell rfl, CND_dec (fun hlt => ⟨e, H9d.cell rfl, ?_⟩) fun hge => ⟨e, e0, e1, he, .inl (by omega), H9d⟩⟩
    rw [i64_id (n := 511 - e) (by omega) (by omega)]
    refine ⟨⟨by omega, by omega⟩, u (511 - e), stc H9d (511 - e) (by omega) (by omega), CND_intro (fun g => ⟨e, H9d.cell rfl, ?_⟩) fun g => ⟨e, e0, e1, he, .inr ?_, H9d⟩⟩
    · rw [i64_id (n := e + 1) (by omega) (by omega)]
      have g : u (511 - e) = false := by simpa using g
      refine st_cell H9d rfl (by simp) fun w16 H16 => ?_
      simp only [List.set, Nat.zero_add] at H16
      refine ⟨⟨e + 1, by omega, by omega, fun m h1 h2 => ?_, H16⟩, ?_⟩
      · by_cases e' : m = fr + (511 - e)
        · rw [e']; exact (hf _ (by omega) (by omega)).1 g
        · exact he m (by omega) (by omega)
      · rw [H16.cell0 (o := 2) rfl, H9.cell0 (o := 2) rfl]; simp only; omega
    · have g : u (511 - e) = true := by simpa using g
      rw [show fr + 512 - e - 1 = fr + (511 - e) by omega]
      exact (hu _ (by omega) (by omega)).1 g
  rintro ⟨⟩ _ w19 ⟨e, e0, e1, he, he2, H19⟩
  refine LOOP_intro (fun st w' => ∃ m, 0 ≤ st.2.1 ∧ st.2.1 ≤ 512 ∧ 0 ≤ st.1 ∧ st.1 ≤ st.2.1 ∧ 0 ≤ m ∧ m ≤ 512 ∧ rowIn l (fr + st.2.1 - st.1) st.1 ∧ (st.1 = st.2.1 ∨ ¬ mem l (fr + st.2.1 - st.1 - 1)) ∧ (∃ p, fr ≤ p ∧ p + m ≤ fr + st.2.1 ∧ rowIn l p m) ∧
      (∀ p n, fr ≤ p → p + n ≤ fr + st.2.1 → rowIn l p n → n ≤ m) ∧ Sat (Cells b3 E.t_api_Sum [.int .i64 s, .int .i64 m, .int .i64 e] :: Cells b1 E.t_api_Sum [.int .i64 0, .int .i64 0, .int .i64 0] :: Cells b t vs :: Z) w')
    (fun st _ => (512 - st.2.1).toNat) ⟨0, by decide, by decide, by decide, by decide, by decide, by decide, fun m h1 h2 => by simp only at h1 h2; omega, .inl rfl, ⟨fr, by omega, by simp only; omega, fun m h1 h2 => by omega⟩, fun p n h1 h2 _ => by simp only at h2; omega, H19⟩ ?_
  rintro ⟨run, i, v⟩ _ w30 ⟨m, i0, i1, r0, r1, m0, m00, hr, hr2, hm1, hm2, H30⟩
  simp only at i0 i1 r0 r1 hr hr2 hm1 hm2 ⊢
  refine CND_dec (fun hlt => ?_) fun hge => ?_
  · rw [i64_id (n := i + 1) (by omega) (by omega), i64_id (n := run + 1) (by omega) (by omega)]
    refine JOIN_in ⟨⟨i0, hlt⟩, u i, stc H30 i i0 hlt, CND_intro (fun g j => ?_) fun g j => ?_⟩
    · have hno := (hu i i0 hlt).1 g
      refine ⟨m, H30.cell rfl, CND_f (decide_eq_false (by omega)) ⟨⟨m, by omega, by omega, by omega, by omega, m0, m00, fun x h1 h2 => by omega, .inr ?_, ?_, fun p n h1 h2 h3 => ?_, H30⟩, by omega⟩⟩
      · rw [show fr + (i + 1) - 0 - 1 = fr + i by omega]; exact hno
      · obtain ⟨p, p1, p2, p3⟩ := hm1; exact ⟨p, p1, by omega, p3⟩
      · by_cases e : p + n ≤ fr + i
        · exact hm2 p n h1 e h3
        · by_cases e2 : n ≤ 0
          · omega
          · exact absurd (h3 (fr + i) (by omega) (by omega)) hno
    · have hin := (hf i i0 hlt).1 g
      have hr' : rowIn l (fr + (i + 1) - (run + 1)) (run + 1) := fun x h1 h2 => by
        by_cases e : x = fr + i
        · rw [e]; exact hin
        · exact hr x (by omega) (by omega)
      have hr2' : run + 1 = i + 1 ∨ ¬ mem l (fr + (i + 1) - (run + 1) - 1) := by
        rcases hr2 with h | h
        · exact .inl (by omega)
        · exact .inr (by rwa [show fr + (i + 1) - (run + 1) - 1 = fr + i - run - 1 by omega])
      have hmax : ∀ p n, fr ≤ p → p + n = fr + (i + 1) → rowIn l p n → n ≤ run + 1 := fun p n h1 h2 h3 => by
        rcases hr2 with h | h
        · omega
        · refine Classical.byContradiction fun g => h (h3 _ (by omega) (by omega))
      refine ⟨m, H30.cell rfl, CND_dec (fun hgt => ?_) fun hle => ?_⟩
      · refine st_cell H30 rfl (by simp) fun w38 H38 => ?_
        simp only [List.set, Nat.zero_add] at H38
        refine ⟨⟨run + 1, by omega, by omega, by omega, by omega, by omega, by omega, hr', hr2', ⟨_, by omega, by omega, hr'⟩, fun p n h1 h2 h3 => ?_, H38⟩, by omega⟩
        by_cases e : p + n = fr + (i + 1)
        · exact hmax p n h1 e h3
        · have := hm2 p n h1 (by omega) h3; omega
      · refine ⟨⟨m, by omega, by omega, by omega, by omega, m0, m00, hr', hr2', ?_, fun p n h1 h2 h3 => ?_, H30⟩, by omega⟩
        · obtain ⟨p, p1, p2, p3⟩ := hm1; exact ⟨p, p1, by omega, p3⟩
        · by_cases e : p + n = fr + (i + 1)
          · have := hmax p n h1 e h3; omega
          · exact hm2 p n h1 (by omega) h3
  · have e : i = 512 := by omega
    subst e
    refine ⟨s, H30.cell rfl, m, H30.cell rfl, e, H30.cell rfl, ?_⟩
    have H31 := H30.front 1 rfl
    refine st_all H31 (by rfl) (by simp [Value.oneCell']) fun w42 H42 => ⟨s, H42.cell rfl, m, H42.cell rfl, e, H42.cell rfl, hK _ _ _ _ ⟨s0, by omega, hs, ?_, e0, by omega, he, ?_, m0, hm1, hm2⟩ H42.tail.tail⟩
    · rcases hs2 with h | h
      · exact .inl (by omega)
      · exact .inr h
    · rcases he2 with h | h
      · exact .inl (by omega)
      · exact .inr h
end
end Go.Sh

set_option linter.all false
set_option maxRecDepth 4000
set_option maxHeartbeats 1000000
namespace Go.Sh

abbrev CL := List (Int × Nat)

def parts (L : CL) : List Value := L.flatMap fun c => [.int .u64 c.1, .pointer (some ⟨c.2, 0, none⟩)]

theorem parts_len (L : CL) : (parts L).length = L.length * 2 := by
  induction L with
  | nil => rfl
  | cons x r ih => show (parts r).length + 1 + 1 = _; rw [ih, List.length_cons]; omega
theorem parts_app (L M : CL) : parts (L ++ M) = parts L ++ parts M := by simp [parts]
theorem parts_get : ∀ (L : CL) {k : Nat} {x : Int × Nat}, L[k]? = some x → (parts L)[k * 2]? = some (.int .u64 x.1) ∧ (parts L)[k * 2 + 1]? = some (.pointer (some ⟨x.2, 0, none⟩))
  | y :: r, 0, x, h => by have h : y = x := Option.some.inj h; subst h; exact ⟨rfl, rfl⟩
  | y :: r, k + 1, x, h => by
    have := parts_get r h
    have e : parts (y :: r) = .int .u64 y.1 :: .pointer (some ⟨y.2, 0, none⟩) :: parts r := rfl
    rw [e, show (k + 1) * 2 = k * 2 + 1 + 1 by omega]
    exact this
theorem parts_one (L : CL) : ∀ v ∈ parts L, v.oneCell' = true := by
  intro v hv
  simp only [parts, List.mem_flatMap] at hv
  obtain ⟨c, _, hc⟩ := hv
  simp at hc
  rcases hc with rfl | rfl <;> rfl
theorem parts_take : ∀ (L : CL) (k : Nat), (parts L).take (k * 2) = parts (L.take k)
  | [], k => by simp [parts]
  | y :: r, 0 => by simp [parts]
  | y :: r, k + 1 => by
    have e : parts (y :: r) = .int .u64 y.1 :: .pointer (some ⟨y.2, 0, none⟩) :: parts r := rfl
    rw [e, show (k + 1) * 2 = k * 2 + 1 + 1 by omega, List.take_succ_cons, List.take_succ_cons, parts_take r k]
    rfl
theorem parts_drop : ∀ (L : CL) (k : Nat), (parts L).drop (k * 2) = parts (L.drop k)
  | [], k => by simp [parts]
  | y :: r, 0 => by simp
  | y :: r, k + 1 => by
    have e : parts (y :: r) = .int .u64 y.1 :: .pointer (some ⟨y.2, 0, none⟩) :: parts r := rfl
    rw [e, show (k + 1) * 2 = k * 2 + 1 + 1 by omega, List.drop_succ_cons, List.drop_succ_cons, parts_drop r k]
    rfl

/-- Where a chunk is, or would be. -/
def posC : CL → Int → Nat
  | [], _ => 0
  | c :: r, n => if c.1 < n then posC r n + 1 else 0

def SortedC (L : CL) : Prop := L.Pairwise fun a b => a.1 < b.1

theorem posC_le : ∀ (L : CL) (n : Int), posC L n ≤ L.length
  | [], _ => Nat.le_refl _
  | c :: r, n => by simp only [posC]; split; exact Nat.succ_le_succ (posC_le r n); exact Nat.zero_le _
theorem posC_before : ∀ {L : CL} {n : Int} {j : Nat} {c : Int × Nat}, L[j]? = some c → j < posC L n → c.1 < n
  | c :: r, n, 0, x, h, hj => by
    have h : c = x := Option.some.inj h
    subst h
    simp only [posC] at hj; split at hj
    · assumption
    · omega
  | c :: r, n, j + 1, x, h, hj => by
    simp only [posC] at hj; split at hj
    · exact posC_before (L := r) h (by omega)
    · omega
theorem posC_at : ∀ {L : CL} {n : Int} {c : Int × Nat}, L[posC L n]? = some c → n ≤ c.1
  | c :: r, n, x, h => by
    simp only [posC] at h; split at h
    · exact posC_at (L := r) h
    · have h : c = x := Option.some.inj h
      subst h; omega
theorem posC_after {L : CL} (hs : SortedC L) {n : Int} {j : Nat} {c : Int × Nat} (h : L[j]? = some c) (hj : posC L n ≤ j) : n ≤ c.1 := by
  have hl := (List.getElem?_eq_some_iff.1 h).1
  have hg := List.getElem?_eq_getElem (show posC L n < L.length by omega)
  have h1 := posC_at hg
  rcases Nat.lt_or_eq_of_le hj with h2 | h2
  · have := List.pairwise_iff_getElem.1 hs (posC L n) j (by omega) hl h2
    rw [(List.getElem?_eq_some_iff.1 h).2] at this
    omega
  · subst h2; exact posC_at h
theorem posC_has {L : CL} (hs : SortedC L) {n : Int} {c : Int × Nat} (hc : c ∈ L) (hn : c.1 = n) : L[posC L n]? = some c := by
  obtain ⟨j, hj⟩ := List.mem_iff_getElem?.1 hc
  rcases Nat.lt_or_ge j (posC L n) with h | h
  · have := posC_before hj h; omega
  · have hl := (List.getElem?_eq_some_iff.1 hj).1
    rcases Nat.lt_or_eq_of_le h with h2 | h2
    · have hg := List.getElem?_eq_getElem (show posC L n < L.length by omega)
      have := posC_at hg
      have h3 := List.pairwise_iff_getElem.1 hs (posC L n) j (by omega) hl h2
      rw [(List.getElem?_eq_some_iff.1 hj).2] at h3
      omega
    · rw [h2]; exact hj

/-- One chunk. -/
def ckP (E : Env) (U G : Int → Bool) (c : Int × Nat) : Pr := Cells c.2 E.t_mallowref8_Chunk (flags 512 (fun k => U (c.1 * 512 + k)) ++ flags 512 (fun k => G (c.1 * 512 + k)))

structure RInv (l : Nat → Iv) (L : CL) (U G : Int → Bool) : Prop where
  srt : SortedC L
  rng : ∀ c ∈ L, 0 ≤ c.1 ∧ c.1 < 67108864
  ok0 : Ok (l 0)
  ok1 : Ok (l 1)
  ok2 : Ok (l 2)
  l0 : ∀ p, mem (l 0) p ↔ ∃ c ∈ L, c.1 = p / 512
  l1 : ∀ p, mem (l 1) p ↔ mem (l 0) p ∧ U p = false
  l2 : ∀ p, mem (l 2) p ↔ mem (l 0) p ∧ G p = true

def rres (E : Env) (r : Nat) (s : SlV) (L : CL) (U G : Int → Bool) : List Pr := [Cells r E.t_mallowref9_Tree [.slice s.base s.len s.cap], Row E.t_mallowref9_Part 2 s (parts L), Many (ckP E U G) L]

def RTree (E : Env) (r : Nat) (l : Nat → Iv) : Pr := Ex fun x : SlV × CL × (Int → Bool) × (Int → Bool) => Where (RInv l x.2.1 x.2.2.1 x.2.2.2) (Star (rres E r x.1 x.2.1 x.2.2.1 x.2.2.2))

theorem Sat.rtree {E : Env} {r : Nat} {l : Nat → Iv} {Z : List Pr} {w : World} : Sat (RTree E r l :: Z) w ↔ ∃ s L U G, RInv l L U G ∧ Sat (rres E r s L U G ++ Z) w := by
  unfold RTree
  rw [Sat.ex]
  constructor
  · rintro ⟨x, h⟩; obtain ⟨h1, h2⟩ := Sat.where.1 h; exact ⟨_, _, _, _, h1, Sat.star.1 h2⟩
  · rintro ⟨s, L, U, G, h1, h2⟩; exact ⟨(s, L, U, G), Sat.where.2 ⟨h1, Sat.star.2 h2⟩⟩

theorem sorted_len {L : CL} (hs : SortedC L) (hr : ∀ c ∈ L, 0 ≤ c.1 ∧ c.1 < 67108864) : L.length ≤ 67108864 := by
  have key : ∀ (L : CL) (B : Int), SortedC L → (∀ c ∈ L, B ≤ c.1 ∧ c.1 < 67108864) → B ≤ 67108864 → (L.length : Int) ≤ 67108864 - B := by
    intro L
    induction L with
    | nil => intro B _ _ h; show (0 : Int) ≤ _; omega
    | cons x r ih =>
      intro B hs hr hB
      have h1 := hr x (by simp)
      have hp := List.pairwise_cons.1 hs
      have := ih (x.1 + 1) hp.2 (fun c hc => ⟨by have := hp.1 c hc; omega, (hr c (by simp [hc])).2⟩) (by omega)
      rw [List.length_cons]; omega
  have := key L 0 hs hr (by decide)
  omega

section
variable {E : Env} {w : World} {Z : List Pr} {r : Nat} {s : SlV} {L : CL} {U G : Int → Bool} {l : Nat → Iv}

theorem rres_len (H : Sat (rres E r s L U G ++ Z) w) : s.len = L.length := by
  have := (H.front 1 rfl).rowLen
  rw [parts_len] at this; omega

theorem rres_hdr (H : Sat (rres E r s L U G ++ Z) w) : w.cell? (Addr.mk r 0 none) = some (.slice s.base s.len s.cap) := H.cell0 rfl

/-- The two words of a chunk. -/
theorem rres_get (H : Sat (rres E r s L U G ++ Z) w) {k : Nat} {x : Int × Nat} (hk : L[k]? = some x) : ∃ a, s.base = some a ∧ k < s.len ∧ w.cell? (a.add (k * 2)) = some (.int .u64 x.1) ∧ w.cell? ((a.add (k * 2)).add 1) = some (.pointer (some ⟨x.2, 0, none⟩)) := by
  have h1 := H.front 1 rfl
  have hown := h1.own
  obtain ⟨g1, g2⟩ := parts_get L hk
  have hlen := rres_len H
  have hl := (List.getElem?_eq_some_iff.1 hk).1
  obtain ⟨b, hb⟩ := hown.base_of (by omega)
  refine ⟨_, hb, by omega, hown.cell hb g1, ?_⟩
  rw [add_add]; exact hown.cell hb g2

theorem rres_chunk (H : Sat (rres E r s L U G ++ Z) w) {k : Nat} {x : Int × Nat} (hk : L[k]? = some x) :
    Sat (ckP E U G x :: Many (ckP E U G) (L.eraseIdx k) :: Cells r E.t_mallowref9_Tree [.slice s.base s.len s.cap] :: Row E.t_mallowref9_Part 2 s (parts L) :: Z) w :=
  (H.front 2 rfl).manyGet hk

theorem ck_win0 (x : Int × Nat) : Win (flags 512 (fun k => U (x.1 * 512 + k)) ++ flags 512 (fun k => G (x.1 * 512 + k))) 0 fun k => U (x.1 * 512 + k) := by
  refine ⟨by simp [flags_len], fun k h0 h1 => ?_⟩
  rw [List.getElem?_append_left (by rw [flags_len]; omega)]
  exact flags_getI (n := 512) (u := fun k => U (x.1 * 512 + k)) h0 h1
theorem ck_win1 (x : Int × Nat) : Win (flags 512 (fun k => U (x.1 * 512 + k)) ++ flags 512 (fun k => G (x.1 * 512 + k))) 512 fun k => G (x.1 * 512 + k) := by
  refine ⟨by simp [flags_len], fun k h0 h1 => ?_⟩
  rw [List.getElem?_append_right (by rw [flags_len]; omega), flags_len, show 512 + k.toNat - 512 = 0 + k.toNat by omega]
  exact flags_getI (n := 512) (u := fun k => G (x.1 * 512 + k)) h0 h1

theorem rres_used (H : Sat (rres E r s L U G ++ Z) w) {k : Nat} {x : Int × Nat} (hk : L[k]? = some x) {i : Int} (h0 : 0 ≤ i) (h1 : i < 512) : w.cell? ((Addr.mk x.2 0 none).add i.toNat) = some (.bool (U (x.1 * 512 + i))) :=
  (rres_chunk H hk).cell ((ck_win0 x).2 i h0 h1)
theorem rres_gone (H : Sat (rres E r s L U G ++ Z) w) {k : Nat} {x : Int × Nat} (hk : L[k]? = some x) {i : Int} (h0 : 0 ≤ i) (h1 : i < 512) : w.cell? (((Addr.mk x.2 0 none).add 512).add i.toNat) = some (.bool (G (x.1 * 512 + i))) := by
  rw [add_eq, Nat.zero_add]
  exact (rres_chunk H hk).cell (o := 512) ((ck_win1 x).2 i h0 h1)

theorem rfind_spec (H : Sat (rres E r s L U G ++ Z) w) {n : Int} {K : Int → Bool → World → Prop}
    (hK : ∀ w' ok, (ok = true ↔ ∃ c, L[posC L n]? = some c ∧ c.1 = n) → Sat (rres E r s L U G ++ Z) w' → K (posC L n) ok w') : F.mallowref9_Tree_find E (some ⟨r, 0, none⟩) n K w := by
  unfold F.mallowref9_Tree_find
  simp only [NC_some]
  have hlen := rres_len H
  have h63 : L.length < 9223372036854775808 := by have := (H.front 1 rfl).own; have := this.cap; have := (H.front 1 rfl).own.top; omega
  refine JOIN_intro (fun st w' => w' = w ∧ st.1 = (posC L n : Nat)) ?_ ?_
  · refine LOOP_intro (fun st w' => w' = w ∧ ∃ k : Nat, st.1 = (k : Int) ∧ k ≤ L.length ∧ posC L n = posC (L.drop k) n + k) (fun st _ => (L.length - st.1).toNat) ⟨rfl, 0, rfl, Nat.zero_le _, rfl⟩ ?_
    rintro ⟨i, v⟩ _ w5 ⟨rfl, k, hk, hkl, hp⟩
    dsimp only at hk ⊢
    subst hk
    refine ⟨s, rres_hdr H, CND_dec (fun hlt => ⟨s, rres_hdr H, ?_⟩) fun hge => ⟨rfl, ?_⟩⟩
    · have hl : k < L.length := by omega
      have hg := List.getElem?_eq_getElem hl
      have hd := drop_get hg
      rw [hd] at hp
      obtain ⟨a, ha, _, c1, _⟩ := rres_get H hg
      generalize L[k] = x at hg c1 hp
      rw [ha]
      simp only [NC_some, Int.toNat_natCast]
      rw [i64_id (n := (k : Int) + 1) (by omega) (by omega)]
      refine ⟨⟨by omega, by omega⟩, _, c1, CND_dec (fun h => ⟨⟨by trivial, k + 1, by omega, by omega, ?_⟩, by omega⟩) fun h => ⟨by trivial, ?_⟩⟩
      · rw [hp]; simp only [posC]; rw [if_pos h]; omega
      · rw [hp]; simp only [posC]; rw [if_neg h]; omega
    · have : k = L.length := by omega
      subst this
      rw [hp, List.drop_length]; show _ = (((0 : Nat) + L.length : Nat) : Int); omega
  · rintro ⟨i, v⟩ _ w3 ⟨rfl, hi⟩
    dsimp only at hi ⊢
    subst hi
    have Hd := H.drew
    have hple := posC_le L n
    refine ⟨s, rres_hdr Hd, CND_dec (fun hlt => ⟨s, rres_hdr Hd, ?_⟩) fun hge => hK _ _ ?_ Hd⟩
    · have hg := List.getElem?_eq_getElem (show posC L n < L.length by omega)
      obtain ⟨a, ha, _, c1, _⟩ := rres_get Hd hg
      generalize L[posC L n] = x at hg c1
      rw [ha]
      simp only [NC_some, Int.toNat_natCast]
      refine ⟨⟨by omega, by omega⟩, _, c1, hK _ _ ?_ Hd⟩
      rw [beq_iff_eq]
      exact ⟨fun h => ⟨x, hg, h⟩, fun ⟨c, h1, h2⟩ => by rw [hg] at h1; cases h1; exact h2⟩
    · rw [List.getElem?_eq_none (by omega)]
      exact ⟨fun h => (by cases h), fun ⟨c, h1, _⟩ => (by cases h1)⟩

theorem rstate_spec (hI : RInv l L U G) (H : Sat (rres E r s L U G ++ Z) w) {p : Int} (hp : 0 ≤ p) (hp2 : p < 18446744073709551616) {K : Bool → Bool → Bool → World → Prop}
    (hK : ∀ w' r0 r1 r2, (r0 = true ↔ mem (l 0) p) → (r1 = true ↔ mem (l 1) p) → (r2 = true ↔ mem (l 2) p) → Sat (rres E r s L U G ++ Z) w' → K r0 r1 r2 w') : F.mallowref9_Tree_State E (some ⟨r, 0, none⟩) p K w := by
  unfold F.mallowref9_Tree_State
  rw [Int.tdiv_eq_ediv_of_nonneg hp, Int.tmod_eq_emod_of_nonneg hp, u64_id (n := p / 512) (by omega) (by omega)]
  refine ⟨by decide, rfind_spec H fun w3 ok hok H3 => CND_intro (fun e => ?_) fun e => ?_⟩
  · have hno : ¬ mem (l 0) p := fun hm => by
      obtain ⟨c, hc, hc2⟩ := (hI.l0 p).1 hm
      have : ok = true := hok.2 ⟨c, posC_has hI.srt hc hc2, hc2⟩
      rw [this] at e; cases e
    exact hK _ _ _ _ ⟨fun h => (by cases h), fun h => absurd h hno⟩ ⟨fun h => (by cases h), fun h => absurd ((hI.l1 p).1 h).1 hno⟩ ⟨fun h => (by cases h), fun h => absurd ((hI.l2 p).1 h).1 hno⟩ H3
  · have hok1 : ok = true := by simpa using e
    obtain ⟨c, hc, hc2⟩ := hok.1 hok1
    have hm : mem (l 0) p := (hI.l0 p).2 ⟨c, List.mem_of_getElem? hc, hc2⟩
    obtain ⟨a, ha, hlt, c1, c2⟩ := rres_get H3 hc
    have Hd := H3.drew
    have hU := rres_used Hd hc (i := p % 512) (by omega) (by omega)
    have hG := rres_gone Hd hc (i := p % 512) (by omega) (by omega)
    have e2 : c.1 * 512 + p % 512 = p := by omega
    rw [e2] at hU hG
    simp only [NC_some]
    refine ⟨s, rres_hdr H3, ?_⟩
    rw [ha]
    simp only [NC_some, Int.toNat_natCast, Nat.mul_one]
    refine ⟨⟨by omega, by omega⟩, _, c2, by decide, ?_⟩
    simp only [NC_some]
    refine ⟨⟨by omega, by omega⟩, _, hU, by decide, ⟨by omega, by omega⟩, _, hG, hK _ _ _ _ ⟨fun _ => hm, fun _ => rfl⟩ ?_ ?_ Hd⟩
    · rw [hI.l1 p]
      cases g : U p
      · simp [hm]
      · simp
    · rw [hI.l2 p]; simp [hm]

theorem rlies_spec (hI : RInv l L U G) (H : Sat (rres E r s L U G ++ Z) w) {x n : Int} (hx : 0 ≤ x) (hx2 : x < 18446744073709551616) (hn : 0 ≤ n) (hn2 : n < 18446744073709551616) {K : Bool → World → Prop}
    (hK : ∀ w' ok, (ok = true ↔ ¬ (n = 0 ∨ 34359738368 ≤ x ∨ 34359738368 - x < n ∨ cnt (l 0) x (x + n) ≠ n)) → Sat (rres E r s L U G ++ Z) w' → K ok w') : F.mallowref9_Tree_lies E (some ⟨r, 0, none⟩) x n K w := by
  unfold F.mallowref9_Tree_lies
  have h0 : ∀ {w'} (b : Bool), b = false → (n = 0 ∨ 34359738368 ≤ x ∨ 34359738368 - x < n ∨ cnt (l 0) x (x + n) ≠ n) → Sat (rres E r s L U G ++ Z) w' → K b w' := fun b hb h H' => hK _ _ ⟨fun e => (by rw [hb] at e; cases e), fun g => absurd h g⟩ H'
  refine JOIN_in (CND_eq (fun e j => CND_t rfl (h0 _ rfl (.inl e) H)) fun e1 => CND_dec (fun e j => CND_t rfl (h0 _ rfl (.inr (.inl e)) H)) fun e2 => ?_)
  rw [u64_id (n := 34359738368 - x) (by omega) (by omega)]
  refine fun j => CND_dec (fun e => h0 _ rfl (.inr (.inr (.inl e))) H) fun e3 => ⟨by decide, ?_⟩
  rw [Int.tdiv_eq_ediv_of_nonneg hx, u64_id (n := x / 512) (by omega) (by omega), u64_id (n := x + n) (by omega) (by omega), u64_id (n := x + n - 1) (by omega) (by omega), Int.tdiv_eq_ediv_of_nonneg (a := x + n - 1) (by omega), u64_id (n := (x + n - 1) / 512) (by omega) (by omega)]
  refine rfind_spec H fun w6 ok hok H6 => ⟨by decide, ?_⟩
  clear hok
  have hlen := rres_len H
  have hll := sorted_len hI.srt hI.rng
  have hple := posC_le L (x / 512)
  have hfull2 : (∀ p, x ≤ p → p < x + n → mem (l 0) p) → cnt (l 0) x (x + n) = n := fun h => by
    have := (cnt_full hI.ok0 (a := x) (b := x + n) (by omega)).2 h
    omega
  have hcin : ∀ c, x / 512 ≤ c → c ≤ (x + n - 1) / 512 → cnt (l 0) x (x + n) = n → c ∈ L.map (·.1) := fun c h1 h2 e => by
    obtain ⟨mm, mm1, mm2, mm3⟩ : ∃ m, x ≤ m ∧ m < x + n ∧ m / 512 = c := ⟨max x (c * 512), by omega, by omega, by omega⟩
    obtain ⟨y, hy, hy2⟩ := (hI.l0 mm).1 ((cnt_full hI.ok0 (a := x) (b := x + n) (by omega)).1 (by omega) mm mm1 mm2)
    exact List.mem_map.2 ⟨y, hy, by omega⟩
  simp only [NC_some]
  refine LOOP_intro (fun st w' => w' = w6 ∧ x / 512 ≤ st.2.1 ∧ st.2.1 ≤ (x + n - 1) / 512 + 1 ∧ (st.1 = (posC L (x / 512) : Nat) + (st.2.1 - x / 512)) ∧ st.1 ≤ L.length ∧ ∀ m, x / 512 ≤ m → m < st.2.1 → ∃ c, L[(posC L (x / 512) + (m - x / 512).toNat)]? = some c ∧ c.1 = m)
    (fun st _ => ((x + n - 1) / 512 + 1 - st.2.1).toNat) ⟨rfl, Int.le_refl _, by dsimp only; omega, by dsimp only; omega, by dsimp only; omega, fun m h1 h2 => by dsimp only at h2; omega⟩ ?_
  rintro ⟨at_, c, v⟩ _ w8 ⟨rfl, c0, c1, hat, hal, hall⟩
  dsimp only at c0 c1 hat hal hall ⊢
  refine ⟨by decide, CND_dec (fun hle => ?_) fun hgt => ?_⟩
  · have hcin := hcin c c0 hle
    refine JOIN_in ⟨s, rres_hdr H6, CND_dec (fun hge j => CND_t rfl (h0 _ rfl (.inr (.inr (.inr fun e => ?_))) H6)) fun hlt => ⟨s, rres_hdr H6, ?_⟩⟩
    · obtain ⟨y, hy, hy2⟩ := List.mem_map.1 (hcin e)
      obtain ⟨j, hj⟩ := List.mem_iff_getElem?.1 hy
      have hjl := (List.getElem?_eq_some_iff.1 hj).1
      by_cases g : j < posC L (x / 512)
      · have := posC_before hj g; omega
      · obtain ⟨z, hz, hz2⟩ := hall (x / 512 + (j - posC L (x / 512) : Nat)) (by omega) (by omega)
        rw [show posC L (x / 512) + (x / 512 + ((j - posC L (x / 512) : Nat) : Int) - x / 512).toNat = j by omega, hj] at hz
        cases hz
        omega
    · have hg := List.getElem?_eq_getElem (show at_.toNat < L.length by omega)
      obtain ⟨a, ha, hlt2, d1, _⟩ := rres_get H6 hg
      generalize L[at_.toNat] = y at hg d1
      rw [ha]
      simp only [NC_some]
      refine ⟨⟨by omega, by omega⟩, _, d1, fun j => CND_ne (fun hne => h0 _ rfl (.inr (.inr (.inr fun e => ?_))) H6) fun heq => ?_⟩
      · obtain ⟨y', hy, hy2⟩ := List.mem_map.1 (hcin e)
        have hc := posC_has hI.srt hy hy2
        have : at_.toNat = posC L c := by
          rcases Nat.lt_trichotomy at_.toNat (posC L c) with g | g | g
          · exfalso
            have g1 := posC_before hg g
            by_cases g2 : c = x / 512
            · subst g2; omega
            · obtain ⟨z, hz, hz2⟩ := hall (c - 1) (by omega) (by omega)
              have g3 : posC L (x / 512) + (c - 1 - x / 512).toNat < at_.toNat := by omega
              have := List.pairwise_iff_getElem.1 hI.srt _ _ (by omega) (by omega) g3
              rw [(List.getElem?_eq_some_iff.1 hz).2, (List.getElem?_eq_some_iff.1 hg).2] at this
              omega
          · exact g
          · exfalso
            by_cases g2 : c = x / 512
            · subst g2; omega
            · obtain ⟨z, hz, hz2⟩ := hall (c - 1) (by omega) (by omega)
              have := posC_after hI.srt hz (n := c) (by omega)
              omega
        rw [this, hc] at hg
        cases hg
        exact hne hy2
      · rw [i64_id (n := at_ + 1) (by omega) (by omega), u64_id (n := c + 1) (by omega) (by omega)]
        refine ⟨⟨by trivial, by omega, by omega, by omega, by omega, fun m h1 h2 => ?_⟩, by omega⟩
        by_cases e : m = c
        · subst e
          refine ⟨y, ?_, heq⟩
          rw [show posC L (x / 512) + (m - x / 512).toNat = at_.toNat by omega]; exact hg
        · exact hall m h1 (by omega)
  · refine hK _ _ ⟨fun _ => ?_, fun _ => rfl⟩ H6
    have : cnt (l 0) x (x + n) = n := by
      refine hfull2 fun m h1 h2 => (hI.l0 m).2 ?_
      obtain ⟨z, hz, hz2⟩ := hall (m / 512) (by omega) (by omega)
      exact ⟨z, List.mem_of_getElem? hz, hz2⟩
    omega

theorem rcnt_spec (hI : RInv l L U G) (H : Sat (rres E r s L U G ++ Z) w) {x n : Int} (hx : 0 ≤ x) (hn : 0 ≤ n) (hxn : x + n ≤ 34359738368) {K : Int → Int → World → Prop}
    (hK : ∀ w', Sat (rres E r s L U G ++ Z) w' → K (n - cnt (l 1) x (x + n)) (cnt (l 2) x (x + n)) w') : F.mallowref9_Tree_count E (some ⟨r, 0, none⟩) x n K w := by
  unfold F.mallowref9_Tree_count
  rw [u64_id (n := x + n) (by omega) (by omega)]
  have z0 : ∀ {m : Iv}, Ok m → cnt m x x = 0 := fun h => (cnt_none h (Int.le_refl _)).2 fun k h1 h2 => by omega
  refine LOOP_intro (fun st w' => x ≤ st.2.2.1 ∧ st.2.2.1 ≤ x + n ∧ st.1 = st.2.2.1 - x - cnt (l 1) x st.2.2.1 ∧ st.2.1 = cnt (l 2) x st.2.2.1 ∧ Sat (rres E r s L U G ++ Z) w') (fun st _ => (x + n - st.2.2.1).toNat)
    ⟨Int.le_refl _, by show x ≤ x + n; omega, by dsimp only; rw [z0 hI.ok1]; omega, by dsimp only; rw [z0 hI.ok2], H⟩ ?_
  rintro ⟨a, g, p, v⟩ _ w2 ⟨p0, p1, ha, hg, H2⟩
  dsimp only at p0 p1 ha hg ⊢
  subst ha; subst hg
  have b1 := cnt_nonneg (l 1) x p
  have b2 := cnt_nonneg (l 2) x p
  have b3 := cnt_split hI.ok1 (a := x) (b := p) (by omega)
  have b4 := cnt_split hI.ok2 (a := x) (b := p) (by omega)
  refine CND_dec (fun hlt => rstate_spec hI H2 (by omega) (by omega) fun w7 r0 r1 r2 _ hr1 hr2 H7 => ?_) fun hge => ?_
  · have s1 := cnt_succ hI.ok1 (a := x) (k := p) p0
    have s2 := cnt_succ hI.ok2 (a := x) (k := p) p0
    rw [u64_id (n := p + 1) (by omega) (by omega), u64_id (n := cnt (l 2) x p + 1) (by omega) (by omega), u64_id (n := p - x - cnt (l 1) x p + 1) (by omega) (by omega)]
    refine JOIN_in (CND_intro (fun e j => CND_intro (fun e2 => ?_) fun e2 => ?_) fun e j => CND_intro (fun e2 => ?_) fun e2 => ?_)
    all_goals dsimp only
    · have h1 := s1.2 fun h => by rw [hr1.2 h] at e; cases e
      have h2 := s2.1 (hr2.1 e2)
      exact ⟨⟨by omega, by omega, by omega, by omega, H7⟩, by omega⟩
    · have h1 := s1.2 fun h => by rw [hr1.2 h] at e; cases e
      have h2 := s2.2 fun h => by rw [hr2.2 h] at e2; cases e2
      exact ⟨⟨by omega, by omega, by omega, by omega, H7⟩, by omega⟩
    · have h1 := s1.1 (hr1.1 (by simpa using e))
      have h2 := s2.1 (hr2.1 e2)
      exact ⟨⟨by omega, by omega, by omega, by omega, H7⟩, by omega⟩
    · have h1 := s1.1 (hr1.1 (by simpa using e))
      have h2 := s2.2 fun h => by rw [hr2.2 h] at e2; cases e2
      exact ⟨⟨by omega, by omega, by omega, by omega, H7⟩, by omega⟩
  · have : p = x + n := by omega
    subst this
    rw [show x + n - x - cnt (l 1) x (x + n) = n - cnt (l 1) x (x + n) by omega]
    exact hK _ H2

/-- A page of a chunk is set. -/
theorem ck_set {x : Int × Nat} {U' G' : Int → Bool} {i : Int} (h0 : 0 ≤ i) (h1 : i < 512) (a g : Bool) :
    ((flags 512 (fun k => U (x.1 * 512 + k)) ++ flags 512 (fun k => G (x.1 * 512 + k))).set (0 + i.toNat) (.bool a)).set (512 + i.toNat) (.bool g) =
      flags 512 (fun k => if x.1 * 512 + k = x.1 * 512 + i then a else U (x.1 * 512 + k)) ++ flags 512 (fun k => if x.1 * 512 + k = x.1 * 512 + i then g else G (x.1 * 512 + k)) := by
  rw [List.set_append_left _ _ (by rw [flags_len]; omega), List.set_append_right _ _ (by simp only [List.length_set, flags_len]; omega)]
  rw [show 512 + i.toNat - ((flags 512 fun k => U (x.1 * 512 + k)).set (0 + i.toNat) (.bool a)).length = 0 + i.toNat by simp only [List.length_set, flags_len]; omega]
  rw [flags_set h0, flags_set h0]
  have e : ∀ (f : Int → Bool) (v : Bool), (flags 512 fun j => if j = i then v else f j) = flags 512 fun k => if x.1 * 512 + k = x.1 * 512 + i then v else f k := fun f v => flags_congr fun k _ _ => by
    by_cases e : k = i
    · rw [if_pos e, if_pos (by omega)]
    · rw [if_neg e, if_neg (by omega)]
  rw [e, e]

theorem rput9_spec (hI : RInv l L U G) (H : Sat (rres E r s L U G ++ Z) w) {x n : Int} (hx : 0 ≤ x) (hn : 0 ≤ n) (hxn : x + n ≤ 34359738368) (hin : ∀ p, x ≤ p → p < x + n → mem (l 0) p) (a g : Bool) {K : World → Prop}
    (hK : ∀ w', Sat (rres E r s L (fun p => if x ≤ p ∧ p < x + n then a else U p) (fun p => if x ≤ p ∧ p < x + n then g else G p) ++ Z) w' → K w') : F.mallowref9_Tree_put E (some ⟨r, 0, none⟩) x n a g K w := by
  unfold F.mallowref9_Tree_put
  rw [u64_id (n := x + n) (by omega) (by omega)]
  refine LOOP_intro (fun st w' => x ≤ st.1 ∧ st.1 ≤ x + n ∧ Sat (rres E r s L (fun p => if x ≤ p ∧ p < st.1 then a else U p) (fun p => if x ≤ p ∧ p < st.1 then g else G p) ++ Z) w') (fun st _ => (x + n - st.1).toNat) ⟨Int.le_refl _, by show x ≤ x + n; omega, ?_⟩ ?_
  · have e : ∀ (f : Int → Bool) (v : Bool), (fun p => if x ≤ p ∧ p < x then v else f p) = f := fun f v => by funext p; rw [if_neg (by omega)]
    dsimp only; rw [e, e]; exact H
  rintro ⟨p, v⟩ _ w2 ⟨p0, p1, H2⟩
  dsimp only at p0 p1 H2 ⊢
  refine CND_dec (fun hlt => ⟨by decide, ?_⟩) fun hge => ?_
  · rw [Int.tdiv_eq_ediv_of_nonneg (by omega), Int.tmod_eq_emod_of_nonneg (by omega), u64_id (n := p / 512) (by omega) (by omega), u64_id (n := p + 1) (by omega) (by omega)]
    refine rfind_spec H2 fun w6 ok hok H6 => ?_
    obtain ⟨c, hcm, hc2⟩ := (hI.l0 p).1 (hin p p0 hlt)
    have hc := posC_has hI.srt hcm hc2
    obtain ⟨aa, ha, hl1, c1, c2⟩ := rres_get H6 hc
    simp only [NC_some]
    refine ⟨s, rres_hdr H6, ?_⟩
    rw [ha]
    simp only [NC_some, Int.toNat_natCast, Nat.mul_one]
    refine ⟨⟨by omega, by omega⟩, _, c2, by decide, ?_⟩
    simp only [NC_some]
    refine ⟨⟨by omega, by omega⟩, ?_⟩
    have hlen : ∀ (A B : Int → Bool), (flags 512 A ++ flags 512 B).length = 1024 := fun A B => by rw [List.length_append, flags_len, flags_len]
    refine st_cell (rres_chunk H6 hc) rfl (by rw [hlen]; omega) fun w12 H12 => ?_
    have hown := (H12.front 3 rfl).own
    refine ⟨s, (H12.front 2 rfl).cell0 rfl, ?_⟩
    rw [ha]
    simp only [NC_some]
    refine ⟨⟨by omega, by omega⟩, some ⟨c.2, 0, none⟩, ?_, by decide, ?_⟩
    · rw [add_add]; exact hown.cell ha (parts_get L hc).2
    simp only [NC_some]
    refine ⟨⟨by omega, by omega⟩, ?_⟩
    rw [add_eq c.2 0 512, Nat.zero_add]
    refine st_cell H12 (o := 512) rfl (by rw [List.length_set, hlen]; omega) fun w18 H18 => ⟨⟨by omega, by omega, ?_⟩, by omega⟩
    have e18 := ck_set (x := c) (U := fun q => if x ≤ q ∧ q < p then a else U q) (G := fun q => if x ≤ q ∧ q < p then g else G q) (U' := U) (G' := G) (i := p % 512) (by omega) (by omega) a g
    have e2 : c.1 * 512 + p % 512 = p := by omega
    rw [e2] at e18
    rw [e18] at H18
    have eqf : ∀ (f : Int → Bool) (v : Bool), (fun q => if q = p then v else if x ≤ q ∧ q < p then v else f q) = fun q => if x ≤ q ∧ q < p + 1 then v else f q := fun f v => by
      funext q
      by_cases e : q = p
      · rw [if_pos e, if_pos (by omega)]
      · rw [if_neg e]
        by_cases e3 : x ≤ q ∧ q < p
        · rw [if_pos e3, if_pos (by omega)]
        · rw [if_neg e3, if_neg (by omega)]
    have hnew : Sat (ckP E (fun q => if x ≤ q ∧ q < p + 1 then a else U q) (fun q => if x ≤ q ∧ q < p + 1 then g else G q) c ::
        Many (ckP E (fun q => if x ≤ q ∧ q < p + 1 then a else U q) (fun q => if x ≤ q ∧ q < p + 1 then g else G q)) (L.eraseIdx (posC L (p / 512))) :: Cells r E.t_mallowref9_Tree [.slice s.base s.len s.cap] :: Row E.t_mallowref9_Part 2 s (parts L) :: Z) w18 := by
      have em : Many (ckP E (fun q => if x ≤ q ∧ q < p + 1 then a else U q) (fun q => if x ≤ q ∧ q < p + 1 then g else G q)) (L.eraseIdx (posC L (p / 512))) = Many (ckP E (fun q => if x ≤ q ∧ q < p then a else U q) (fun q => if x ≤ q ∧ q < p then g else G q)) (L.eraseIdx (posC L (p / 512))) := by
        refine Many.congr fun y hy => ?_
        obtain ⟨j, hj⟩ := List.mem_iff_getElem?.1 hy
        have hne : y.1 ≠ p / 512 := by
          intro e
          rw [List.getElem?_eraseIdx] at hj
          have hpos := posC_has hI.srt (c := y) (n := p / 512) (by split at hj <;> exact List.mem_of_getElem? hj) e
          split at hj
          · rename_i hjl
            have := posC_before hj hjl
            omega
          · rename_i hjl
            have h2 := (List.getElem?_eq_some_iff.1 hj)
            obtain ⟨h3, h4⟩ := h2
            have := List.pairwise_iff_getElem.1 hI.srt (posC L (p / 512)) (j + 1) (by omega) h3 (by omega)
            rw [h4, (List.getElem?_eq_some_iff.1 hpos).2] at this
            omega
        unfold ckP
        congr 2 <;> refine flags_congr fun k k0 k1 => ?_ <;> dsimp only
        · have : ¬ (y.1 * 512 + k = p) := by omega
          by_cases e3 : x ≤ y.1 * 512 + k ∧ y.1 * 512 + k < p
          · rw [if_pos e3, if_pos (by omega)]
          · rw [if_neg e3, if_neg (by omega)]
        · have : ¬ (y.1 * 512 + k = p) := by omega
          by_cases e3 : x ≤ y.1 * 512 + k ∧ y.1 * 512 + k < p
          · rw [if_pos e3, if_pos (by omega)]
          · rw [if_neg e3, if_neg (by omega)]
      rw [em]
      unfold ckP
      have f1 : (fun k => if x ≤ c.1 * 512 + k ∧ c.1 * 512 + k < p + 1 then a else U (c.1 * 512 + k)) = fun k => if c.1 * 512 + k = p then a else if x ≤ c.1 * 512 + k ∧ c.1 * 512 + k < p then a else U (c.1 * 512 + k) := by
        funext k; exact (congrFun (eqf U a) (c.1 * 512 + k)).symm
      have f2 : (fun k => if x ≤ c.1 * 512 + k ∧ c.1 * 512 + k < p + 1 then g else G (c.1 * 512 + k)) = fun k => if c.1 * 512 + k = p then g else if x ≤ c.1 * 512 + k ∧ c.1 * 512 + k < p then g else G (c.1 * 512 + k) := by
        funext k; exact (congrFun (eqf G g) (c.1 * 512 + k)).symm
      rw [f1, f2]
      exact H18
    exact (hnew.manyBack hc).perm (List.Perm.trans (.swap _ _ _) (.cons _ (.swap _ _ _)))
  · have : p = x + n := by omega
    subst this
    exact hK _ H2
end
end Go.Sh

set_option linter.all false
set_option maxRecDepth 4000
set_option maxHeartbeats 1000000
namespace Go.Sh

theorem RInv.congr {l l' : Nat → Iv} {L : CL} {U G : Int → Bool} (h : RInv l L U G) (h0 : l' 0 = l 0) (h1 : l' 1 = l 1) (h2 : l' 2 = l 2) : RInv l' L U G :=
  ⟨h.srt, h.rng, by rw [h0]; exact h.ok0, by rw [h1]; exact h.ok1, by rw [h2]; exact h.ok2, by rw [h0]; exact h.l0, by rw [h0, h1]; exact h.l1, by rw [h0, h2]; exact h.l2⟩

theorem Sat.rcongr {E : Env} {r : Nat} {l l' : Nat → Iv} {Z : List Pr} {w : World} (H : Sat (RTree E r l :: Z) w) (h0 : l' 0 = l 0) (h1 : l' 1 = l 1) (h2 : l' 2 = l 2) : Sat (RTree E r l' :: Z) w := by
  obtain ⟨s, L, U, G, hI, H⟩ := Sat.rtree.1 H
  exact Sat.rtree.2 ⟨s, L, U, G, hI.congr h0 h1 h2, H⟩

theorem lies_iff {l : Nat → Iv} {x n : Int} : ¬ (n = 0 ∨ 34359738368 ≤ x ∨ 34359738368 - x < n ∨ cnt (l 0) x (x + n) ≠ n) ↔ n ≠ 0 ∧ x < 34359738368 ∧ x + n ≤ 34359738368 ∧ cnt (l 0) x (x + n) = n := by
  constructor
  · intro h
    refine ⟨fun e => h (.inl e), ?_, ?_, Classical.byContradiction fun e => h (.inr (.inr (.inr e)))⟩
    · exact Classical.byContradiction fun e => h (.inr (.inl (by omega)))
    · exact Classical.byContradiction fun e => h (.inr (.inr (.inl (by omega))))
  · rintro ⟨h1, h2, h3, h4⟩ h
    rcases h with h | h | h | h <;> omega

section
variable {E : Env} {w : World} {Z : List Pr} {r : Nat} {l : Nat → Iv}

theorem rtake_spec (H : Sat (RTree E r l :: Z) w) {x n : Int} (hx : 0 ≤ x) (hx2 : x < 18446744073709551616) (hn : 0 ≤ n) (hn2 : n < 18446744073709551616) {K : Int → Int → World → Prop}
    (hk1 : lookedR l x n true 32 ≠ 0 → ∀ w', Sat (RTree E r l :: Z) w' → K 0 (lookedR l x n true 32) w')
    (hk2 : lookedR l x n true 32 = 0 → ∀ w', (∀ l', l' 0 = l 0 → l' 1 = cutL (l 1) x (x + n) → l' 2 = cutL (l 2) x (x + n) → Sat (RTree E r l' :: Z) w') → K (cnt (l 2) x (x + n)) 0 w') :
    F.mallowref9_Tree_Take E (some ⟨r, 0, none⟩) x n K w := by
  obtain ⟨s, L, U, G, hI, H⟩ := Sat.rtree.1 H
  have back : ∀ {w'}, Sat (rres E r s L U G ++ Z) w' → Sat (RTree E r l :: Z) w' := fun h => Sat.rtree.2 ⟨s, L, U, G, hI, h⟩
  unfold F.mallowref9_Tree_Take
  refine rlies_spec hI H hx hx2 hn hn2 fun w2 ok hok H2 => ?_
  refine CND_intro (fun e => ?_) fun e => ?_
  · have hb : n = 0 ∨ 34359738368 ≤ x ∨ 34359738368 - x < n ∨ cnt (l 0) x (x + n) ≠ n := Classical.byContradiction fun g => by
      rw [hok.2 g] at e; cases e
    have e10 : lookedR l x n true 32 = 10 := by unfold lookedR; rw [if_pos hb]
    have := hk1 (by rw [e10]; decide) w2 (back H2)
    rwa [e10] at this
  · have hg := hok.1 (by simpa using e)
    clear hok
    obtain ⟨g1, g2, g3, g4⟩ := lies_iff.1 hg
    have hin := (cnt_full hI.ok0 (a := x) (b := x + n) (by omega)).1 (by omega)
    have c1 := cnt_split hI.ok1 (a := x) (b := x + n) (by omega)
    refine rcnt_spec hI H2 hx hn (by omega) fun w5 H5 => CND_dec (fun h => ?_) fun h => ?_
    · have e32 : lookedR l x n true 32 = 32 := by unfold lookedR; rw [if_neg hg, if_pos (by rw [if_pos rfl]; omega)]
      have := hk1 (by rw [e32]; decide) w5 (back H5)
      rwa [e32] at this
    · have e0 : lookedR l x n true 32 = 0 := by unfold lookedR; rw [if_neg hg, if_neg (by rw [if_pos rfl]; omega)]
      refine rput9_spec hI H5 hx hn (by omega) hin true false fun w6 H6 => hk2 e0 w6 fun l' h0 h1 h2 => Sat.rtree.2 ⟨s, L, _, _, ⟨hI.srt, hI.rng, by rw [h0]; exact hI.ok0, by rw [h1]; exact Ok_cutL hI.ok1 (by omega), by rw [h2]; exact Ok_cutL hI.ok2 (by omega), by rw [h0]; exact hI.l0, fun p => ?_, fun p => ?_⟩, H6⟩
      · rw [h0, h1, mem_cutL (by omega), hI.l1]
        by_cases e : x ≤ p ∧ p < x + n
        · rw [if_pos e]; simp [e]
        · rw [if_neg e]; simp [e]
      · rw [h0, h2, mem_cutL (by omega), hI.l2]
        by_cases e : x ≤ p ∧ p < x + n
        · rw [if_pos e]; simp [e]
        · rw [if_neg e]; simp [e]

theorem rgive_spec (H : Sat (RTree E r l :: Z) w) (hrel : ∀ p, mem (l 2) p → mem (l 1) p) {x n : Int} {gone : Bool} (hx : 0 ≤ x) (hx2 : x < 18446744073709551616) (hn : 0 ≤ n) (hn2 : n < 18446744073709551616) {K : Int → World → Prop}
    (hk1 : lookedR l x n false 31 ≠ 0 → ∀ w', Sat (RTree E r l :: Z) w' → K (lookedR l x n false 31) w')
    (hk2 : lookedR l x n false 31 = 0 → ∀ w', (∀ l', l' 0 = l 0 → l' 1 = addL (l 1) x (x + n) → l' 2 = (if gone then addL (l 2) x (x + n) else l 2) → Sat (RTree E r l' :: Z) w') → K 0 w') :
    F.mallowref9_Tree_Give E (some ⟨r, 0, none⟩) x n gone K w := by
  obtain ⟨s, L, U, G, hI, H⟩ := Sat.rtree.1 H
  have back : ∀ {w'}, Sat (rres E r s L U G ++ Z) w' → Sat (RTree E r l :: Z) w' := fun h => Sat.rtree.2 ⟨s, L, U, G, hI, h⟩
  unfold F.mallowref9_Tree_Give
  refine rlies_spec hI H hx hx2 hn hn2 fun w2 ok hok H2 => ?_
  refine CND_intro (fun e => ?_) fun e => ?_
  · have hb : n = 0 ∨ 34359738368 ≤ x ∨ 34359738368 - x < n ∨ cnt (l 0) x (x + n) ≠ n := Classical.byContradiction fun g => by
      rw [hok.2 g] at e; cases e
    have e10 : lookedR l x n false 31 = 10 := by unfold lookedR; rw [if_pos hb]
    have := hk1 (by rw [e10]; decide) w2 (back H2)
    rwa [e10] at this
  · have hg := hok.1 (by simpa using e)
    clear hok
    obtain ⟨g1, g2, g3, g4⟩ := lies_iff.1 hg
    have hin := (cnt_full hI.ok0 (a := x) (b := x + n) (by omega)).1 (by omega)
    have c1 := cnt_nonneg (l 1) x (x + n)
    refine rcnt_spec hI H2 hx hn (by omega) fun w5 H5 => CND_dec (fun h => ?_) fun h => ?_
    · have e31 : lookedR l x n false 31 = 31 := by unfold lookedR; rw [if_neg hg, if_pos (by rw [if_neg (by decide)]; omega)]
      have := hk1 (by rw [e31]; decide) w5 (back H5)
      rwa [e31] at this
    · have c0 : cnt (l 1) x (x + n) = 0 := by omega
      have e0 : lookedR l x n false 31 = 0 := by unfold lookedR; rw [if_neg hg, if_neg (by rw [if_neg (by decide)]; omega)]
      have hno := (cnt_none hI.ok1 (a := x) (b := x + n) (by omega)).1 c0
      have a1 := addL_spec hI.ok1 (a := x) (b := x + n) (by omega) hx (by omega)
      have a2 := addL_spec hI.ok2 (a := x) (b := x + n) (by omega) hx (by omega)
      refine rput9_spec hI H5 hx hn (by omega) hin false gone fun w6 H6 => hk2 e0 w6 fun l' h0 h1 h2 => Sat.rtree.2 ⟨s, L, _, _, ⟨hI.srt, hI.rng, by rw [h0]; exact hI.ok0, by rw [h1]; exact a1.1, ?_, by rw [h0]; exact hI.l0, fun p => ?_, fun p => ?_⟩, H6⟩
      · rw [h2]; cases gone
        · exact hI.ok2
        · exact a2.1
      · rw [h0, h1, a1.2.1, hI.l1]
        by_cases e : x ≤ p ∧ p < x + n
        · rw [if_pos e]; simp [e, hin p e.1 e.2]
        · rw [if_neg e]; simp [e]
      · rw [h0, h2]
        by_cases e : x ≤ p ∧ p < x + n
        · rw [if_pos e]
          have hnr : ¬ mem (l 2) p := fun h => hno p e.1 e.2 (hrel p h)
          cases gone
          · simp [hnr]
          · rw [if_pos rfl, a2.2.1]; simp [e, hin p e.1 e.2]
        · rw [if_neg e]
          cases gone
          · rw [if_neg (by decide)]; exact hI.l2 p
          · rw [if_pos rfl, a2.2.1, hI.l2]; simp [e]

/-- The search has come to a page, with so many free ones right ahead of it. -/
def Came (l : Iv) (n cur run : Int) : Prop := 0 ≤ run ∧ run < n ∧ rowIn l (cur - run) run ∧ ∀ p, rowIn l p n → cur - run ≤ p

theorem Came.used {l : Iv} {n cur run : Int} (h : Came l n cur run) (hno : ¬ mem l cur) : Came l n (cur + 1) 0 := by
  obtain ⟨h1, h2, h3, h4⟩ := h
  refine ⟨by omega, by omega, fun m a b => by omega, fun p hp => Classical.byContradiction fun g => hno (hp cur (by omega) ?_)⟩
  have := h4 p hp; omega
theorem Came.free {l : Iv} {n cur run : Int} (h : Came l n cur run) (hm : mem l cur) : rowIn l (cur + 1 - (run + 1)) (run + 1) ∧ ∀ p, rowIn l p n → cur + 1 - (run + 1) ≤ p := by
  obtain ⟨h1, h2, h3, h4⟩ := h
  refine ⟨fun m a b => ?_, fun p hp => by have := h4 p hp; omega⟩
  by_cases e : m = cur
  · rw [e]; exact hm
  · exact h3 m (by omega) (by omega)
theorem Came.jump {l : Iv} {n cur run cur' : Int} (h : Came l n cur run) (hc : cur ≤ cur') (hno : ∀ m, cur ≤ m → m < cur' → ¬ mem l m) (hlt : cur < cur') : Came l n cur' 0 := by
  obtain ⟨h1, h2, h3, h4⟩ := h
  refine ⟨by omega, by omega, fun m a b => by omega, fun p hp => Classical.byContradiction fun g => ?_⟩
  have := h4 p hp
  by_cases e : cur ≤ p
  · exact hno p e (by omega) (hp p (by omega) (by omega))
  · exact hno cur (by omega) hlt (hp cur (by omega) (by omega))

theorem rFind_spec (H : Sat (RTree E r l :: Z) w) {n : Int} (hn : 0 ≤ n) (hn2 : n < 18446744073709551616) {K : Int → Bool → World → Prop}
    (hK : ∀ w', Sat (RTree E r l :: Z) w' → K ((if n = 0 then none else findL (l 1) n).getD 0) (if n = 0 then none else findL (l 1) n).isSome w') : F.mallowref9_Tree_Find E (some ⟨r, 0, none⟩) n K w := by
  obtain ⟨s, L, U, G, hI, H⟩ := Sat.rtree.1 H
  have hK' : K ((if n = 0 then none else findL (l 1) n).getD 0) (if n = 0 then none else findL (l 1) n).isSome w := hK w (Sat.rtree.2 ⟨s, L, U, G, hI, H⟩)
  clear hK
  unfold F.mallowref9_Tree_Find
  simp only [NC_some, Nat.mul_one]
  have hlen := rres_len H
  have hll := sorted_len hI.srt hI.rng
  have hmU : ∀ c ∈ L, ∀ k, 0 ≤ k → k < 512 → (mem (l 1) (c.1 * 512 + k) ↔ U (c.1 * 512 + k) = false) := fun c hc k h0 h1 => by
    rw [hI.l1]
    exact ⟨fun h => h.2, fun h => ⟨(hI.l0 _).2 ⟨c, hc, by omega⟩, h⟩⟩
  have hgap : ∀ (i : Nat) c, L[i]? = some c → ∀ B : Int, (∀ j c', j < i → L[j]? = some c' → (c'.1 + 1) * 512 ≤ B) → ∀ m, B ≤ m → m < c.1 * 512 → ¬ mem (l 1) m := fun i c hc B hB m h1 h2 hm => by
    obtain ⟨y, hy, hy2⟩ := (hI.l0 m).1 ((hI.l1 m).1 hm).1
    obtain ⟨j, hj⟩ := List.mem_iff_getElem?.1 hy
    by_cases g : j < i
    · have := hB j y g hj; omega
    · have h3 : c.1 ≤ y.1 := by
        rcases Nat.lt_or_eq_of_le (Nat.le_of_not_lt g) with g2 | g2
        · have := List.pairwise_iff_getElem.1 hI.srt i j (List.getElem?_eq_some_iff.1 hc).1 (List.getElem?_eq_some_iff.1 hj).1 g2
          rw [(List.getElem?_eq_some_iff.1 hc).2, (List.getElem?_eq_some_iff.1 hj).2] at this
          omega
        · subst g2; rw [hc] at hj; cases hj; exact Int.le_refl _
      omega
  refine LOOP_intro (fun st w' => w' = w ∧ ∃ i : Nat, st.2.2.1 = (i : Int) ∧ i ≤ L.length ∧ ((i = 0 ∧ st.1 = 0) ∨ (0 < i ∧ (∃ c, L[i - 1]? = some c ∧ c.1 = st.2.1) ∧ 0 < n ∧ Came (l 1) n ((st.2.1 + 1) * 512) st.1))) (fun st _ => (L.length - st.2.2.1).toNat) ⟨rfl, 0, rfl, Nat.zero_le _, .inl ⟨rfl, rfl⟩⟩ ?_
  rintro ⟨run, last, i', v⟩ _ w2 ⟨rfl, i, hi, hil, hc⟩
  dsimp only at hi hc ⊢
  subst hi
  refine ⟨s, rres_hdr H, CND_dec (fun hlt => CND_dec (fun hpos => ?_) fun hnp => ?_) fun hge => ?_⟩
  · have hl : i < L.length := by omega
    have hg := List.getElem?_eq_getElem hl
    obtain ⟨a, ha, hls, c1, c2⟩ := rres_get H hg
    generalize L[i] = x at hg c1 c2
    have hxm := List.mem_of_getElem? hg
    have hxr := hI.rng x hxm
    have hbef : ∀ (B : Int), (i = 0 ∨ ∃ c, L[i - 1]? = some c ∧ (c.1 + 1) * 512 ≤ B) → ∀ j c', j < i → L[j]? = some c' → (c'.1 + 1) * 512 ≤ B := fun B hB j c' hj hc' => by
      rcases hB with h | ⟨c, hc1, hc3⟩
      · omega
      · by_cases e : j = i - 1
        · subst e; rw [hc1] at hc'; cases hc'; exact hc3
        · have := List.pairwise_iff_getElem.1 hI.srt j (i - 1) (List.getElem?_eq_some_iff.1 hc').1 (List.getElem?_eq_some_iff.1 hc1).1 (by omega)
          rw [(List.getElem?_eq_some_iff.1 hc').2, (List.getElem?_eq_some_iff.1 hc1).2] at this
          omega
    rw [i64_id (n := (i : Int) + 1) (by omega) (by omega)]
    have hii : (0 : Int) ≤ (i : Int) ∧ (i : Int) < (s.len : Int) := ⟨by omega, by omega⟩
    -- the run at the chunk's first page
    refine JOIN_st (fun st w' => w' = w2 ∧ Came (l 1) n (x.1 * 512) st.1) ?_ ?_
    · have hzero : i = 0 → Came (l 1) n (x.1 * 512) 0 := fun e => ⟨by omega, by omega, fun m a b => by omega, fun p hp => Classical.byContradiction fun g => by
        have h1 := hp p (by omega) (by omega)
        have h2 := mem_pos hI.ok1 h1
        exact hgap i x hg 0 (hbef 0 (.inl e)) p h2 (by omega) h1⟩
      refine JOIN_in (CND_dec (fun hip => ⟨s, rres_hdr H, ?_⟩) fun hi0 j => CND_f rfl ?_)
      · rw [ha]
        simp only [NC_some, Int.toNat_natCast]
        refine ⟨hii, _, c1, fun j => ?_⟩
        rcases hc with ⟨h, _⟩ | ⟨_, ⟨c, hc1, hc3⟩, _, hcm⟩
        · omega
        have hcr := hI.rng c (List.mem_of_getElem? hc1)
        rw [u64_id (n := last + 1) (by omega) (by omega)]
        have hord : last + 1 ≤ x.1 := by
          have := List.pairwise_iff_getElem.1 hI.srt (i - 1) i (by omega) hl (by omega)
          rw [(List.getElem?_eq_some_iff.1 hc1).2, (List.getElem?_eq_some_iff.1 hg).2] at this
          omega
        refine CND_ne (fun hne => ⟨by trivial, ?_⟩) fun heq => ⟨by trivial, ?_⟩
        · exact hcm.jump (by omega) (hgap i x hg _ (hbef _ (.inr ⟨c, hc1, by omega⟩))) (by omega)
        · rw [heq]; exact hcm
      · have e : i = 0 := by omega
        refine ⟨rfl, ?_⟩
        rcases hc with ⟨_, h⟩ | ⟨h, _⟩
        · rw [h]; exact hzero e
        · omega
    · rintro ⟨run1, v⟩ _ w8 ⟨rfl, hcm⟩
      dsimp only at hcm ⊢
      refine ⟨s, rres_hdr H, ?_⟩
      rw [ha]
      simp only [NC_some, Int.toNat_natCast]
      refine ⟨hii, _, c1, ?_⟩
      refine LOOP_intro (fun st w' => w' = w8 ∧ 0 ≤ st.2.1 ∧ st.2.1 ≤ 512 ∧ Came (l 1) n (x.1 * 512 + st.2.1) st.1) (fun st _ => (512 - st.2.1).toNat) ⟨rfl, by dsimp only; omega, by dsimp only; omega, by rw [show x.1 * 512 + (0 : Int) = x.1 * 512 by omega]; exact hcm⟩ ?_
      rintro ⟨run2, k, v⟩ _ w21 ⟨rfl, k0, k1, hcm2⟩
      dsimp only at k0 k1 hcm2 ⊢
      refine CND_dec (fun hlt2 => ?_) fun hge2 => ?_
      · have hU := rres_used H hg (i := k) k0 hlt2
        rw [u64_id (n := k + 1) (by omega) (by omega)]
        have hrun := hcm2.2.1
        have hrun0 := hcm2.1
        refine JOIN_in ⟨s, rres_hdr H, ?_⟩
        rw [ha]
        simp only [NC_some]
        refine ⟨hii, _, c2, ?_⟩
        simp only [NC_some]
        refine ⟨⟨k0, hlt2⟩, _, hU, CND_intro (fun hu j => ?_) fun hu j => ?_⟩
        · refine CND_eq (fun e => by omega) fun _ => ⟨⟨by trivial, by omega, by omega, ?_⟩, by omega⟩
          have := hcm2.used (fun h => by rw [(hmU x hxm k k0 hlt2).1 h] at hu; cases hu)
          rw [show x.1 * 512 + (k + 1) = x.1 * 512 + k + 1 by omega]; exact this
        · have hfr := hcm2.free ((hmU x hxm k k0 hlt2).2 hu)
          rw [u64_id (n := run2 + 1) (by omega) (by omega)]
          refine CND_eq (fun e => ⟨s, rres_hdr H, ?_⟩) fun hne => ⟨⟨by trivial, by omega, by omega, ?_⟩, by omega⟩
          · rw [ha]
            simp only [NC_some]
            rw [e] at hfr
            refine ⟨hii, _, c1, LET_intro fun t ht => ?_⟩
            have hp0 : 0 ≤ x.1 * 512 + k + 1 - n := mem_pos hI.ok1 (hfr.1 _ (Int.le_refl _) (by omega))
            rw [u64_id (n := x.1 * 512) (by omega) (by omega), u64_id (n := x.1 * 512 + k) (by omega) (by omega), u64_id (n := x.1 * 512 + k + 1) (by omega) (by omega), u64_id (n := x.1 * 512 + k + 1 - n) (by omega) (by omega)] at ht
            have hf : findL (l 1) n = some t := by
              cases hf : findL (l 1) n with
              | none => exact absurd hfr.1 (findL_none hI.ok1 hpos hf _)
              | some q =>
                obtain ⟨g1, g2⟩ := findL_some hI.ok1 hpos hf
                have h1 := g2 _ hfr.1
                have h2 := hfr.2 q g1
                congr 1; omega
            rw [if_neg (by omega), hf] at hK'
            exact hK'
          · rw [show x.1 * 512 + (k + 1) = x.1 * 512 + k + 1 by omega]
            exact ⟨by omega, by omega, hfr.1, hfr.2⟩
      · have e : k = 512 := by omega
        subst e
        refine ⟨⟨by trivial, i + 1, by omega, by omega, .inr ⟨by omega, ⟨x, by simpa using hg, by trivial⟩, hpos, ?_⟩⟩, by omega⟩
        rw [show (x.1 + 1) * 512 = x.1 * 512 + 512 by omega]; exact hcm2
  · have e : n = 0 := by omega
    rw [if_pos e] at hK'
    exact hK'
  · have e : i = L.length := by omega
    by_cases en : n = 0
    · rw [if_pos en] at hK'; exact hK'
    · rw [if_neg en] at hK'
      have hf : findL (l 1) n = none := by
        cases hf : findL (l 1) n with
        | none => rfl
        | some q =>
          exfalso
          obtain ⟨g1, _⟩ := findL_some hI.ok1 (by omega) hf
          have h1 := g1 (q + n - 1) (by omega) (by omega)
          obtain ⟨y, hy, hy2⟩ := (hI.l0 _).1 ((hI.l1 _).1 h1).1
          obtain ⟨j, hj⟩ := List.mem_iff_getElem?.1 hy
          have hjl := (List.getElem?_eq_some_iff.1 hj).1
          rcases hc with ⟨h, _⟩ | ⟨_, ⟨c, hc1, hc3⟩, _, hcm⟩
          · omega
          · have h5 := hcm.2.2.2 q g1
            have h6 := hcm.2.1
            have h7 : y.1 ≤ c.1 := by
              by_cases e2 : j = i - 1
              · subst e2; rw [hc1] at hj; cases hj; exact Int.le_refl _
              · have := List.pairwise_iff_getElem.1 hI.srt j (i - 1) hjl (List.getElem?_eq_some_iff.1 hc1).1 (by omega)
                rw [(List.getElem?_eq_some_iff.1 hj).2, (List.getElem?_eq_some_iff.1 hc1).2] at this
                omega
            omega
      rw [hf] at hK'
      exact hK'

theorem ralloc_spec (H : Sat (RTree E r l :: Z) w) {n : Int} (hn : 0 ≤ n) (hn2 : n < 18446744073709551616) (hlk : ∀ p, n ≠ 0 → findL (l 1) n = some p → lookedR l p n true 32 = 0 ∧ 0 ≤ p ∧ p + n ≤ 34359738368) {K : Int → Int → Int → World → Prop}
    (hk0 : n = 0 → K 0 0 1 w) (hk1 : n ≠ 0 → findL (l 1) n = none → ∀ w', Sat (RTree E r l :: Z) w' → K 0 0 30 w')
    (hk2 : n ≠ 0 → ∀ p, findL (l 1) n = some p → ∀ w', (∀ l', l' 0 = l 0 → l' 1 = cutL (l 1) p (p + n) → l' 2 = cutL (l 2) p (p + n) → Sat (RTree E r l' :: Z) w') → K p (cnt (l 2) p (p + n)) 0 w') :
    F.mallowref9_Tree_Alloc E (some ⟨r, 0, none⟩) n K w := by
  unfold F.mallowref9_Tree_Alloc
  refine CND_eq hk0 fun hne => rFind_spec H hn hn2 fun w3 H3 => ?_
  rw [if_neg hne]
  cases hf : findL (l 1) n with
  | none => exact CND_t rfl (hk1 hne hf w3 H3)
  | some p =>
    obtain ⟨h1, h2, h3⟩ := hlk p hne hf
    refine CND_f rfl (rtake_spec H3 h2 (by show p < _; omega) hn hn2 (fun h => absurd h1 h) fun _ w' h => hk2 hne p hf w' h)

end
end Go.Sh

set_option linter.all false
set_option maxRecDepth 4000
set_option maxHeartbeats 1000000
namespace Go.Sh

theorem replicate_flags (n : Nat) (b : Bool) : List.replicate n (Value.bool b) = flags n fun _ => b := by
  apply List.ext_getElem?
  intro i
  rw [List.getElem?_replicate]
  by_cases h : i < n
  · rw [if_pos h, flags_get h]
  · rw [if_neg h, List.getElem?_eq_none (by rw [flags_len]; omega)]

section
variable {E : Env} {w : World} {Z : List Pr} {r : Nat} {l : Nat → Iv}

theorem Sat.rtreeNil {b : Nat} (H : Sat (Cells b E.t_mallowref9_Tree [.slice none 0 0] :: Z) w) (hl : ∀ i, l i = []) : Sat (RTree E b l :: Z) w := by
  have nm : ∀ i p, ¬ mem (l i) p := fun i p => by rw [hl]; exact mem_nil p
  refine Sat.rtree.2 ⟨⟨none, 0, 0⟩, [], fun _ => false, fun _ => false, ⟨List.Pairwise.nil, fun c hc => (by cases hc), by rw [hl]; trivial, by rw [hl]; trivial, by rw [hl]; trivial, fun p => ?_, fun p => ?_, fun p => ?_⟩, ?_⟩
  · exact ⟨fun h => absurd h (nm 0 p), fun ⟨c, hc, _⟩ => (by cases hc)⟩
  · exact ⟨fun h => absurd h (nm 1 p), fun h => absurd h.1 (nm 0 p)⟩
  · exact ⟨fun h => absurd h (nm 2 p), fun h => absurd h.1 (nm 0 p)⟩
  · have h1 := (H.nil E.t_mallowref9_Part 2)
    have h2 := h1.manyNil (ckP E (fun _ => false) fun _ => false)
    exact h2.perm (List.Perm.trans (.swap _ _ _) (List.Perm.trans (.cons _ (.swap _ _ _)) (.swap _ _ _)))

theorem ref8new_spec (H : Sat Z w) {c : Int} {U G : Int → Bool} (hU : ∀ k, 0 ≤ k → k < 512 → U (c * 512 + k) = false) (hG : ∀ k, 0 ≤ k → k < 512 → G (c * 512 + k) = true) {K : Option Addr → World → Prop}
    (hK : ∀ b w', Sat (ckP E U G (c, b) :: Z) w' → K (some ⟨b, 0, none⟩) w') : F.mallowref8_New E K w := by
  unfold F.mallowref8_New
  have e1 : (Array.replicate 1024 (Value.bool false)) = ⟨List.replicate 1024 (.bool false)⟩ := by apply Array.ext'; simp only [Array.toList_replicate]
  rw [e1]
  generalize hrep : List.replicate 1024 (Value.bool false) = rep
  have hl : rep.length = 1024 := by rw [← hrep]; exact List.length_replicate
  refine AL_cells H fun b w2 H2 _ => ?_
  rw [add_eq, Nat.zero_add]
  refine rput_spec H2 (o := 512) (by omega) (by decide) (by decide) (by decide) true fun w4 vs hvl hv H4 => hK b w4 ?_
  have e : vs = flags 512 (fun k => U ((c, b).1 * 512 + k)) ++ flags 512 (fun k => G ((c, b).1 * 512 + k)) := by
    apply List.ext_getElem?
    intro j
    rw [hv j]
    have h512 : (0 + 512 : Int).toNat = 512 := rfl
    have h0 : (0 : Int).toNat = 0 := rfl
    rw [h512, h0]
    by_cases g1 : j < 512
    · rw [if_neg (by omega), List.getElem?_append_left (by rw [flags_len]; omega), flags_get g1, ← hrep, List.getElem?_replicate, if_pos (by omega)]
      have := hU j (by omega) (by omega)
      dsimp only; rw [this]
    · by_cases g2 : j < 1024
      · rw [if_pos (by omega), List.getElem?_append_right (by rw [flags_len]; omega), flags_len, flags_get (by omega)]
        have := hG ((j - 512 : Nat) : Int) (by omega) (by omega)
        dsimp only; rw [this]
      · rw [if_neg (by omega), List.getElem?_eq_none (by omega), List.getElem?_eq_none (by rw [List.length_append, flags_len, flags_len]; omega)]
  rw [e] at H4
  exact H4

theorem rgrow_spec (H : Sat (RTree E r l :: Z) w) {c n : Int} (hc : 0 ≤ c) (hc2 : c < 18446744073709551616) (hn : 0 ≤ n) (hn2 : n < 18446744073709551616) {K : Int → World → Prop}
    (hk1 : (n = 0 ∨ 262144 < n ∨ 67108864 < c ∨ 67108864 - c < n) → K 1 w)
    (hk2 : ¬ (n = 0 ∨ 262144 < n ∨ 67108864 < c ∨ 67108864 - c < n) → cnt (l 0) (c * 512) ((c + n) * 512) ≠ 0 → ∀ w', Sat (RTree E r l :: Z) w' → K 34 w')
    (hk3 : ¬ (n = 0 ∨ 262144 < n ∨ 67108864 < c ∨ 67108864 - c < n) → cnt (l 0) (c * 512) ((c + n) * 512) = 0 → ∀ w', (∀ l', (∀ i, i < 3 → l' i = addL (l i) (c * 512) ((c + n) * 512)) → Sat (RTree E r l' :: Z) w') → K 0 w') :
    F.mallowref9_Tree_Grow E (some ⟨r, 0, none⟩) c n K w := by
  obtain ⟨s, L, U, G, hI, H⟩ := Sat.rtree.1 H
  have back : ∀ {w'}, Sat (rres E r s L U G ++ Z) w' → Sat (RTree E r l :: Z) w' := fun h => Sat.rtree.2 ⟨s, L, U, G, hI, h⟩
  unfold F.mallowref9_Tree_Grow
  refine JOIN_in (CND_eq (fun e j => CND_t rfl (hk1 (.inl e))) fun e1 => CND_dec (fun e j => CND_t rfl (hk1 (.inr (.inl e)))) fun e2 => CND_dec (fun e j => CND_t rfl (hk1 (.inr (.inr (.inl e))))) fun e3 => ?_)
  rw [u64_id (n := 67108864 - c) (by omega) (by omega)]
  refine fun j => CND_dec (fun e => hk1 (.inr (.inr (.inr e)))) fun e4 => ?_
  have hbad : ¬ (n = 0 ∨ 262144 < n ∨ 67108864 < c ∨ 67108864 - c < n) := by omega
  have hk2 := hk2 hbad
  have hk3 := hk3 hbad
  clear hk1
  have hll := sorted_len hI.srt hI.rng
  have hlen := rres_len H
  refine rfind_spec H fun w6 ok hok H6 => ?_
  clear hok
  have hple := posC_le L c
  have hc0 : cnt (l 0) (c * 512) ((c + n) * 512) = 0 ↔ ∀ y ∈ L, ¬ (c ≤ y.1 ∧ y.1 < c + n) := by
    rw [cnt_none hI.ok0 (by omega)]
    constructor
    · intro h y hy ⟨h1, h2⟩
      exact h (y.1 * 512) (by omega) (by omega) ((hI.l0 _).2 ⟨y, hy, by omega⟩)
    · intro h m h1 h2 hm
      obtain ⟨y, hy, hy2⟩ := (hI.l0 m).1 hm
      exact h y hy ⟨by omega, by omega⟩
  simp only [NC_some]
  refine JOIN_st (fun st w' => w' = w6 ∧ (st.1 = false → ∀ y, L[posC L c]? = some y → c + n ≤ y.1) ∧ (st.1 = true → cnt (l 0) (c * 512) ((c + n) * 512) ≠ 0)) ?_ ?_
  · refine ⟨s, rres_hdr H6, CND_dec (fun hlt => ⟨s, rres_hdr H6, ?_⟩) fun hge => ⟨rfl, fun _ y hy => ?_, fun e => by cases e⟩⟩
    · have hg := List.getElem?_eq_getElem (show posC L c < L.length by omega)
      obtain ⟨a, ha, hls, c1, _⟩ := rres_get H6 hg
      generalize L[posC L c] = x at hg c1
      rw [ha]
      simp only [NC_some, Int.toNat_natCast]
      rw [u64_id (n := c + n) (by omega) (by omega)]
      refine ⟨⟨by omega, by omega⟩, _, c1, by trivial, fun e y hy => ?_, fun e => ?_⟩
      · rw [hg] at hy; cases hy
        have := of_decide_eq_false e; omega
      · have h1 := of_decide_eq_true e
        have h2 := posC_at hg
        exact fun h => hc0.1 h x (List.mem_of_getElem? hg) ⟨h2, h1⟩
    · have := (List.getElem?_eq_some_iff.1 hy).1; omega
  rintro ⟨bt, v⟩ _ w9 ⟨rfl, hb0, hb1⟩
  dsimp only at hb0 hb1 ⊢
  refine CND_intro (fun e => hk2 (hb1 e) w9 (back H6)) fun e => ?_
  have hnext := hb0 e
  clear hb0 hb1
  have hfree : ∀ y ∈ L, ¬ (c ≤ y.1 ∧ y.1 < c + n) := by
    intro y hy ⟨h1, h2⟩
    obtain ⟨j, hj⟩ := List.mem_iff_getElem?.1 hy
    have hjl := (List.getElem?_eq_some_iff.1 hj).1
    by_cases g : j < posC L c
    · have := posC_before hj g; omega
    · have hg := List.getElem?_eq_getElem (show posC L c < L.length by omega)
      have h3 := hnext _ hg
      rcases Nat.lt_or_eq_of_le (Nat.le_of_not_lt g) with g2 | g2
      · have := List.pairwise_iff_getElem.1 hI.srt (posC L c) j (by omega) hjl g2
        rw [(List.getElem?_eq_some_iff.1 hj).2] at this
        omega
      · subst g2; rw [hj] at hg; rw [← Option.some.inj hg] at h3; omega
  have hcz := hc0.2 hfree
  clear hk2 hc0
  -- the pages of the new chunks
  generalize hU' : (fun p : Int => if c * 512 ≤ p ∧ p < (c + n) * 512 then false else U p) = U'
  generalize hG' : (fun p : Int => if c * 512 ≤ p ∧ p < (c + n) * 512 then true else G p) = G'
  have hUn : ∀ d k, c ≤ d → d < c + n → 0 ≤ k → k < 512 → U' (d * 512 + k) = false ∧ G' (d * 512 + k) = true := fun d k h1 h2 h3 h4 => by
    rw [← hU', ← hG']; dsimp only; rw [if_pos (by omega), if_pos (by omega)]; exact ⟨rfl, rfl⟩
  have hUo : ∀ y ∈ L, ckP E U G y = ckP E U' G' y := fun y hy => by
    have hno := hfree y hy
    unfold ckP
    congr 2
    · refine flags_congr fun k h0 h1 => ?_
      rw [← hU']; dsimp only; rw [if_neg (by omega)]
    · refine flags_congr fun k h0 h1 => ?_
      rw [← hG']; dsimp only; rw [if_neg (by omega)]
  have H6' : Sat (Many (ckP E U' G') L :: Cells r E.t_mallowref9_Tree [.slice s.base s.len s.cap] :: Row E.t_mallowref9_Part 2 s (parts L) :: Z) w9 := by
    rw [← Many.congr hUo]; exact H6.front 2 rfl
  refine AL_rows (n := 0) (z := 2) H6' rfl (by decide) fun b16 w17 H17 => ?_
  have hrowL := (H17.front 3 rfl).rowAll
  have hlp : (parts L).length = s.len * 2 := by rw [parts_len, hlen]
  refine ⟨s, (H17.front 2 rfl).cell0 rfl, ⟨by omega, by have := (H17.front 3 rfl).own.cap; omega⟩, ?_⟩
  rw [slB_zero, Int.toNat_natCast]
  have htk : rowAt w17 s.base (posC L c * 2) (parts (L.take (posC L c))) := by
    have := rowAt_take hrowL (m := posC L c * 2) (by omega) hlp
    rwa [parts_take] at this
  refine APP_row (x := ⟨s.base, posC L c, s.cap⟩) (news := parts (L.take (posC L c))) H17 rfl htk (by rw [parts_len, List.length_take]; show min (posC L c) L.length * 2 = posC L c * 2; rw [Nat.min_eq_left hple]) (parts_one _) (by dsimp only; omega) (by dsimp only; omega) fun s20 w21 H21 hs20 => ?_
  rw [List.nil_append] at H21
  have hs20 : s20.len = posC L c := by rw [hs20]; show 0 + posC L c = _; omega
  refine LOOP_intro (fun st w' => ∃ (k : Nat) (M : CL), st.2.1 = (k : Int) ∧ (k : Int) ≤ n ∧ M.length = k ∧ (∀ (j : Nat) y, M[j]? = some y → y.1 = c + j) ∧ st.1.len = posC L c + k ∧
      Sat (Row E.t_mallowref9_Part 2 st.1 (parts (L.take (posC L c) ++ M)) :: Many (ckP E U' G') M :: Many (ckP E U' G') L :: Cells r E.t_mallowref9_Tree [.slice s.base s.len s.cap] :: Row E.t_mallowref9_Part 2 s (parts L) :: Z) w') (fun st _ => (n - st.2.1).toNat)
    ⟨0, [], rfl, by show (0 : Int) ≤ n; omega, rfl, fun j y h => (by cases h), hs20, by rw [List.append_nil]; exact (H21.manyNil (ckP E U' G')).perm (.swap _ _ _)⟩ ?_
  rintro ⟨s22, k', v⟩ _ w23 ⟨k, M, hk, hkn, hM, hMc, hs22, H23⟩
  dsimp only at hk hs22 H23 ⊢
  subst hk
  refine CND_dec (fun hlt => ?_) fun hge => ?_
  · refine ref8new_spec H23 (c := c + k) (U := U') (G := G') (fun i h0 h1 => (hUn (c + k) i (by omega) (by omega) h0 h1).1) (fun i h0 h1 => (hUn (c + k) i (by omega) (by omega) h0 h1).2) fun b w26 H26 => ?_
    rw [u64_id (n := c + (k : Int)) (by omega) (by omega), u64_id (n := (k : Int) + 1) (by omega) (by omega)]
    refine AL_cells H26 fun b27 w28 H28 _ => ?_
    refine APP_one (news := [.int .u64 (c + k), .pointer (some ⟨b, 0, none⟩)]) (H28.front2 1 rfl) rfl rfl (by simp [Value.oneCell']) (by omega) (by omega) fun s29 w30 H30 hs29 => ?_
    have ep : parts (L.take (posC L c) ++ M) ++ [Value.int .u64 (c + k), .pointer (some ⟨b, 0, none⟩)] = parts (L.take (posC L c) ++ (M ++ [(c + (k : Int), b)])) := by
      rw [← List.append_assoc, parts_app (L.take (posC L c) ++ M)]; rfl
    rw [ep] at H30
    refine ⟨⟨k + 1, M ++ [(c + (k : Int), b)], by omega, by omega, by simp [hM], fun j y hj => ?_, by omega, ?_⟩, by omega⟩
    · rw [List.getElem?_append] at hj
      split at hj
      · exact hMc j y hj
      · rename_i hj2
        have : j = M.length := by
          have := (List.getElem?_eq_some_iff.1 hj).1
          simp at this; omega
        subst this
        rw [Nat.sub_self] at hj
        cases hj
        show c + (k : Int) = c + (M.length : Nat)
        rw [hM]
    · have h1 : Sat (ckP E U' G' (c + (k : Int), b) :: Many (ckP E U' G') M :: Row E.t_mallowref9_Part 2 s29 (parts (L.take (posC L c) ++ (M ++ [(c + (k : Int), b)]))) :: Many (ckP E U' G') L :: Cells r E.t_mallowref9_Tree [.slice s.base s.len s.cap] :: Row E.t_mallowref9_Part 2 s (parts L) :: Z) w30 :=
        H30.perm (List.Perm.trans (.swap _ _ _) (.cons _ (.swap _ _ _)))
      exact h1.manySnoc.perm (.swap _ _ _)
  · have hkn' : (k : Int) = n := by omega
    have hrowL2 := (H23.front 4 rfl).rowAll
    refine ⟨s, (H23.front 3 rfl).cell0 rfl, ⟨by omega, by omega⟩, ?_⟩
    have hcap := (H23.front 4 rfl).own.cap
    have hdr : rowAt w23 (slB s.base s.cap (posC L c) 2) ((s.len - posC L c) * 2) (parts (L.drop (posC L c))) := by
      have := rowAt_drop (z := 2) hrowL2 rfl (k := posC L c) (by omega) hcap hlp
      rwa [parts_drop] at this
    refine APP_row (x := ⟨slB s.base s.cap (posC L c) 2, s.len - posC L c, s.cap - posC L c⟩) (news := parts (L.drop (posC L c))) H23 rfl hdr (by rw [parts_len, List.length_drop]; show _ = (s.len - posC L c) * 2; rw [hlen]) (parts_one _) (by dsimp only; omega) (by dsimp only; omega) fun s33 w34 H34 hs33 => ?_
    rw [← parts_app] at H34
    have H35 := (H34.front 3 rfl)
    refine st_cell0 H35 (o := 0) rfl (by simp) fun w36 H36 => hk3 hcz w36 fun l' hl' => ?_
    simp only [List.set] at H36
    generalize hN : L.take (posC L c) ++ M ++ L.drop (posC L c) = N at H36
    have hNp : (M ++ L).Perm N := by
      rw [← hN, List.append_assoc]
      have h1 : (M ++ L).Perm (M ++ (L.take (posC L c) ++ L.drop (posC L c))) := by rw [List.take_append_drop]
      refine h1.trans ?_
      rw [← List.append_assoc, ← List.append_assoc]
      exact List.perm_append_comm.append_right _
    have hNm : ∀ y, y ∈ N ↔ y ∈ M ∨ y ∈ L := fun y => by rw [← hNp.mem_iff, List.mem_append]
    have hMr : ∀ y ∈ M, c ≤ y.1 ∧ y.1 < c + n := fun y hy => by
      obtain ⟨j, hj⟩ := List.mem_iff_getElem?.1 hy
      have := (List.getElem?_eq_some_iff.1 hj).1
      have := hMc j y hj
      omega
    have a0 := addL_spec hI.ok0 (a := c * 512) (b := (c + n) * 512) (by omega) (by omega) (by omega)
    have a1 := addL_spec hI.ok1 (a := c * 512) (b := (c + n) * 512) (by omega) (by omega) (by omega)
    have a2 := addL_spec hI.ok2 (a := c * 512) (b := (c + n) * 512) (by omega) (by omega) (by omega)
    rw [← hl' 0 (by decide)] at a0
    rw [← hl' 1 (by decide)] at a1
    rw [← hl' 2 (by decide)] at a2
    refine Sat.rtree.2 ⟨s33, N, U', G', ⟨?_, fun y hy => ?_, a0.1, a1.1, a2.1, fun p => ?_, fun p => ?_, fun p => ?_⟩, ?_⟩
    · rw [← hN]
      unfold SortedC
      rw [List.append_assoc, List.pairwise_append, List.pairwise_append]
      refine ⟨hI.srt.sublist (List.take_sublist _ _), ⟨?_, hI.srt.sublist (List.drop_sublist _ _), ?_⟩, ?_⟩
      · rw [List.pairwise_iff_getElem]
        intro i j hi hj hij
        have h1 := hMc i _ (List.getElem?_eq_getElem hi)
        have h2 := hMc j _ (List.getElem?_eq_getElem hj)
        omega
      · intro a ha d hd
        have := hMr a ha
        obtain ⟨j, hj⟩ := List.mem_iff_getElem?.1 hd
        rw [List.getElem?_drop] at hj
        have h2 := posC_after hI.srt hj (n := c) (by omega)
        have h3 := hfree d (List.mem_of_getElem? hj)
        omega
      · intro a ha d hd
        obtain ⟨j, hj⟩ := List.mem_iff_getElem?.1 ha
        rw [List.getElem?_take] at hj
        split at hj
        · rename_i hj2
          have h1 := posC_before hj hj2
          rcases List.mem_append.1 hd with hd | hd
          · have := hMr d hd; omega
          · obtain ⟨i, hi⟩ := List.mem_iff_getElem?.1 hd
            rw [List.getElem?_drop] at hi
            have h2 := posC_after hI.srt hi (n := c) (by omega)
            omega
        · cases hj
    · rcases (hNm y).1 hy with h | h
      · have := hMr y h; omega
      · exact hI.rng y h
    · rw [a0.2.1, hI.l0]
      constructor
      · rintro (⟨y, hy, hy2⟩ | ⟨h1, h2⟩)
        · exact ⟨y, (hNm y).2 (.inr hy), hy2⟩
        · have hg := List.getElem?_eq_getElem (l := M) (i := (p / 512 - c).toNat) (by omega)
          exact ⟨_, (hNm _).2 (.inl (List.mem_of_getElem? hg)), by rw [hMc _ _ hg]; omega⟩
      · rintro ⟨y, hy, hy2⟩
        rcases (hNm y).1 hy with h | h
        · have := hMr y h; exact .inr (by omega)
        · exact .inl ⟨y, h, hy2⟩
    · rw [a1.2.1, a0.2.1, hI.l1, ← hU']
      dsimp only
      by_cases e : c * 512 ≤ p ∧ p < (c + n) * 512
      · rw [if_pos e]; simp [e]
      · rw [if_neg e]; simp [e]
    · rw [a2.2.1, a0.2.1, hI.l2, ← hG']
      dsimp only
      by_cases e : c * 512 ≤ p ∧ p < (c + n) * 512
      · rw [if_pos e]; simp [e]
      · rw [if_neg e]; simp [e]
    · have h1 : Sat (Many (ckP E U' G') M :: Many (ckP E U' G') L :: Cells r E.t_mallowref9_Tree [.slice s33.base s33.len s33.cap] :: Row E.t_mallowref9_Part 2 s33 (parts N) :: Row E.t_mallowref9_Part 2 s (parts L) :: Z) w36 :=
        H36.perm (List.Perm.trans (List.Perm.trans (.cons _ (.swap _ _ _)) (.swap _ _ _)) (.cons _ (List.Perm.trans (.cons _ (.swap _ _ _)) (.swap _ _ _))))
      have h2 := (Sat.manyApp.2 h1).manyPerm hNp
      exact (h2.front 3 rfl).tail.perm (List.Perm.trans (.swap _ _ _) (.cons _ (.swap _ _ _)))

end
end Go.Sh

set_option linter.all false
set_option maxRecDepth 4000
set_option maxHeartbeats 1000000
namespace Go.Sh

section
variable {E : Env} {w : World} {Z : List Pr} {r : Nat} {l : Nat → Iv}

/-- A chunk releases. -/
theorem cscav_spec {U G : Int → Bool} {c : Int × Nat} (H : Sat (ckP E U G c :: Z) w) {n : Int} (hn : 0 ≤ n) (hn2 : n ≤ 512) {K : Int → Int → World → Prop}
    (hk0 : n < 1 ∨ (∀ k, 0 ≤ k → k < 512 → (U (c.1 * 512 + k) || G (c.1 * 512 + k)) = true) → ∀ w', Sat (ckP E U G c :: Z) w' → K 0 0 w')
    (hk1 : 1 ≤ n → ∀ e i, 0 ≤ i → i ≤ e → e < 512 → (∀ k, e < k → k < 512 → (U (c.1 * 512 + k) || G (c.1 * 512 + k)) = true) → (∀ k, i ≤ k → k ≤ e → (U (c.1 * 512 + k) || G (c.1 * 512 + k)) = false) → e - i + 1 ≤ n →
      (e - i + 1 = n ∨ i = 0 ∨ (U (c.1 * 512 + (i - 1)) || G (c.1 * 512 + (i - 1))) = true) → ∀ w', Sat (ckP E U (fun p => if c.1 * 512 + i ≤ p ∧ p ≤ c.1 * 512 + e then true else G p) c :: Z) w' → K i (e - i + 1) w') :
    F.mallowref8_Chunk_Scavenge E (some ⟨c.2, 0, none⟩) n K w := by
  unfold F.mallowref8_Chunk_Scavenge
  simp only [NC_some, Nat.mul_one]
  have e1 : (Array.replicate 512 (Value.bool false)) = ⟨flags 512 fun _ => false⟩ := by apply Array.ext'; simp only [Array.toList_replicate]; exact replicate_flags 512 false
  rw [e1]
  refine AL_cells H fun b1 w2 H2 _ => ?_
  have hwin : ∀ (v : Int → Bool), Win (flags 512 v) 0 v := fun v => ⟨by rw [flags_len]; omega, fun k h0 h1 => flags_getI (n := 512) h0 h1⟩
  refine LOOP_intro (fun st w' => 0 ≤ st.1 ∧ st.1 ≤ 512 ∧ Sat (Cells b1 E.t_mallowref6_Row (flags 512 fun k => if k < st.1 then (U (c.1 * 512 + k) || G (c.1 * 512 + k)) else false) :: ckP E U G c :: Z) w') (fun st _ => (512 - st.1).toNat) ⟨by decide, by decide, ?_⟩ ?_
  · have : (flags 512 fun k => if k < (0 : Int) then (U (c.1 * 512 + k) || G (c.1 * 512 + k)) else false) = flags 512 fun _ => false := flags_congr fun k h0 _ => by rw [if_neg (by omega)]
    dsimp only; rw [this]; exact H2
  rintro ⟨i, v⟩ _ w4 ⟨i0, i1, H4⟩
  dsimp only at i0 i1 H4 ⊢
  refine CND_dec (fun hlt => ?_) fun hge => ?_
  · have hU := (H4.front 1 rfl).cell ((ck_win0 (U := U) (G := G) c).2 i i0 hlt)
    have hG := (H4.front 1 rfl).cell (o := 512) ((ck_win1 (U := U) (G := G) c).2 i i0 hlt)
    have hG' : w4.cell? (((Addr.mk c.2 0 none).add 512).add i.toNat) = some (.bool (G (c.1 * 512 + i))) := by rw [add_eq c.2 0 512, Nat.zero_add]; exact hG
    rw [i64_id (n := i + 1) (by omega) (by omega)]
    have hstep : ∀ w', Sat (Cells b1 E.t_mallowref6_Row ((flags 512 fun k => if k < i then (U (c.1 * 512 + k) || G (c.1 * 512 + k)) else false).set (0 + i.toNat) (.bool (U (c.1 * 512 + i) || G (c.1 * 512 + i)))) :: ckP E U G c :: Z) w' →
        (0 ≤ i + 1 ∧ i + 1 ≤ 512 ∧ Sat (Cells b1 E.t_mallowref6_Row (flags 512 fun k => if k < i + 1 then (U (c.1 * 512 + k) || G (c.1 * 512 + k)) else false) :: ckP E U G c :: Z) w') ∧ (512 - (i + 1)).toNat < (512 - i).toNat := fun w' h => by
      refine ⟨⟨by omega, by omega, ?_⟩, by omega⟩
      rw [flags_set i0] at h
      have : (flags 512 fun k => if k < i + 1 then (U (c.1 * 512 + k) || G (c.1 * 512 + k)) else false) = flags 512 fun j => if j = i then (U (c.1 * 512 + i) || G (c.1 * 512 + i)) else if j < i then (U (c.1 * 512 + j) || G (c.1 * 512 + j)) else false := flags_congr fun k _ _ => by
        by_cases e : k = i
        · rw [if_pos e, if_pos (by omega), e]
        · rw [if_neg e]
          by_cases e2 : k < i
          · rw [if_pos e2, if_pos (by omega)]
          · rw [if_neg e2, if_neg (by omega)]
      rw [this]; exact h
    refine ⟨⟨i0, hlt⟩, _, hU, CND_intro (fun e => ⟨⟨i0, hlt⟩, st_cell H4 rfl (by rw [flags_len]; omega) fun w8 H8 => hstep w8 ?_⟩) fun e => ⟨⟨i0, hlt⟩, _, hG', ⟨i0, hlt⟩, st_cell H4 rfl (by rw [flags_len]; omega) fun w11 H11 => hstep w11 ?_⟩⟩
    · have e' : U (c.1 * 512 + i) = true := e
      rw [e', Bool.true_or]; exact H8
    · have e' : U (c.1 * 512 + i) = false := e
      rw [e', Bool.false_or]; exact H11
  · have e512 : i = 512 := by omega
    subst e512
    have ef : (flags 512 fun k => if k < (512 : Int) then (U (c.1 * 512 + k) || G (c.1 * 512 + k)) else false) = flags 512 fun k => (U (c.1 * 512 + k) || G (c.1 * 512 + k)) := flags_congr fun k _ h => by rw [if_pos (by omega)]
    rw [ef] at H4
    have hG1 : ∀ {w'}, Sat (Cells b1 E.t_mallowref6_Row (flags 512 fun k => (U (c.1 * 512 + k) || G (c.1 * 512 + k))) :: ckP E U G c :: Z) w' → Sat (ckP E U G c :: Z) w' := fun h => h.tail
    have hlen : ∀ (A B : Int → Bool), (flags 512 A ++ flags 512 B).length = 1024 := fun A B => by rw [List.length_append, flags_len, flags_len]
    refine rlast_spec H4 (hwin _) (by omega) (by omega) (fun hor => ?_) fun hn1 e i h0 h1 h2 h3 h4 h5 h6 => ?_
    · rw [add_eq c.2 0 512, Nat.zero_add]
      refine rput_spec (hG1 H4) (o := 512) (by rw [hlen]; omega) (by omega) (by omega) (by omega) true fun w17 vs' hl hv H17 => hk0 hor w17 ?_
      have : vs' = flags 512 (fun k => U (c.1 * 512 + k)) ++ flags 512 (fun k => G (c.1 * 512 + k)) := by
        apply List.ext_getElem?
        intro j
        rw [hv j, if_neg (by omega)]
      rw [this] at H17
      exact H17
    · rw [add_eq c.2 0 512, Nat.zero_add]
      refine rput_spec (hG1 H4) (o := 512) (by rw [hlen]; omega) (by omega) (by omega) (by omega) true fun w17 vs' hl hv H17 => hk1 hn1 e i h0 h1 h2 h3 h4 h5 h6 w17 ?_
      have : vs' = flags 512 (fun k => U (c.1 * 512 + k)) ++ flags 512 (fun k => if c.1 * 512 + i ≤ c.1 * 512 + k ∧ c.1 * 512 + k ≤ c.1 * 512 + e then true else G (c.1 * 512 + k)) := by
        apply List.ext_getElem?
        intro j
        rw [hv j]
        by_cases g1 : j < 512
        · rw [if_neg (by omega), List.getElem?_append_left (by rw [flags_len]; omega), List.getElem?_append_left (by rw [flags_len]; omega)]
        · by_cases g2 : j < 1024
          · rw [List.getElem?_append_right (by rw [flags_len]; omega), List.getElem?_append_right (by rw [flags_len]; omega), flags_len, flags_get (by omega), flags_get (by omega)]
            by_cases g3 : 512 + i.toNat ≤ j ∧ j < 512 + (i + (e - i + 1)).toNat
            · rw [if_pos g3, if_pos (by omega)]
            · rw [if_neg g3, if_neg (by omega)]
          · rw [if_neg (by omega), List.getElem?_eq_none (by rw [hlen]; omega), List.getElem?_eq_none (by rw [hlen]; omega)]
      rw [this] at H17
      exact H17

theorem rscav_spec (H : Sat (RTree E r l :: Z) w) (hT : TInv l) (hok3 : Ok (l 3)) {n : Int} (hn : 0 ≤ n) (hn2 : n < 18446744073709551616) {K : Int → Int → World → Prop}
    (hk1 : l 3 = [] ∨ n = 0 → ∀ w', Sat (RTree E r l :: Z) w' → K 0 0 w')
    (hk2 : n ≠ 0 → ∀ q m, l 3 = m ++ [q] → ∀ p k, k = min (q.2 - max q.1 ((q.2 - 1) / 512 * 512)) n → p = q.2 - k → ∀ w', (∀ l', l' 0 = l 0 → l' 1 = l 1 → l' 2 = addL (l 2) p (p + k) → Sat (RTree E r l' :: Z) w') → K p k w') :
    F.mallowref9_Tree_Scavenge E (some ⟨r, 0, none⟩) n K w := by
  obtain ⟨s, L, U, G, hI, H⟩ := Sat.rtree.1 H
  have back : ∀ {w'}, Sat (rres E r s L U G ++ Z) w' → Sat (RTree E r l :: Z) w' := fun h => Sat.rtree.2 ⟨s, L, U, G, hI, h⟩
  unfold F.mallowref9_Tree_Scavenge
  simp only [NC_some]
  have hll := sorted_len hI.srt hI.rng
  have hlen := rres_len H
  have hidle : ∀ c ∈ L, ∀ k, 0 ≤ k → k < 512 → (mem (l 3) (c.1 * 512 + k) ↔ (U (c.1 * 512 + k) || G (c.1 * 512 + k)) = false) := fun c hc k h0 h1 => by
    have hm : mem (l 0) (c.1 * 512 + k) := (hI.l0 _).2 ⟨c, hc, by omega⟩
    rw [hT.idle, hI.l1, hI.l2, Bool.or_eq_false_iff]
    simp [hm]
  have hin3 : ∀ p, mem (l 3) p → ∃ c ∈ L, c.1 = p / 512 := fun p hp => (hI.l0 p).1 ((hI.l1 p).1 ((hT.idle p).1 hp).1).1
  refine JOIN_st (fun st w' => w' = w ∧ st.1 = min n 512) ?_ ?_
  · exact CND_dec (fun h => ⟨rfl, by dsimp only; omega⟩) fun h => ⟨rfl, by dsimp only; omega⟩
  rintro ⟨mo, v⟩ _ w3 ⟨rfl, hmo⟩
  dsimp only at hmo ⊢
  subst hmo
  refine ⟨s, rres_hdr H, LET_intro fun i0 hi0 => ?_⟩
  rw [i64_id (n := (s.len : Int) - 1) (by omega) (by omega)] at hi0
  rw [i64_id (n := min n 512) (by omega) (by omega)]
  refine LOOP_intro (fun st w' => -1 ≤ st.1 ∧ st.1 < L.length ∧ (n = 0 ∨ ∀ (j : Nat) c, st.1 < (j : Int) → L[j]? = some c → ∀ k, 0 ≤ k → k < 512 → ¬ mem (l 3) (c.1 * 512 + k)) ∧ Sat (rres E r s L U G ++ Z) w') (fun st _ => (st.1 + 1).toNat)
    ⟨by dsimp only; omega, by dsimp only; omega, .inr fun j c hj hc => by have := (List.getElem?_eq_some_iff.1 hc).1; dsimp only at hj; omega, H⟩ ?_
  rintro ⟨i, v⟩ _ w8 ⟨i1, i2, hno, H8⟩
  dsimp only at i1 i2 hno ⊢
  refine CND_dec (fun hge => ⟨s, rres_hdr H8, ?_⟩) fun hlt => ?_
  · have hg := List.getElem?_eq_getElem (show i.toNat < L.length by omega)
    obtain ⟨a, ha, hls, c1, c2⟩ := rres_get H8 hg
    generalize L[i.toNat] = c at hg c1 c2
    have hcm := List.mem_of_getElem? hg
    have hcr := hI.rng c hcm
    rw [ha]
    simp only [NC_some]
    have hii : (0 : Int) ≤ i ∧ i < (s.len : Int) := ⟨hge, by omega⟩
    refine ⟨hii, _, c2, ?_⟩
    refine cscav_spec (rres_chunk H8 hg) (by omega) (by omega) (fun hor w16 H16 => ?_) fun hn1 e i' h0 h1 h2 h3 h4 h5 h6 w16 H16 => ?_
    · refine CND_f (by decide) ?_
      rw [i64_id (n := i - 1) (by omega) (by omega)]
      refine ⟨⟨by omega, by omega, ?_, ?_⟩, by omega⟩
      · rcases hno with h | h
        · exact .inl h
        rcases hor with h' | h'
        · left; omega
        · right
          intro j c' hj hc' k k0 k1 hm
          by_cases ej : (j : Int) = i
          · have : j = i.toNat := by omega
            subst this
            rw [hg] at hc'; cases hc'
            have := h' k k0 k1
            rw [(hidle c hcm k k0 k1).1 hm] at this
            cases this
          · exact h j c' (by omega) hc' k k0 k1 hm
      · have h7 := H16.manyBack hg
        exact h7.perm (List.Perm.trans (.swap _ _ _) (.cons _ (.swap _ _ _)))
    · have hn0 : n ≠ 0 := by omega
      have hno' : ∀ (j : Nat) c, i < (j : Int) → L[j]? = some c → ∀ k, 0 ≤ k → k < 512 → ¬ mem (l 3) (c.1 * 512 + k) := hno.resolve_left hn0
      refine CND_t (decide_eq_true (by omega)) ?_
      have hown := (H16.front 3 rfl).own
      refine ⟨s, (H16.front 2 rfl).cell0 rfl, ?_⟩
      rw [ha]
      simp only [NC_some]
      refine ⟨hii, _, hown.cell ha (parts_get L hg).1, LET_intro fun t ht => ?_⟩
      rw [u64_id (n := c.1 * 512) (by omega) (by omega), u64_id (n := i') (by omega) (by omega), u64_id (n := c.1 * 512 + i') (by omega) (by omega)] at ht
      rw [u64_id (n := e - i' + 1) (by omega) (by omega)]
      -- the last idle page
      have hme : mem (l 3) (c.1 * 512 + e) := (hidle c hcm e (by omega) h2).2 (h4 e h1 (Int.le_refl _))
      have hmi : ∀ k, i' ≤ k → k ≤ e → mem (l 3) (c.1 * 512 + k) := fun k k0 k1 => (hidle c hcm k (by omega) (by omega)).2 (h4 k k0 k1)
      have htop : ∀ p, mem (l 3) p → p ≤ c.1 * 512 + e := fun p hp => by
        obtain ⟨y, hy, hy2⟩ := hin3 p hp
        obtain ⟨j, hj⟩ := List.mem_iff_getElem?.1 hy
        rcases Int.lt_trichotomy (j : Int) i with g | g | g
        · have := List.pairwise_iff_getElem.1 hI.srt j i.toNat (List.getElem?_eq_some_iff.1 hj).1 (List.getElem?_eq_some_iff.1 hg).1 (by omega)
          rw [(List.getElem?_eq_some_iff.1 hj).2, (List.getElem?_eq_some_iff.1 hg).2] at this
          omega
        · have : j = i.toNat := by omega
          subst this
          rw [hg] at hj; cases hj
          refine Classical.byContradiction fun g2 => ?_
          have h7 := (hidle c hcm (p - c.1 * 512) (by omega) (by omega)).1 (by rwa [show c.1 * 512 + (p - c.1 * 512) = p by omega])
          rw [h3 (p - c.1 * 512) (by omega) (by omega)] at h7
          cases h7
        · have h7 := hno' j y g hj (p - y.1 * 512) (by omega) (by omega)
          rw [show y.1 * 512 + (p - y.1 * 512) = p by omega] at h7
          exact absurd hp h7
      obtain ⟨m, q, hmq⟩ : ∃ m q, l 3 = m ++ [q] := by
        rcases List.eq_nil_or_concat (l 3) with h | ⟨m, q, h⟩
        · rw [h] at hme; exact absurd hme (mem_nil _)
        · exact ⟨m, q, by rw [h, List.concat_eq_append]⟩
      have hokq : Ok (m ++ [q]) := by rw [← hmq]; exact hok3
      obtain ⟨_, hokq1, hmlt⟩ := Ok_append.1 hokq
      have hq1 := hokq1.mem List.mem_cons_self
      have hqm : ∀ p, q.1 ≤ p → p < q.2 → mem (l 3) p := fun p a b => by rw [hmq, mem_append]; exact .inr (mem_cons.2 (.inl ⟨a, b⟩))
      have hq2 : q.2 = c.1 * 512 + e + 1 := by
        have g1 := htop (q.2 - 1) (hqm _ (by omega) (by omega))
        rw [hmq, mem_append] at hme
        rcases hme with ⟨y, hy, hy1, hy2⟩ | hme
        · have := hmlt y hy q (by simp); omega
        · rcases mem_cons.1 hme with h | h
          · omega
          · exact absurd h (mem_nil _)
      have hrun : q.1 ≤ c.1 * 512 + i' := by
        obtain ⟨y, hy, hy1, hy2⟩ := mem_run hok3 (a := c.1 * 512 + i') (b := c.1 * 512 + e + 1) (by omega) fun p a b => by
          have := hmi (p - c.1 * 512) (by omega) (by omega)
          rwa [show c.1 * 512 + (p - c.1 * 512) = p by omega] at this
        rw [hmq, List.mem_append] at hy
        rcases hy with hy | hy
        · have := hmlt y hy q (by simp); omega
        · rw [List.mem_singleton] at hy; subst hy; exact hy1
      have hdiv : (q.2 - 1) / 512 * 512 = c.1 * 512 := by omega
      have hk : e - i' + 1 = min (q.2 - max q.1 ((q.2 - 1) / 512 * 512)) n := by
        rw [hdiv]
        rcases h6 with h | h | h
        · by_cases g : n ≤ 512
          · omega
          · omega
        · omega
        · by_cases g : i' = 0
          · omega
          · have : ¬ mem (l 3) (c.1 * 512 + (i' - 1)) := fun hm => by
              rw [(hidle c hcm (i' - 1) (by omega) (by omega)).1 hm] at h; cases h
            have h8 : ¬ (q.1 ≤ c.1 * 512 + (i' - 1)) := fun g => this (hqm _ g (by omega))
            omega
      have hin2 : ∀ p, c.1 * 512 + i' ≤ p → p ≤ c.1 * 512 + e → mem (l 3) p := fun p a b => by
        have := hmi (p - c.1 * 512) (by omega) (by omega)
        rwa [show c.1 * 512 + (p - c.1 * 512) = p by omega] at this
      subst ht
      refine hk2 hn0 q m hmq (c.1 * 512 + i') (e - i' + 1) hk (by omega) w16 fun l' l0 l1 l2 => ?_
      have a2 := addL_spec hI.ok2 (a := c.1 * 512 + i') (b := c.1 * 512 + i' + (e - i' + 1)) (by omega) (by omega) (by omega)
      rw [← l2] at a2
      refine Sat.rtree.2 ⟨s, L, U, fun p => if c.1 * 512 + i' ≤ p ∧ p ≤ c.1 * 512 + e then true else G p, ⟨hI.srt, hI.rng, by rw [l0]; exact hI.ok0, by rw [l1]; exact hI.ok1, a2.1, by rw [l0]; exact hI.l0, by rw [l0, l1]; exact hI.l1, fun p => ?_⟩, ?_⟩
      · rw [a2.2.1, hI.l2, l0]
        by_cases g : c.1 * 512 + i' ≤ p ∧ p ≤ c.1 * 512 + e
        · rw [if_pos g]
          have := (hI.l1 p).1 ((hT.idle p).1 (hin2 p g.1 g.2)).1
          simp [this.1]; omega
        · rw [if_neg g]
          constructor
          · rintro (h | h)
            · exact h
            · omega
          · exact fun h => .inl h
      · have em : Many (ckP E U G) (L.eraseIdx i.toNat) = Many (ckP E U fun p => if c.1 * 512 + i' ≤ p ∧ p ≤ c.1 * 512 + e then true else G p) (L.eraseIdx i.toNat) := by
          refine Many.congr fun y hy => ?_
          have hne : y.1 ≠ c.1 := by
            intro e
            obtain ⟨j, hj⟩ := List.mem_iff_getElem?.1 hy
            rw [List.getElem?_eraseIdx] at hj
            have hil := (List.getElem?_eq_some_iff.1 hg).1
            split at hj
            · rename_i hjl
              have := List.pairwise_iff_getElem.1 hI.srt j i.toNat (by omega) hil hjl
              rw [(List.getElem?_eq_some_iff.1 hj).2, (List.getElem?_eq_some_iff.1 hg).2] at this
              omega
            · rename_i hjl
              obtain ⟨h3, h4⟩ := List.getElem?_eq_some_iff.1 hj
              have := List.pairwise_iff_getElem.1 hI.srt i.toNat (j + 1) hil h3 (by omega)
              rw [h4, (List.getElem?_eq_some_iff.1 hg).2] at this
              omega
          unfold ckP
          congr 2
          refine flags_congr fun k k0 k1 => ?_
          dsimp only
          rw [if_neg (by omega)]
        rw [em] at H16
        exact (H16.manyBack hg).perm (List.Perm.trans (.swap _ _ _) (.cons _ (.swap _ _ _)))
  · refine hk1 ?_ w8 (back H8)
    rcases hno with h | h
    · exact .inr h
    · left
      cases h3 : l 3 with
      | nil => rfl
      | cons y t =>
        exfalso
        have hy := hok3.mem (p := y) (by rw [h3]; simp)
        have hm : mem (l 3) y.1 := ⟨y, by rw [h3]; simp, Int.le_refl _, hy.2.1⟩
        obtain ⟨c, hc, hc2⟩ := hin3 _ hm
        obtain ⟨j, hj⟩ := List.mem_iff_getElem?.1 hc
        have := h j c (by omega) hj (y.1 - c.1 * 512) (by omega) (by omega)
        rw [show c.1 * 512 + (y.1 - c.1 * 512) = y.1 by omega] at this
        exact this hm

end
end Go.Sh

set_option linter.all false
set_option maxRecDepth 4000
set_option maxHeartbeats 1000000
namespace Go.Sh

section
variable {E : Env} {w : World} {Z : List Pr} {r : Nat} {l : Nat → Iv}

/-- What has been counted ahead of a chunk, and what has behind it. -/
theorem gap_sum {L : CL} (hs : SortedC L) {m : Iv} (hm : Ok m) (hin : ∀ p, mem m p → ∃ c ∈ L, c.1 = p / 512) {i : Nat} {c : Int × Nat} (hc : L[i]? = some c) (hc0 : 0 ≤ c.1) {B : Int} (hB0 : 0 ≤ B) (hB : B ≤ c.1 * 512)
    (hbef : ∀ (j : Nat) c', j < i → L[j]? = some c' → (c'.1 + 1) * 512 ≤ B) : cnt m 0 ((c.1 + 1) * 512) = cnt m 0 B + cnt m (c.1 * 512) (c.1 * 512 + 512) := by
  rw [cnt_add (Ok.lts hm) (a := 0) (m := B) (b := (c.1 + 1) * 512) hB0 (by omega), cnt_add (Ok.lts hm) (a := B) (m := c.1 * 512) (b := (c.1 + 1) * 512) hB (by omega)]
  have : cnt m B (c.1 * 512) = 0 := (cnt_none hm hB).2 fun p h1 h2 hp => by
    obtain ⟨y, hy, hy2⟩ := hin p hp
    obtain ⟨j, hj⟩ := List.mem_iff_getElem?.1 hy
    rcases Nat.lt_trichotomy j i with g | g | g
    · have := hbef j y g hj; omega
    · subst g; rw [hc] at hj; have := Option.some.inj hj; subst this; omega
    · have := List.pairwise_iff_getElem.1 hs i j (List.getElem?_eq_some_iff.1 hc).1 (List.getElem?_eq_some_iff.1 hj).1 g
      rw [(List.getElem?_eq_some_iff.1 hc).2, (List.getElem?_eq_some_iff.1 hj).2] at this
      omega
  rw [this, show (c.1 + 1) * 512 = c.1 * 512 + 512 by omega]
  omega

theorem all_sum {L : CL} (hs : SortedC L) {m : Iv} (hm : Ok m) (hin : ∀ p, mem m p → ∃ c ∈ L, c.1 = p / 512) {B : Int} (hB : ∀ c ∈ L, (c.1 + 1) * 512 ≤ B) : cnt m 0 B = tot m :=
  cnt_all (Ok.lts hm) fun p hp => by
    obtain ⟨y, hy, hy2⟩ := hin p hp
    have := hB y hy
    exact ⟨mem_pos hm hp, by omega⟩

theorem rcount_loop {L : CL} {U G : Int → Bool} {s : SlV} (hI : RInv l L U G) (H : Sat (rres E r s L U G ++ Z) w) {m : Iv} (hm : Ok m) (hm0 : ∀ p, mem m p → mem (l 0) p) (F0 : Option Addr → (Int → World → Prop) → World → Prop)
    (hF : ∀ (i : Nat) c, L[i]? = some c → ∀ K, K (cnt m (c.1 * 512) (c.1 * 512 + 512)) w → F0 (some ⟨c.2, 0, none⟩) K w) {K : Int → World → Prop} (hK : K (tot m) w) :
    LOOP (Int × Int × Unit) (0, 0, ()) w fun s1 _ w2 next3 =>
      NC (some (Addr.mk r 0 none)) fun p4 =>
      ∃ x5 : SlV, w2.cell? p4 = some (.slice x5.base x5.len x5.cap) ∧
      CND (decide ((s1.2.1 : Int) < ((x5.len : Nat) : Int))) (
        NC (some (Addr.mk r 0 none)) fun p6 =>
        ∃ x7 : SlV, w2.cell? p6 = some (.slice x7.base x7.len x7.cap) ∧
        NC x7.base fun p8 =>
        ((0 : Int) ≤ s1.2.1 ∧ (s1.2.1 : Int) < (x7.len : Nat)) ∧
        ∃ x9 : (Option Addr), w2.cell? ((p8.add (Int.toNat s1.2.1 * 2)).add 1) = some (.pointer x9) ∧
        F0 x9 (fun r10 w11 =>
        next3 (i64 (s1.1 + r10), i64 (s1.2.1 + 1), ()) w11
        ) w2
      ) (
        K (u64 (s1.1)) w2
      ) := by
  have hll := sorted_len hI.srt hI.rng
  have hlen := rres_len H
  have hin : ∀ p, mem m p → ∃ c ∈ L, c.1 = p / 512 := fun p hp => (hI.l0 p).1 (hm0 p hp)
  simp only [NC_some]
  have hcb : ∀ {B : Int}, 0 ≤ B → 0 ≤ cnt m 0 B ∧ cnt m 0 B ≤ B := fun h => ⟨cnt_nonneg _ _ _, by have := cnt_split hm h; omega⟩
  refine LOOP_intro (fun st w' => w' = w ∧ ∃ (i : Nat) (B : Int), st.2.1 = (i : Int) ∧ i ≤ L.length ∧ 0 ≤ B ∧ B ≤ 34359738368 ∧ st.1 = cnt m 0 B ∧ (∀ (j : Nat) c', j < i → L[j]? = some c' → (c'.1 + 1) * 512 ≤ B) ∧ (∀ (j : Nat) c', i ≤ j → L[j]? = some c' → B ≤ c'.1 * 512)) (fun st _ => (L.length - st.2.1).toNat)
    ⟨rfl, 0, 0, rfl, Nat.zero_le _, by decide, by decide, ?_, fun j c' h => by omega, fun j c' _ h => by have := hI.rng c' (List.mem_of_getElem? h); omega⟩ ?_
  · exact ((cnt_none hm (Int.le_refl _)).2 fun k h1 h2 => by omega).symm
  rintro ⟨n, i', v⟩ _ w2 ⟨rfl, i, B, hi, hil, hB0, hB1, hn, hbef, haft⟩
  dsimp only at hi hn ⊢
  subst hi; subst hn
  have hbB := hcb hB0
  refine ⟨s, rres_hdr H, CND_dec (fun hlt => ⟨s, rres_hdr H, ?_⟩) fun hge => ?_⟩
  · have hg := List.getElem?_eq_getElem (show i < L.length by omega)
    obtain ⟨a, ha, hls, c1, c2⟩ := rres_get H hg
    generalize L[i] = c at hg c1 c2
    have hcr := hI.rng c (List.mem_of_getElem? hg)
    rw [ha]
    simp only [NC_some, Int.toNat_natCast]
    refine ⟨⟨by omega, by omega⟩, _, c2, hF i c hg _ ?_⟩
    have hgs := gap_sum hI.srt hm hin hg hcr.1 hB0 (haft i c (Nat.le_refl _) hg) hbef
    have hb2 := hcb (B := (c.1 + 1) * 512) (by omega)
    rw [i64_id (n := (i : Int) + 1) (by omega) (by omega), ← hgs, i64_id (by omega) (by omega)]
    refine ⟨⟨by trivial, i + 1, (c.1 + 1) * 512, by omega, by omega, by omega, by omega, by trivial, fun j c' hj hc' => ?_, fun j c' hj hc' => ?_⟩, by omega⟩
    · by_cases e : j = i
      · subst e; rw [hg] at hc'; have := Option.some.inj hc'; subst this; omega
      · have := List.pairwise_iff_getElem.1 hI.srt j i (List.getElem?_eq_some_iff.1 hc').1 (List.getElem?_eq_some_iff.1 hg).1 (by omega)
        rw [(List.getElem?_eq_some_iff.1 hc').2, (List.getElem?_eq_some_iff.1 hg).2] at this
        omega
    · have := List.pairwise_iff_getElem.1 hI.srt i j (List.getElem?_eq_some_iff.1 hg).1 (List.getElem?_eq_some_iff.1 hc').1 (by omega)
      rw [(List.getElem?_eq_some_iff.1 hc').2, (List.getElem?_eq_some_iff.1 hg).2] at this
      omega
  · rw [u64_id (by omega) (by omega), all_sum hI.srt hm hin fun c hc => by
      obtain ⟨j, hj⟩ := List.mem_iff_getElem?.1 hc
      have := (List.getElem?_eq_some_iff.1 hj).1
      exact hbef j c (by omega) hj]
    exact hK

theorem rfree_spec (H : Sat (RTree E r l :: Z) w) {K : Int → World → Prop} (hK : K (tot (l 1)) w) : F.mallowref9_Tree_Free E (some ⟨r, 0, none⟩) K w := by
  obtain ⟨s, L, U, G, hI, H⟩ := Sat.rtree.1 H
  unfold F.mallowref9_Tree_Free
  refine rcount_loop hI H hI.ok1 (fun p hp => ((hI.l1 p).1 hp).1) (F.mallowref8_Chunk_Free E) (fun i c hc K hK => ?_) hK
  unfold F.mallowref8_Chunk_Free
  simp only [NC_some]
  refine rcount_spec (rres_chunk H hc) (ck_win0 c) ?_
  have hcm := List.mem_of_getElem? hc
  rw [cu_not hI.ok1 (fr := c.1 * 512) fun k h0 h1 => by
    rw [hI.l1]
    have : mem (l 0) (c.1 * 512 + k) := (hI.l0 _).2 ⟨c, hcm, by omega⟩
    cases U (c.1 * 512 + k) <;> simp [this]]
  have := cnt_nonneg (l 1) (c.1 * 512) (c.1 * 512 + 512)
  have h2 := cnt_split hI.ok1 (a := c.1 * 512) (b := c.1 * 512 + 512) (by omega)
  have e : c.1 * 512 + ((512 : Nat) : Int) = c.1 * 512 + 512 := by omega
  rw [e, i64_id (by omega) (by omega)]
  rw [show 512 - (((512 : Nat) : Int) - cnt (l 1) (c.1 * 512) (c.1 * 512 + 512)) = cnt (l 1) (c.1 * 512) (c.1 * 512 + 512) by omega]
  exact hK

theorem rreleased_spec (H : Sat (RTree E r l :: Z) w) {K : Int → World → Prop} (hK : K (tot (l 2)) w) : F.mallowref9_Tree_Released E (some ⟨r, 0, none⟩) K w := by
  obtain ⟨s, L, U, G, hI, H⟩ := Sat.rtree.1 H
  unfold F.mallowref9_Tree_Released
  refine rcount_loop hI H hI.ok2 (fun p hp => ((hI.l2 p).1 hp).1) (F.mallowref8_Chunk_Released E) (fun i c hc K hK => ?_) hK
  unfold F.mallowref8_Chunk_Released
  simp only [NC_some]
  rw [add_eq, Nat.zero_add]
  refine rcount_spec (rres_chunk H hc) (ck_win1 c) ?_
  have hcm := List.mem_of_getElem? hc
  rw [cu_mem hI.ok2 (fr := c.1 * 512) fun k h0 h1 => by
    rw [hI.l2]
    have : mem (l 0) (c.1 * 512 + k) := (hI.l0 _).2 ⟨c, hcm, by omega⟩
    simp [this]]
  exact hK

theorem rFirst_spec (H : Sat (RTree E r l :: Z) w) {K : Int → Bool → World → Prop} (hK : ∀ w', Sat (RTree E r l :: Z) w' → K ((findL (l 1) 1).getD 0) (findL (l 1) 1).isSome w') : F.mallowref9_Tree_First E (some ⟨r, 0, none⟩) K w := by
  unfold F.mallowref9_Tree_First
  exact rFind_spec H (by decide) (by decide) fun w' h => hK w' h

/-! ### Summaries put together -/

variable {a : SlV} {S : List (Int × Int × Int)} {m : Iv} {fr P : Int}

theorem mRight_spec (H : Sat Z w) {s x e : Int} (hP : P ≤ 2097152) (h : IsSum m fr (fr + P) s x e) {K : Bool → World → Prop} (hK : ∀ w', Sat Z w' → K true w') : F.mallowref7_Right E s x e P K w := by
  unfold F.mallowref7_Right
  refine AL_cells H fun b w2 H2 he2 => ?_
  have hr := h.right
  have := h.s0; have := h.e0; have := h.m0; have := h.s1; have := h.e1
  rw [show fr + P - fr = P by omega] at *
  have hsm : s ≤ x ∧ e ≤ x ∧ x ≤ P := by omega
  refine JOIN_in ⟨s, H2.cell0 rfl, CND_f (decide_eq_false (by omega)) ⟨x, H2.cell rfl, CND_f (decide_eq_false (by omega)) ⟨e, H2.cell rfl, CND_f (decide_eq_false (by omega)) ⟨s, H2.cell0 rfl, x, H2.cell rfl, CND_f (decide_eq_false (by omega))
    ⟨e, H2.cell rfl, x, H2.cell rfl, CND_f (decide_eq_false (by omega)) ⟨x, H2.cell rfl, fun j => CND_f (decide_eq_false (by omega)) ?_⟩⟩⟩⟩⟩⟩
  refine JOIN_st (fun st w' => w' = w2 ∧ (st.1 = true → s = P ∧ x = P ∧ e = P)) ?_ ?_
  · refine ⟨s, H2.cell0 rfl, CND_eq (fun g => ⟨by trivial, fun _ => by omega⟩) fun g1 => ⟨x, H2.cell rfl, CND_eq (fun g => ⟨by trivial, fun _ => by omega⟩) fun g2 => ⟨e, H2.cell rfl, CND_eq (fun g => ⟨by trivial, fun _ => by omega⟩) fun g3 => ⟨s, H2.cell0 rfl, e, H2.cell rfl, by trivial, fun g => ?_⟩⟩⟩⟩
    rw [i64_id (by omega) (by omega)] at g
    have := of_decide_eq_true g
    omega
  rintro ⟨bt, v⟩ _ w16 ⟨rfl, hbt⟩
  dsimp only at hbt ⊢
  refine CND_intro (fun g => ?_) fun _ => hK _ H2.tail
  obtain ⟨g1, g2, g3⟩ := hbt g
  refine ⟨s, H2.cell0 rfl, CND_eq (fun _ => ⟨x, H2.cell rfl, CND_eq (fun _ => ⟨e, H2.cell rfl, ?_⟩) fun h => absurd g2 h⟩) fun h => absurd g1 h⟩
  rw [g3, show (P == P) = true from by simp]
  exact hK _ H2.tail

theorem mright_spec (H : Sat (Row E.t_api_Sum 3 a (sums S) :: Z) w) (h1 : 1 ≤ P) (hP : P ≤ 2097152) (hL : S.length ≤ 64) (hb : Beside m fr P S) {K : Bool → World → Prop}
    (hK : ∀ w', Sat (Row E.t_api_Sum 3 a (sums S) :: Z) w' → K true w') : F.mallowref7_right E a P K w := by
  unfold F.mallowref7_right
  have hlen : a.len = S.length := by have := H.rowLen; rw [sums_len] at this; omega
  refine JOIN_in (CND_f (decide_eq_false (by omega)) (CND_f (decide_eq_false (by omega)) ?_))
  intro j
  refine CND_f (decide_eq_false (by omega)) ?_
  refine LOOP_intro (fun st w' => ∃ k : Nat, st.1 = (k : Int) ∧ k ≤ S.length ∧ Sat (Row E.t_api_Sum 3 a (sums S) :: Z) w') (fun st _ => (S.length - st.1).toNat) ⟨0, rfl, Nat.zero_le _, H⟩ ?_
  rintro ⟨i, u⟩ _ w5 ⟨k, hk, hk2, H5⟩
  dsimp only at hk ⊢
  subst hk
  refine CND_dec (fun hlt => ?_) fun hge => hK _ H5
  have hl : k < S.length := by omega
  have hg := List.getElem?_eq_getElem hl
  have hbk := hb k _ hg
  generalize S[k] = x at hg hbk
  refine H5.rowCell (j := k * 3) (v := .int .i64 x.1) (by simpa [sum3] using sums_get S hg 0 (by decide)) fun p hp c0 => ⟨⟨by omega, by omega⟩, ?_⟩
  have hown := H5.own
  have c1 := hown.cell hp (j := k * 3 + 1) (v := .int .i64 x.2.1) (by rw [sums_get S hg 1 (by decide)]; rfl)
  have c2 := hown.cell hp (j := k * 3 + 2) (v := .int .i64 x.2.2) (by rw [sums_get S hg 2 (by decide)]; rfl)
  simp only [Int.toNat_natCast]
  rw [add_add, add_add, add_add]
  refine ⟨x.1, c0, x.2.1, c1, x.2.2, c2, ?_⟩
  refine mRight_spec H5 hP hbk fun w18 H18 => CND_f rfl ?_
  rw [i64_id (by omega) (by omega)]
  exact ⟨⟨k + 1, by omega, by omega, H18⟩, by omega⟩

theorem mmerge_spec (H : Sat (Row E.t_api_Sum 3 a (sums S) :: Z) w) (h1 : 1 ≤ P) (hP : P ≤ 2097152) (hL : S.length ≤ 64) (hb : Beside m fr P S) {K : Int → Int → Int → Int → World → Prop}
    (hK : ∀ s x e w', IsSum m fr (fr + S.length * P) s x e → Sat (Row E.t_api_Sum 3 a (sums S) :: Z) w' → K s x e 0 w') : F.mallowref7_Merge E a P K w := by
  unfold F.mallowref7_Merge
  have hlen : a.len = S.length := by have := H.rowLen; rw [sums_len] at this; omega
  refine AL_cells H fun b1 w2 H2 he2 => ?_
  refine mright_spec (H2.front 1 rfl) h1 hP hL hb fun w4 H4 => ?_
  refine CND_f rfl ?_
  refine AL_cells H4 fun b9 w10 H10 he10 => ?_
  refine LOOP_intro (fun st w' => ∃ (k : Nat) (s x : Int), st.2.2.1 = (k : Int) ∧ k ≤ S.length ∧ IsSum m fr (fr + k * P) s x st.1 ∧ (st.2.1 = true ↔ s = k * P) ∧
      Sat (Cells b9 E.t_api_Sum [.int .i64 s, .int .i64 x, .int .i64 0] :: Row E.t_api_Sum 3 a (sums S) :: Cells b1 E.t_api_Sum [.int .i64 0, .int .i64 0, .int .i64 0] :: Z) w') (fun st _ => (S.length - st.2.2.1).toNat)
    ⟨0, 0, 0, rfl, Nat.zero_le _, by simpa using IsSum.nil m fr, by simp, H10⟩ ?_
  rintro ⟨run, whole, i, u⟩ _ w12 ⟨k, s, x, hk, hk2, hI, hwh, H12⟩
  dsimp only at hk hI hwh ⊢
  subst hk
  refine CND_dec (fun hlt => ?_) fun hge => ?_
  · have hl : k < S.length := by omega
    have hg := List.getElem?_eq_getElem hl
    have hbk := hb k _ hg
    generalize S[k] = y at hg hbk
    have hkP : (k : Int) * P ≤ 64 * 2097152 := by
      have h1 : (k : Int) * P ≤ 64 * P := Int.mul_le_mul_of_nonneg_right (by omega) (by omega)
      omega
    have hkP0 : 0 ≤ (k : Int) * P := Int.mul_nonneg (by omega) (by omega)
    have := hI.s0; have := hI.s1; have := hI.e0; have := hI.e1; have := hI.m0; have := hbk.s0; have := hbk.s1; have := hbk.e0; have := hbk.e1; have := hbk.m0
    have hm1 : y.2.1 ≤ P := by have := hbk.right; omega
    have hx1 : x ≤ k * P := by
      obtain ⟨p, p1, p2, _⟩ := hI.m1; omega
    have hj := hI.join hbk
    rw [show fr + k * P - fr = k * P by omega, show fr + k * P + P - (fr + k * P) = P by omega] at hj
    have ek : (((k + 1 : Nat) : Int)) * P = k * P + P := by rw [Int.natCast_add, Int.add_mul]; simp
    have hright := hbk.right
    rw [show fr + k * P + P - (fr + k * P) = P by omega] at hright
    have hcells : ∀ {w'}, Sat (Row E.t_api_Sum 3 a (sums S) :: Z) w' → ∃ p, a.base = some p ∧ w'.cell? (p.add (k * 3)) = some (.int .i64 y.1) ∧ w'.cell? ((p.add (k * 3)).add 1) = some (.int .i64 y.2.1) ∧ w'.cell? ((p.add (k * 3)).add 2) = some (.int .i64 y.2.2) := fun h => by
      obtain ⟨b, hb⟩ := h.own.base_of (by omega)
      refine ⟨_, hb, ?_, ?_, ?_⟩
      · exact h.own.cell hb (j := k * 3) (v := .int .i64 y.1) (by simpa [sum3] using sums_get S hg 0 (by decide))
      · rw [add_add]; exact h.own.cell hb (j := k * 3 + 1) (v := .int .i64 y.2.1) (by rw [sums_get S hg 1 (by decide)]; rfl)
      · rw [add_add]; exact h.own.cell hb (j := k * 3 + 2) (v := .int .i64 y.2.2) (by rw [sums_get S hg 2 (by decide)]; rfl)
    have hii : (0 : Int) ≤ (k : Int) ∧ (k : Int) < (a.len : Int) := ⟨by omega, by omega⟩
    have rest : ∀ {c : List Value} {w'}, Sat (Cells b9 E.t_api_Sum c :: Row E.t_api_Sum 3 a (sums S) :: Cells b1 E.t_api_Sum [.int .i64 0, .int .i64 0, .int .i64 0] :: Z) w' → Sat (Row E.t_api_Sum 3 a (sums S) :: Cells b1 E.t_api_Sum [.int .i64 0, .int .i64 0, .int .i64 0] :: Z) w' := fun h => h.tail
    have hc' : ∀ {c : List Value} {w'}, Sat (Cells b9 E.t_api_Sum c :: Row E.t_api_Sum 3 a (sums S) :: Cells b1 E.t_api_Sum [.int .i64 0, .int .i64 0, .int .i64 0] :: Z) w' → ∃ p, a.base = some p ∧ w'.cell? (p.add (k * 3)) = some (.int .i64 y.1) ∧ w'.cell? ((p.add (k * 3)).add 1) = some (.int .i64 y.2.1) ∧ w'.cell? ((p.add (k * 3)).add 2) = some (.int .i64 y.2.2) := fun h => by
      have h := h.tail
      obtain ⟨b, hb⟩ := h.own.base_of (by omega)
      refine ⟨_, hb, ?_, ?_, ?_⟩
      · exact h.own.cell hb (j := k * 3) (v := .int .i64 y.1) (by simpa [sum3] using sums_get S hg 0 (by decide))
      · rw [add_add]; exact h.own.cell hb (j := k * 3 + 1) (v := .int .i64 y.2.1) (by rw [sums_get S hg 1 (by decide)]; rfl)
      · rw [add_add]; exact h.own.cell hb (j := k * 3 + 2) (v := .int .i64 y.2.2) (by rw [sums_get S hg 2 (by decide)]; rfl)
    -- the start
    refine JOIN_st (fun _ w' => Sat (Cells b9 E.t_api_Sum [.int .i64 (if s = k * P then s + y.1 else s), .int .i64 x, .int .i64 0] :: Row E.t_api_Sum 3 a (sums S) :: Cells b1 E.t_api_Sum [.int .i64 0, .int .i64 0, .int .i64 0] :: Z) w') ?_ ?_
    · refine CND_intro (fun g => ?_) fun g => ?_
      · have gs := hwh.1 g
        have Hd := H12.drew
        obtain ⟨p, hp, d0, d1, d2⟩ := hc' Hd
        refine ⟨s, Hd.cell0 rfl, ?_⟩
        rw [hp, if_pos gs]
        simp only [NC_some, Int.toNat_natCast]
        refine ⟨hii, _, d0, ?_⟩
        rw [i64_id (n := s + y.1) (by omega) (by omega)]
        exact st_cell0 Hd rfl (by simp) fun w20 H20 => H20
      · have gs : ¬ (s = k * P) := fun e => by rw [hwh.2 e] at g; cases g
        rw [if_neg gs]; exact H12
    rintro ⟨⟩ _ w16 H16
    generalize hs' : (if s = k * P then s + y.1 else s) = s' at H16 hj
    refine JOIN_st (fun _ w' => Sat (Cells b9 E.t_api_Sum [.int .i64 s', .int .i64 (max x (run + y.1)), .int .i64 0] :: Row E.t_api_Sum 3 a (sums S) :: Cells b1 E.t_api_Sum [.int .i64 0, .int .i64 0, .int .i64 0] :: Z) w') ?_ ?_
    · have Hd := H16.drew
      obtain ⟨p, hp, d0, d1, d2⟩ := hc' Hd
      rw [hp]
      simp only [NC_some, Int.toNat_natCast]
      refine ⟨hii, _, d0, x, Hd.cell rfl, ?_⟩
      rw [i64_id (n := run + y.1) (by omega) (by omega)]
      refine CND_dec (fun g => ⟨hii, _, d0, ?_⟩) fun g => ?_
      · rw [i64_id (n := run + y.1) (by omega) (by omega)]
        refine st_cell Hd rfl (by simp) fun w29 H29 => ?_
        simp only [List.set, Nat.zero_add] at H29
        rw [show max x (run + y.1) = run + y.1 by omega]; exact H29
      · rw [show max x (run + y.1) = x by omega]; exact Hd
    rintro ⟨⟩ _ w23 H23
    refine JOIN_st (fun _ w' => Sat (Cells b9 E.t_api_Sum [.int .i64 s', .int .i64 (max (max x y.2.1) (run + y.1)), .int .i64 0] :: Row E.t_api_Sum 3 a (sums S) :: Cells b1 E.t_api_Sum [.int .i64 0, .int .i64 0, .int .i64 0] :: Z) w') ?_ ?_
    · have Hd := H23.drew
      obtain ⟨p, hp, d0, d1, d2⟩ := hc' Hd
      rw [hp]
      simp only [NC_some, Int.toNat_natCast]
      refine ⟨hii, _, d1, _, Hd.cell rfl, CND_dec (fun g => ⟨hii, _, d1, ?_⟩) fun g => ?_⟩
      · refine st_cell Hd rfl (by simp) fun w38 H38 => ?_
        simp only [List.set, Nat.zero_add] at H38
        rw [show max (max x y.2.1) (run + y.1) = y.2.1 by omega]; exact H38
      · rw [show max (max x y.2.1) (run + y.1) = max x (run + y.1) by omega]; exact Hd
    rintro ⟨⟩ _ w32 H32
    obtain ⟨p, hp, d0, d1, d2⟩ := hc' H32
    refine JOIN_in ?_
    rw [hp]
    simp only [NC_some, Int.toNat_natCast]
    have fin : ∀ run' whole', (run' = if y.1 = P then run else 0) → (whole' = true ↔ (whole = true ∧ y.1 = P)) →
        (∃ (k' : Nat) (s x : Int), i64 ((k : Int) + 1) = (k' : Int) ∧ k' ≤ S.length ∧ IsSum m fr (fr + k' * P) s x (i64 (run' + y.2.2)) ∧ (whole' = true ↔ s = k' * P) ∧
      Sat (Cells b9 E.t_api_Sum [.int .i64 s, .int .i64 x, .int .i64 0] :: Row E.t_api_Sum 3 a (sums S) :: Cells b1 E.t_api_Sum [.int .i64 0, .int .i64 0, .int .i64 0] :: Z) w32) ∧ (S.length - i64 ((k : Int) + 1)).toNat < (S.length - (k : Int)).toNat := fun run' whole' hr hw => by
      rw [i64_id (n := (k : Int) + 1) (by omega) (by omega)]
      have hr0 : 0 ≤ run' ∧ run' ≤ run := by rw [hr]; split <;> omega
      rw [i64_id (n := run' + y.2.2) (by omega) (by omega)]
      refine ⟨⟨k + 1, s', _, by omega, by omega, ?_, ?_, H32⟩, by omega⟩
      · have e : run' + y.2.2 = if y.1 = P then run + P else y.2.2 := by
          rw [hr]
          by_cases g : y.1 = P
          · rw [if_pos g, if_pos g]; omega
          · rw [if_neg g, if_neg g]; omega
        rw [e, ek, ← Int.add_assoc]; exact hj
      · rw [hw, hwh, ek, ← hs']
        by_cases g : s = k * P
        · rw [if_pos g]; constructor
          · rintro ⟨_, h⟩; omega
          · intro h; exact ⟨g, by omega⟩
        · rw [if_neg g]; constructor
          · rintro ⟨h, _⟩; exact absurd h g
          · intro h; omega
    refine ⟨hii, _, d0, CND_dec (fun g j => ⟨hii, _, d2, ?_⟩) fun g j => ⟨hii, _, d2, ?_⟩⟩
    · exact fin 0 false (by rw [if_neg (by omega)]) ⟨fun h => (by cases h), fun h => by omega⟩
    · exact fin run whole (by rw [if_pos (by omega)]) ⟨fun h => ⟨h, by omega⟩, fun h => h.1⟩
  · have e : k = S.length := by omega
    subst e
    refine st_cell H12 rfl (by simp) fun w46 H46 => ?_
    simp only [List.set, Nat.zero_add] at H46
    refine ⟨_, H46.cell rfl, _, H46.cell rfl, _, H46.cell rfl, ?_⟩
    refine st_three (H46.front 2 rfl) rfl fun w50 H50 => ⟨_, H50.cell rfl, _, H50.cell rfl, _, H50.cell rfl, ?_⟩
    exact hK _ _ _ _ hI H50.tail.tail

/-! ### Summaries of the levels -/

theorem rSum_bad (H : Sat Z w) {r : Option Addr} {lv i : Int} (hbad : lv < 0 ∨ 3 < lv) (n0 : Nat) {K : Int → Int → Int → Int → World → Prop} (hK : ∀ w', Sat Z w' → K 0 0 0 1 w') : F.mallowref9_Tree_Sum E (n0 + 1) r lv i K w := by
  unfold F.mallowref9_Tree_Sum
  refine AL_cells H fun b1 w2 H2 _ => ?_
  have fin : ∀ {w'}, Sat (Cells b1 E.t_api_Sum [.int .i64 0, .int .i64 0, .int .i64 0] :: Z) w' → stCells (Addr.mk b1 0 none) 0 [.int .i64 0, .int .i64 0, .int .i64 0] w' fun w6 =>
      ∃ c7 : Int, w6.cell? ((Addr.mk b1 0 none).add 0) = some (.int .i64 c7) ∧
      ∃ c8 : Int, w6.cell? ((Addr.mk b1 0 none).add 1) = some (.int .i64 c8) ∧
      ∃ c9 : Int, w6.cell? ((Addr.mk b1 0 none).add 2) = some (.int .i64 c9) ∧
      K c7 c8 c9 1 w6 := fun h => st_three h rfl fun w6 H6 => ⟨0, H6.cell rfl, 0, H6.cell rfl, 0, H6.cell rfl, hK _ H6.tail⟩
  exact JOIN_in (CND_dec (fun _ j => CND_t rfl (fin H2)) fun h1 j => CND_dec (fun _ => fin H2) fun h2 => by omega)

theorem rSum_spec : ∀ (n0 : Nat) {w : World} {Z : List Pr}, Sat (RTree E r l :: Z) w → ∀ {lv i : Int}, 0 ≤ lv → lv ≤ 3 → 4 - lv ≤ n0 → 0 ≤ i → i < 18446744073709551616 → ∀ {K : Int → Int → Int → Int → World → Prop},
    (34359738368 / pg lv ≤ i → ∀ w', Sat (RTree E r l :: Z) w' → K 0 0 0 1 w') →
    (i < 34359738368 / pg lv → ∀ s x e w', IsSum (l 1) (i * pg lv) (i * pg lv + pg lv) s x e → Sat (RTree E r l :: Z) w' → K s x e 0 w') →
    F.mallowref9_Tree_Sum E n0 (some ⟨r, 0, none⟩) lv i K w
  | 0, w, Z, H, lv, i, _, _, h, _, _, K, _, _ => by omega
  | n0 + 1, w, Z, H, lv, i, l0, l1, hf, i0, i1, K, hk1, hk2 => by
    unfold F.mallowref9_Tree_Sum
    refine AL_cells H fun b1 w2 H2 _ => ?_
    have fin : ∀ {Z'} (s x e : Int) {w'}, Sat (Cells b1 E.t_api_Sum [.int .i64 0, .int .i64 0, .int .i64 0] :: Z') w' → ∀ {K' : Int → Int → Int → World → Prop}, (∀ w6, Sat Z' w6 → K' s x e w6) → stCells (Addr.mk b1 0 none) 0 [.int .i64 s, .int .i64 x, .int .i64 e] w' fun w6 =>
        ∃ c7 : Int, w6.cell? ((Addr.mk b1 0 none).add 0) = some (.int .i64 c7) ∧
        ∃ c8 : Int, w6.cell? ((Addr.mk b1 0 none).add 1) = some (.int .i64 c8) ∧
        ∃ c9 : Int, w6.cell? ((Addr.mk b1 0 none).add 2) = some (.int .i64 c9) ∧
        K' c7 c8 c9 w6 := fun s x e w' h K' hK' => st_three h rfl fun w6 H6 => ⟨s, H6.cell rfl, x, H6.cell rfl, e, H6.cell rfl, hK' _ H6.tail⟩
    refine JOIN_in (CND_f (decide_eq_false (by omega)) fun j => CND_f (decide_eq_false (by omega)) ?_)
    refine LOOP_intro (fun st w' => lv ≤ st.2.2.1 ∧ st.2.2.1 ≤ 3 ∧ st.1 = 8 ^ (3 - st.2.2.1).toNat ∧ st.2.1 = 512 * 8 ^ (3 - st.2.2.1).toNat ∧ w' = w2) (fun st _ => st.2.2.1.toNat) ⟨by dsimp only; omega, by dsimp only; omega, by dsimp only; decide, by dsimp only; decide, rfl⟩ ?_
    rintro ⟨chunks, pages, k, v⟩ _ w11 ⟨k0, k1, hch, hpg, rfl⟩
    dsimp only at k0 k1 hch hpg ⊢
    subst hch; subst hpg
    refine CND_dec (fun hgt => ?_) fun hle => ?_
    · have hk : k = 1 ∨ k = 2 ∨ k = 3 := by omega
      rw [i64_id (n := k - 1) (by omega) (by omega)]
      refine ⟨⟨by omega, by omega, ?_, ?_, by trivial⟩, by omega⟩
      · rcases hk with rfl | rfl | rfl <;> decide
      · rcases hk with rfl | rfl | rfl <;> decide
    have ek : k = lv := by omega
    subst ek
    have hlv : k = 0 ∨ k = 1 ∨ k = 2 ∨ k = 3 := by omega
    have hlim : u64 (Int.tdiv 67108864 (8 ^ (3 - k).toNat)) = 34359738368 / pg k ∧ (8 : Int) ^ (3 - k).toNat ≠ 0 ∧ 34359738368 / pg k ≤ 67108864 := by rcases hlv with rfl | rfl | rfl | rfl <;> decide
    refine ⟨hlim.2.1, ?_⟩
    rw [hlim.1]
    refine CND_dec (fun hge => fin 0 0 0 (w' := w11) H2 (hk1 hge)) fun hlt => ?_
    have hk2 := hk2 (by omega)
    clear hk1
    refine CND_eq (fun e3 => ?_) fun e3 => ?_
    · subst e3
      have e512 : pg 3 = 512 := by decide
      rw [e512] at hk2
      have H2' := H2.front 1 rfl
      obtain ⟨s, L, U, G, hI, H3⟩ := Sat.rtree.1 H2'
      refine rfind_spec H3 fun w19 ok hok H19 => CND_intro (fun g => ?_) fun g => ?_
      · have hno : ∀ x, i * 512 ≤ x → x < i * 512 + 512 → ¬ mem (l 1) x := fun x h1 h2 hm => by
          obtain ⟨c, hc, hc2⟩ := (hI.l0 x).1 ((hI.l1 x).1 hm).1
          have hc3 : c.1 = i := by omega
          rw [hok.2 ⟨c, posC_has hI.srt hc hc3, hc3⟩] at g
          cases g
        clear hok
        have hZ : Sat (Cells b1 E.t_api_Sum [.int .i64 0, .int .i64 0, .int .i64 0] :: RTree E r l :: Z) w19 :=
          (Sat.perm (Qs := RTree E r l :: Cells b1 E.t_api_Sum [.int .i64 0, .int .i64 0, .int .i64 0] :: Z) (Sat.rtree.2 ⟨s, L, U, G, hI, H19⟩) (.refl _)).perm (.swap _ _ _)
        refine fin 0 0 0 hZ fun w' h => hk2 0 0 0 w' ⟨by omega, by omega, fun x h1 h2 => by omega, .inr (hno _ (by omega) (by omega)), by omega, by omega, fun x h1 h2 => by omega, .inr (hno _ (by omega) (by omega)), by omega, ⟨i * 512, by omega, by omega, fun x h1 h2 => by omega⟩, fun p n h1 h2 h3 => ?_⟩ h
        refine Classical.byContradiction fun g2 => hno p h1 (by omega) (h3 p (by omega) (by omega))
      · obtain ⟨c, hc, hc2⟩ := hok.1 (by simpa using g)
        clear hok
        obtain ⟨a, ha, hls, c1, c2⟩ := rres_get H19 hc
        simp only [NC_some]
        refine ⟨s, rres_hdr H19, ?_⟩
        rw [ha]
        simp only [NC_some, Int.toNat_natCast]
        refine ⟨⟨by omega, by omega⟩, _, c2, ?_⟩
        simp only [NC_some]
        have hcm := List.mem_of_getElem? hc
        refine rsum_spec (rres_chunk H19 hc) (ck_win0 c) (l := l 1) (fr := i * 512) (fun k h0 h1 => ?_) fun s' x e w32 hS H32 => ?_
        · rw [← hc2, hI.l1]
          have : mem (l 0) (c.1 * 512 + k) := (hI.l0 _).2 ⟨c, hcm, by omega⟩
          cases U (c.1 * 512 + k) <;> simp [this]
        · have h7 : Sat (rres E r s L U G ++ (Cells b1 E.t_api_Sum [.int .i64 0, .int .i64 0, .int .i64 0] :: Z)) w32 := (H32.manyBack hc).perm (List.Perm.trans (.swap _ _ _) (.cons _ (.swap _ _ _)))
          have hZ : Sat (Cells b1 E.t_api_Sum [.int .i64 0, .int .i64 0, .int .i64 0] :: RTree E r l :: Z) w32 := (Sat.rtree.2 ⟨s, L, U, G, hI, h7⟩).perm (.swap _ _ _)
          exact fin s' x e hZ fun w' h => hk2 _ _ _ w' hS h
    · have hlv2 : k = 0 ∨ k = 1 ∨ k = 2 := by omega
      have hp8 : pg k = 8 * pg (k + 1) ∧ 512 ≤ pg (k + 1) ∧ pg (k + 1) ≤ 32768 ∧ 34359738368 / pg (k + 1) = 8 * (34359738368 / pg k) ∧ i64 (Int.tdiv (512 * 8 ^ (3 - k).toNat) 8) = pg (k + 1) := by rcases hlv2 with rfl | rfl | rfl <;> decide
      obtain ⟨p1, p2, p3, p4, p5⟩ := hp8
      rw [i64_id (n := k + 1) (by omega) (by omega), p5]
      have H2n : Sat (Row E.t_api_Sum 3 ⟨none, 0, 0⟩ (sums []) :: RTree E r l :: Cells b1 E.t_api_Sum [.int .i64 0, .int .i64 0, .int .i64 0] :: Z) w11 := (H2.perm (.swap _ _ _)).nil E.t_api_Sum 3
      refine LOOP_intro (fun st w' => ∃ (j : Nat) (S : List (Int × Int × Int)), st.2.1 = (j : Int) ∧ j ≤ 8 ∧ S.length = j ∧ Beside (l 1) (i * pg k) (pg (k + 1)) S ∧
          Sat (Row E.t_api_Sum 3 st.1 (sums S) :: RTree E r l :: Cells b1 E.t_api_Sum [.int .i64 0, .int .i64 0, .int .i64 0] :: Z) w') (fun st _ => (8 - st.2.1).toNat) ⟨0, [], rfl, by decide, rfl, fun j x h => (by cases h), H2n⟩ ?_
      rintro ⟨sl, j', v⟩ _ w38 ⟨j, S, hj, hj8, hS, hB, H38⟩
      dsimp only at hj H38 ⊢
      subst hj
      refine CND_dec (fun hlt8 => ?_) fun hge8 => ⟨by decide, ?_⟩
      · rw [u64_id (n := 8 * i) (by omega) (by omega), u64_id (n := 8 * i + (j : Int)) (by omega) (by omega), u64_id (n := (j : Int) + 1) (by omega) (by omega)]
        refine rSum_spec n0 (H38.perm (.swap _ _ _)) (by omega) (by omega) (by omega) (by omega) (by omega) (fun h => by omega) fun _ s x e w44 hSum H44 => ?_
        refine AL_cells H44 fun b45 w46 H46 _ => st_three H46 rfl fun w47 H47 => ⟨s, H47.cell rfl, x, H47.cell rfl, e, H47.cell rfl, ?_⟩
        refine AL_cells H47 fun b51 w52 H52 _ => ?_
        have H52' := H52.front2 2 rfl
        have hlen := H52'.tail.rowLen
        rw [sums_len] at hlen
        refine APP_one (news := sum3 (s, x, e)) H52' rfl rfl (by intro v hv; simp [sum3] at hv; rcases hv with rfl | rfl | rfl <;> rfl) (by omega) (by omega) fun s53 w54 H54 _ => ?_
        have H54 : Sat (Row E.t_api_Sum 3 s53 (sums S ++ sum3 (s, x, e)) :: Cells b45 E.t_api_Sum [.int .i64 s, .int .i64 x, .int .i64 e] :: RTree E r l :: Cells b1 E.t_api_Sum [.int .i64 0, .int .i64 0, .int .i64 0] :: Z) w54 := H54
        refine ⟨⟨j + 1, S ++ [(s, x, e)], by omega, by omega, by simp [hS], fun q y hq => ?_, ?_⟩, by omega⟩
        · rw [List.getElem?_append] at hq
          split at hq
          · exact hB q y hq
          · have : q = S.length := by
              have := (List.getElem?_eq_some_iff.1 hq).1
              simp at this; omega
            subst this
            rw [Nat.sub_self] at hq
            cases hq
            rw [hS]
            have e1 : (8 * i + (j : Int)) * pg (k + 1) = i * pg k + j * pg (k + 1) := by
              rw [p1, Int.add_mul, Int.mul_comm 8 i, Int.mul_assoc]
            rw [e1] at hSum
            exact hSum
        · have e1 : sums (S ++ [(s, x, e)]) = sums S ++ sum3 (s, x, e) := by simp [sums]
          rw [e1]
          exact (H54.front 1 rfl).tail
      · have e8 : j = 8 := by omega
        subst e8
        refine mmerge_spec H38 (by omega) (by omega) (by omega) hB fun s x e w59 hSum H59 => ?_
        rw [hS] at hSum
        have ee : i * pg k + ((8 : Nat) : Int) * pg (k + 1) = i * pg k + pg k := by rw [p1]; omega
        rw [ee] at hSum
        have hZ : Sat (Cells b1 E.t_api_Sum [.int .i64 0, .int .i64 0, .int .i64 0] :: RTree E r l :: Z) w59 := (H59.tail).perm (.swap _ _ _)
        exact fin s x e hZ fun w' h => hk2 _ _ _ w' hSum h

end
end Go.Sh

set_option linter.all false
set_option maxRecDepth 4000
set_option maxHeartbeats 2000000
namespace Go.Sh

abbrev TAct : AT := .cons (.int .i64) (.cons (.int .u64) (.cons (.int .u64) .nil))

theorem tact_cells {w : World} {s : SlV} {z : Nat → Int × Int × Int × Unit} (h : RowA w TAct s z) {j : Nat} (hj : j < s.len) : ∃ x, s.base = some x ∧
    w.cell? (x.add (j * 3)) = some (.int .i64 (z j).1) ∧ w.cell? ((x.add (j * 3)).add 1) = some (.int .u64 (z j).2.1) ∧ w.cell? ((x.add (j * 3)).add 2) = some (.int .u64 (z j).2.2.1) ∧
    (-9223372036854775808 ≤ (z j).1 ∧ (z j).1 < 9223372036854775808) ∧ (0 ≤ (z j).2.1 ∧ (z j).2.1 < 18446744073709551616) ∧ (0 ≤ (z j).2.2.1 ∧ (z j).2.2.1 < 18446744073709551616) := by
  obtain ⟨x, hx, hc, ho⟩ := h.2.2 j hj
  refine ⟨x, hx, ?_, ?_, ?_, i64_wf ho.1, u64_wf ho.2.1, u64_wf ho.2.2.1⟩
  · exact hc 0 _ rfl
  · rw [add_add]; exact hc 1 _ rfl
  · rw [add_add]; exact hc 2 _ rfl

theorem TRow.old {w w' : World} {s : SlV} {z : Nat → Int × Int × Int × Unit} (h : RowA w TAct s z) (he : Ext Nothing w w') : RowA w' TAct s z :=
  ⟨h.1, h.2.1, fun j hj => by
    obtain ⟨x, h1, h2, h3⟩ := h.2.2 j hj
    exact ⟨x, h1, fun i v hv => he.cell (h2 i v hv) fun f => f, h3⟩⟩

theorem and7 (x : Int) : 0 ≤ bitK .u64 0 x 7 ∧ bitK .u64 0 x 7 ≤ 7 := by
  have e : bitK .u64 0 x 7 = u64 ((BitVec.ofInt 64 x &&& BitVec.ofInt 64 7).toNat : Int) := rfl
  have h : (BitVec.ofInt 64 x &&& BitVec.ofInt 64 7).toNat ≤ 7 := by
    rw [BitVec.toNat_and]
    exact Nat.and_le_right
  rw [e, u64_id (by omega) (by omega)]
  omega

theorem tt {K : Bool → World → Prop} {b : Bool} {w : World} (hb : b = true) (h : K true w) : K b w := by rw [hb]; exact h

theorem takeT0 (l : Nat → Iv) (x n : Int) : takeT l x n 0 = l 0 := rfl
theorem takeT1 (l : Nat → Iv) (x n : Int) : takeT l x n 1 = cutL (l 1) x (x + n) := rfl
theorem takeT2 (l : Nat → Iv) (x n : Int) : takeT l x n 2 = cutL (l 2) x (x + n) := rfl

section
variable {E : Env} (hE : EnvS E) {w : World} {Z : List Pr} {t r : Nat} {l : Nat → Iv}
include hE

theorem tsumB_sat (H : Sat (TreeP E t l :: Z) w) {lv i : Int} (hl0 : -9223372036854775808 ≤ lv) (hl1 : lv < 9223372036854775808) (hi0 : 0 ≤ i) (hi : i < 18446744073709551616) {K : Int → Int → Int → Int → World → Prop}
    (hk1 : (lv < 0 ∨ 4 ≤ lv ∨ 34359738368 / pg lv ≤ i) → ∀ w', Sat (TreeP E t l :: Z) w' → K 0 0 0 1 w')
    (hk2 : ¬ (lv < 0 ∨ 4 ≤ lv ∨ 34359738368 / pg lv ≤ i) → ∀ s m e w', IsSum (l 1) (i * pg lv) (i * pg lv + pg lv) s m e → Sat (TreeP E t l :: Z) w' → K s m e 0 w') : F.radix_Tree_Sum E (some ⟨t, 0, none⟩) lv i K w := by
  obtain ⟨G, hR, rfl, st⟩ := H.tree
  refine tsum_spec hE hR hl0 hl1 hi0 hi (fun h w' he => hk1 h w' (H.nothing he)) fun h w' G' x hx hs hl => ?_
  have hp := pg_pos (lv := lv) (by omega) (by omega)
  have hok := (hR.sets.sets 1 (by decide)).row.ok
  have hsum := isSum_sumOf hok (fr := i * pg lv) (to := i * pg lv + pg lv) (by omega)
  rw [← hx] at hsum
  have H' := st _ _ hs
  rw [hl] at H'
  exact hk2 h _ _ _ _ hsum H'

theorem lpage_spec (H : Sat (TreeP E t l :: RTree E r l :: Z) w) {p : Int} (hp : 0 ≤ p) (hp2 : p < 18446744073709551616) {K : Bool → World → Prop} (hK : ∀ w', Sat (TreeP E t l :: RTree E r l :: Z) w' → K true w') :
    F.mallowlaw9_page E (some ⟨t, 0, none⟩) (some ⟨r, 0, none⟩) p K w := by
  unfold F.mallowlaw9_page
  refine tstate_sat hE H hp fun w4 r1 r2 r3 h1 h2 h3 H4 => ?_
  have H4' := H4.front 1 rfl
  obtain ⟨s, L, U, G, hI, H5⟩ := Sat.rtree.1 H4'
  refine rstate_spec hI H5 hp hp2 fun w8 r5 r6 r7 g1 g2 g3 H8 => ?_
  have H9 : Sat (TreeP E t l :: RTree E r l :: Z) w8 := (Sat.rtree.2 ⟨s, L, U, G, hI, H8⟩).perm (.swap _ _ _)
  have e1 : r1 = r5 := by rw [Bool.eq_iff_iff, h1, g1]
  have e2 : r2 = r6 := by rw [Bool.eq_iff_iff, h2, g2]
  have e3 : r3 = r7 := by rw [Bool.eq_iff_iff, h3, g3]
  subst e1; subst e2; subst e3
  exact CND_t (by simp) (CND_t (by simp) (tt (by simp) (hK _ H9)))

theorem lact_spec (H : Sat (TreeP E t l :: RTree E r l :: Z) w) {what a n : Int} (ha : 0 ≤ a ∧ a < 18446744073709551616) (hn : 0 ≤ n ∧ n < 18446744073709551616) {K : Bool → World → Prop}
    (hK : ∀ w' l', Sat (TreeP E t l' :: RTree E r l' :: Z) w' → K true w') : F.mallowlaw9_act E (some ⟨t, 0, none⟩) (some ⟨r, 0, none⟩) what a n K w := by
  unfold F.mallowlaw9_act
  refine AL_cells H fun b1 w2 H2 _ => ⟨what, H2.cell0 rfl, ?_⟩
  have H2d := H2.drew
  have hT := (H2.front 1 rfl).treeInv
  generalize hC : Cells b1 E.t_mallowlaw9_Act [.int .i64 what, .int .u64 a, .int .u64 n] = C at H2 H2d
  have ca : ∀ {Y : List Pr} {w'} (i : Nat), Sat Y w' → Y[i]? = some C → w'.cell? ((Addr.mk b1 0 none).add 1) = some (.int .u64 a) := fun i h hi => by
    have := h.front i hi; rw [← hC] at this; exact this.cell rfl
  have cn : ∀ {Y : List Pr} {w'} (i : Nat), Sat Y w' → Y[i]? = some C → w'.cell? ((Addr.mk b1 0 none).add 2) = some (.int .u64 n) := fun i h hi => by
    have := h.front i hi; rw [← hC] at this; exact this.cell rfl
  have fin : ∀ {w' l'} {x : Bool}, x = true → Sat (RTree E r l' :: TreeP E t l' :: C :: Z) w' → K x w' := fun hx h => tt hx (hK _ _ ((h.front 2 rfl).tail.perm (.swap _ _ _)))
  have toR : ∀ {w' l1 l2}, Sat (TreeP E t l1 :: C :: RTree E r l2 :: Z) w' → Sat (RTree E r l2 :: TreeP E t l1 :: C :: Z) w' := fun h => h.front 2 rfl
  have T2 : Sat (TreeP E t l :: C :: RTree E r l :: Z) w2 := H2.front 1 rfl
  have T2d : Sat (TreeP E t l :: C :: RTree E r l :: Z) w2.drew := H2d.front 1 rfl
  refine CND_eq (fun e => ?_) fun e1 => CND_eq (fun e => ?_) fun e2 => CND_eq (fun e => ?_) fun e3 => CND_eq (fun e => ?_) fun e4 => CND_eq (fun e => ?_) fun e5 => CND_eq (fun e => ?_) fun e6 => CND_eq (fun e => ?_) fun e7 => CND_eq (fun e => ?_) fun e8 => CND_eq (fun e => ?_) fun e9 => ?_
  · refine ⟨a, ca 0 H2d rfl, n, cn 0 H2d rfl, a, ca 0 H2d rfl, n, cn 0 H2d rfl, ?_⟩
    refine tgrow_sat hE T2d ha.1 ha.2 hn.1 hn.2 (fun hb => ⟨cn 0 H2d rfl, ca 0 H2d rfl, ?_⟩) (fun hb hc w9 H9 => ⟨cn 1 H9 rfl, ca 1 H9 rfl, ?_⟩) fun hb hc w9 H9 => ⟨cn 1 H9 rfl, ca 1 H9 rfl, ?_⟩
    · exact rgrow_spec (toR T2d) ha.1 ha.2 hn.1 hn.2 (fun _ => fin rfl (toR T2d)) (fun h => absurd hb h) fun h => absurd hb h
    · exact rgrow_spec (toR H9) ha.1 ha.2 hn.1 hn.2 (fun h => absurd h hb) (fun _ _ w' h => fin rfl h) fun _ h => absurd h hc
    · exact rgrow_spec (toR H9) ha.1 ha.2 hn.1 hn.2 (fun h => absurd h hb) (fun _ h => absurd hc h) fun _ _ w' h => fin rfl (h (growT l a n) fun i hi => by
        have : i = 0 ∨ i = 1 ∨ i = 2 := by omega
        rcases this with rfl | rfl | rfl <;> rfl)
  · refine ⟨n, cn 0 H2 rfl, talloc_sat hE T2 hn.1 hn.2 (fun hz => ⟨n, cn 1 T2 rfl, ?_⟩) (fun hz hf w16 H16 => ⟨n, cn 1 H16 rfl, ?_⟩) fun hz p hf w16 H16 => ⟨n, cn 1 H16 rfl, ?_⟩⟩
    · exact ralloc_spec (toR T2) hn.1 hn.2 (fun p h => absurd hz h) (fun _ => CND_t rfl (CND_t rfl (fin rfl (toR T2)))) (fun h => absurd hz h) fun h => absurd hz h
    · exact ralloc_spec (toR H16) hn.1 hn.2 (fun p _ h => by rw [hf] at h; cases h) (fun h => absurd h hz) (fun _ _ w' h => CND_t rfl (CND_t rfl (fin rfl h))) fun _ p h => by rw [hf] at h; cases h
    · obtain ⟨k1, k2, k3⟩ := tlooked T2 (by omega) hf
      have k4 := (looked_zero (by decide) k1)
      refine ralloc_spec (toR H16) hn.1 hn.2 (fun p' _ h => ?_) (fun h => absurd h hz) (fun _ h => by rw [hf] at h; cases h) fun _ p' h w' h' => ?_
      · rw [hf] at h; cases h; exact ⟨k1, k2, by have := k4.2.2.1; omega⟩
      · rw [hf] at h; cases h
        exact CND_t (by simp) (CND_t (by simp) (fin rfl (h' (takeT l p n) rfl rfl rfl)))
  · refine ⟨a, ca 0 H2 rfl, n, cn 0 H2 rfl, ttake_sat hE T2 ha.1 ha.2 hn.1 hn.2 (fun hb w26 H26 => ⟨a, ca 1 H26 rfl, n, cn 1 H26 rfl, ?_⟩) fun hb w26 H26 => ⟨a, ca 1 H26 rfl, n, cn 1 H26 rfl, ?_⟩⟩
    · exact rtake_spec (toR H26) ha.1 ha.2 hn.1 hn.2 (fun _ w' h => CND_t rfl (fin (by simp) h)) fun h => absurd h hb
    · exact rtake_spec (toR H26) ha.1 ha.2 hn.1 hn.2 (fun h => absurd hb h) fun _ w' h => CND_t (by simp) (fin rfl (h (takeT l a n) rfl rfl rfl))
  · refine ⟨a, ca 0 H2d rfl, n, cn 0 H2d rfl, a, ca 0 H2d rfl, n, cn 0 H2d rfl, ?_⟩
    refine tgive_sat hE T2d ha.1 ha.2 hn.1 hn.2 (fun hb w9 H9 => ⟨cn 1 H9 rfl, ca 1 H9 rfl, ?_⟩) fun hb w9 H9 => ⟨cn 1 H9 rfl, ca 1 H9 rfl, ?_⟩
    · exact rgive_spec (toR H9) hT.1.rel ha.1 ha.2 hn.1 hn.2 (fun _ w' h => fin (by simp) h) fun h => absurd h hb
    · exact rgive_spec (toR H9) hT.1.rel ha.1 ha.2 hn.1 hn.2 (fun h => absurd hb h) fun _ w' h => fin rfl (h (giveT l 3 a n) rfl rfl rfl)
  · refine ⟨a, ca 0 H2d rfl, n, cn 0 H2d rfl, a, ca 0 H2d rfl, n, cn 0 H2d rfl, ?_⟩
    refine tback_sat hE T2d ha.1 ha.2 hn.1 hn.2 (fun hb w9 H9 => ⟨cn 1 H9 rfl, ca 1 H9 rfl, ?_⟩) fun hb w9 H9 => ⟨cn 1 H9 rfl, ca 1 H9 rfl, ?_⟩
    · exact rgive_spec (toR H9) hT.1.rel ha.1 ha.2 hn.1 hn.2 (fun _ w' h => fin (by simp) h) fun h => absurd h hb
    · exact rgive_spec (toR H9) hT.1.rel ha.1 ha.2 hn.1 hn.2 (fun h => absurd hb h) fun _ w' h => fin rfl (h (giveT l 2 a n) rfl rfl rfl)
  · refine ⟨n, cn 0 H2 rfl, tfind_sat T2 hn.1 fun w51 H51 => ⟨n, cn 1 H51 rfl, ?_⟩⟩
    exact rFind_spec (toR H51) hn.1 hn.2 fun w' h => CND_t (by simp) (fin (by simp) h)
  · refine ⟨n, cn 0 H2 rfl, tscav_sat hE T2 hn.1 hn.2 (fun hz => ⟨n, cn 1 T2 rfl, ?_⟩) fun hz q m p k e1 e2 e3 e4 e5 w59 H59 => ⟨n, cn 1 H59 rfl, ?_⟩⟩
    · refine rscav_spec (toR T2) hT.1 (hT.2 3 (by decide)) hn.1 hn.2 (fun _ w' h => CND_t rfl (fin rfl h)) fun h q m hm => ?_
      rcases hz with h' | h'
      · rw [h'] at hm; exact absurd hm (by simp)
      · exact absurd h' h
    · refine rscav_spec (toR H59) hT.1 (hT.2 3 (by decide)) hn.1 hn.2 (fun h => ?_) fun _ q' m' hm' p' k' hk' hp' w' h' => ?_
      · rcases h with h | h
        · rw [h] at e1; exact absurd e1 (by simp)
        · exact absurd h hz
      · rw [e1] at hm'
        obtain ⟨_, g⟩ := List.append_inj' hm' rfl
        have g : q = q' := by simpa using g
        subst g
        have e : k' = k := by rw [hk', e2]
        subst e
        have e : p' = p := by rw [hp', e3]
        subst e
        exact CND_t (by simp) (fin (by simp) (h' (scavT l p' k') rfl rfl rfl))
  · have h7 := and7 n
    refine ⟨n, cn 0 H2 rfl, a, ca 0 H2 rfl, ?_⟩
    rw [i64_id (n := bitK .u64 0 n 7) (by omega) (by omega), i64_id (n := bitK .u64 0 n 7 - 1) (by omega) (by omega)]
    have last : ∀ {w' : World} {s m e s' m' e' c c' : Int} {b71}, s = s' → m = m' → e = e' → c = c' → Sat (RTree E r l :: Cells b71 E.t_api_Sum [.int .i64 s, .int .i64 m, .int .i64 e] :: TreeP E t l :: C :: Z) w' →
        AL (.cells #[.int .i64 0, .int .i64 0, .int .i64 0] E.t_api_Sum) w' fun b81 w82 =>
        stCells (Addr.mk b81 0 none) 0 [.int .i64 s', .int .i64 m', .int .i64 e'] w82 fun w83 =>
        ∃ c84 : Int, w83.cell? ((Addr.mk b71 0 none).add 0) = some (.int .i64 c84) ∧
        ∃ c85 : Int, w83.cell? ((Addr.mk b71 0 none).add 1) = some (.int .i64 c85) ∧
        ∃ c86 : Int, w83.cell? ((Addr.mk b71 0 none).add 2) = some (.int .i64 c86) ∧
        ∃ c87 : Int, w83.cell? ((Addr.mk b81 0 none).add 0) = some (.int .i64 c87) ∧
        ∃ c88 : Int, w83.cell? ((Addr.mk b81 0 none).add 1) = some (.int .i64 c88) ∧
        ∃ c89 : Int, w83.cell? ((Addr.mk b81 0 none).add 2) = some (.int .i64 c89) ∧
        CND ((((c84 : Int) == c87) && (((c85 : Int) == c88) && (((c86 : Int) == c89) && true)))) (K ((c : Int) == c') w83) (K false w83) := by
      intro w' s m e s' m' e' c c' b71 e1 e2 e3 e4 h
      subst e1; subst e2; subst e3; subst e4
      refine AL_cells h fun b81 w82 H82 _ => st_three H82 rfl fun w83 H83 => ?_
      have h7 := H83.front 2 rfl
      exact ⟨s, h7.cell rfl, m, h7.cell rfl, e, h7.cell rfl, s, H83.cell rfl, m, H83.cell rfl, e, H83.cell rfl, CND_t (by simp) (fin (by simp) ((h7.tail).tail))⟩
    refine tsumB_sat hE T2 (by omega) (by omega) ha.1 ha.2 (fun hb w70 H70 => ?_) fun hb s m e w70 hS H70 => ?_
    · refine AL_cells H70 fun b71 w72 H72 _ => st_three H72 rfl fun w73 H73 => ⟨n, cn 2 H73 rfl, a, ca 2 H73 rfl, ?_⟩
      rw [i64_id (n := bitK .u64 0 n 7) (by omega) (by omega), i64_id (n := bitK .u64 0 n 7 - 1) (by omega) (by omega)]
      have H74 : Sat (RTree E r l :: Cells b71 E.t_api_Sum [.int .i64 0, .int .i64 0, .int .i64 0] :: TreeP E t l :: C :: Z) w73 := H73.front 3 rfl
      refine ⟨5, ?_⟩
      by_cases g : bitK .u64 0 n 7 - 1 < 0 ∨ 3 < bitK .u64 0 n 7 - 1
      · exact rSum_bad H74 g 4 fun w' h => last rfl rfl rfl rfl h
      · exact rSum_spec 5 H74 (by omega) (by omega) (by omega) ha.1 ha.2 (fun _ w' h => last rfl rfl rfl rfl h) fun h => by omega
    · refine AL_cells H70 fun b71 w72 H72 _ => st_three H72 rfl fun w73 H73 => ⟨n, cn 2 H73 rfl, a, ca 2 H73 rfl, ?_⟩
      rw [i64_id (n := bitK .u64 0 n 7) (by omega) (by omega), i64_id (n := bitK .u64 0 n 7 - 1) (by omega) (by omega)]
      have H74 : Sat (RTree E r l :: Cells b71 E.t_api_Sum [.int .i64 s, .int .i64 m, .int .i64 e] :: TreeP E t l :: C :: Z) w73 := H73.front 3 rfl
      refine ⟨5, rSum_spec 5 H74 (by omega) (by omega) (by omega) ha.1 ha.2 (fun h => by omega) fun _ s' m' e' w80 hS' h => ?_⟩
      obtain ⟨g1, g2, g3⟩ := hS.uniq hS'
      exact last g1 g2 g3 rfl h
  · refine ⟨a, ca 0 H2 rfl, lpage_spec hE (H2.front 1 rfl |>.front2 1 rfl) ha.1 ha.2 fun w' h => ?_⟩
    exact hK _ _ ((h.front 2 rfl).tail)
  · exact hK _ _ H2.tail

theorem lsame_spec (H : Sat (TreeP E t l :: RTree E r l :: Z) w) {step : Int} (hs : 1 ≤ step) (hs2 : step ≤ 1000) {K : Bool → World → Prop} (hK : ∀ w', Sat (TreeP E t l :: RTree E r l :: Z) w' → K true w') :
    F.mallowlaw9_same E (some ⟨t, 0, none⟩) (some ⟨r, 0, none⟩) step K w := by
  unfold F.mallowlaw9_same
  have toR : ∀ {w'}, Sat (TreeP E t l :: RTree E r l :: Z) w' → Sat (RTree E r l :: TreeP E t l :: Z) w' := fun h => h.perm (.swap _ _ _)
  have toT : ∀ {w'}, Sat (RTree E r l :: TreeP E t l :: Z) w' → Sat (TreeP E t l :: RTree E r l :: Z) w' := fun h => h.perm (.swap _ _ _)
  have hT := H.treeInv
  refine JOIN_in (tfree_sat H (rfree_spec (toR H) (CND_ne (fun h => absurd rfl h) fun _ => treleased_sat H (rreleased_spec (toR H) ?_))))
  intro j
  refine CND_ne (fun h => absurd rfl h) fun _ => ?_
  -- the hint
  have hint : ∀ {K' : Int → World → Prop}, (∀ w' x, (∀ p, mem (l 1) p → x ≤ p) → Sat (TreeP E t l :: RTree E r l :: Z) w' → K' x w') → F.radix_Tree_Hint E (some ⟨t, 0, none⟩) K' w := by
    intro K' hK'
    obtain ⟨G, hR, hl, st⟩ := H.tree
    subst hl
    unfold F.radix_Tree_Hint F.stretch_Set_All
    simp only [NC_some, add_eq, Nat.zero_add]
    have hr : RowOf E w ⟨t, 2, none⟩ (G.s 1) (G.l 1) := (hR.sets.sets 1 (by decide)).row
    have hlen := hr.len
    refine ⟨G.s 1, hr.c0, CND_dec (fun hlt => ?_) fun hge => hK' w 0 (fun p hp => mem_pos hr.ok hp) H⟩
    have hg := List.getElem?_eq_getElem (show 0 < (G.l 1).length by omega)
    obtain ⟨rb, hrb, hq1, hq2⟩ := hr.cells hg
    generalize (G.l 1)[0] = q at hg hq1 hq2
    rw [hrb]
    simp only [NC_some, add_eq, Nat.zero_add]
    refine ⟨⟨by omega, by omega⟩, q.1, hq1, hK' w q.1 (fun p hp => ?_) H⟩
    obtain ⟨y, hy, hy1, hy2⟩ := hp
    obtain ⟨i, hi⟩ := List.mem_iff_getElem?.1 hy
    rcases Nat.eq_zero_or_pos i with e | e
    · subst e; rw [hg] at hi; cases hi; exact hy1
    · have := hr.ok.lt e hg hi
      have := hr.ok.get hg
      omega
  refine hint fun w13 hx hhx H13 => rFirst_spec (toR H13) fun w16 H16 => ?_
  refine JOIN_st (fun st w' => st.1 = false ∧ w' = w16) ?_ ?_
  · cases hf : findL (l 1) 1 with
    | none => exact CND_f rfl ⟨rfl, rfl⟩
    | some p =>
      refine CND_t rfl ⟨decide_eq_false ?_, rfl⟩
      have := (findL_some (hT.2 1 (by decide)) (by decide) hf).1 p (Int.le_refl _) (by omega)
      have := hhx p this
      simp; omega
  rintro ⟨b0, v⟩ _ w19 ⟨hb, rfl⟩
  dsimp only at hb
  subst hb
  refine CND_f rfl ?_
  have H16 := toT H16
  clear hint
  -- through the chunks
  have hdr : ∀ {w'}, Sat (TreeP E t l :: RTree E r l :: Z) w' → ∃ s L U G, RInv l L U G ∧ Sat (rres E r s L U G ++ (TreeP E t l :: Z)) w' := fun h => Sat.rtree.1 (toR h)
  obtain ⟨s0, L0, U0, G0, hI0, _⟩ := hdr H16
  have hbnd : ∀ {w'}, Sat (TreeP E t l :: RTree E r l :: Z) w' → ∀ {i : Int}, 0 ≤ i → i < 67108865 → (K true w' → K true w') := fun _ _ _ _ h => h
  refine LOOP_intro (fun st w' => 0 ≤ st.1 ∧ st.1 ≤ 67108864 ∧ Sat (TreeP E t l :: RTree E r l :: Z) w') (fun st _ => (67108865 - st.1).toNat) ⟨by decide, by decide, H16⟩ ?_
  rintro ⟨i, v⟩ _ w21 ⟨i0, i1, H21⟩
  dsimp only at i0 i1 ⊢
  have chunk : ∀ {w'}, Sat (TreeP E t l :: RTree E r l :: Z) w' → ∀ {X : SlV → Prop} {Y : SlV → Int → Addr → Prop}, True := fun _ => trivial
  obtain ⟨s, L, U, G, hI, HR⟩ := hdr H21
  have hll := sorted_len hI.srt hI.rng
  have hlen := rres_len HR
  simp only [NC_some]
  refine ⟨s, rres_hdr HR, CND_dec (fun hlt => ?_) fun hge => hK w21 H21⟩
  have hii : (0 : Int) ≤ i ∧ i < (s.len : Int) := ⟨i0, hlt⟩
  have hg := List.getElem?_eq_getElem (show i.toNat < L.length by omega)
  generalize L[i.toNat] = c at hg
  have hcr := hI.rng c (List.mem_of_getElem? hg)
  have keep : ∀ {w'}, Sat (rres E r s L U G ++ (TreeP E t l :: Z)) w' → Sat (TreeP E t l :: RTree E r l :: Z) w' := fun h => toT (Sat.rtree.2 ⟨s, L, U, G, hI, h⟩)
  -- what is read of the list, whatever it lies in
  have look : ∀ {w'}, Sat (TreeP E t l :: RTree E r l :: Z) w' → ∃ s' a, w'.cell? (Addr.mk r 0 none) = some (.slice (SlV.base s') s'.len s'.cap) ∧ s'.base = some a ∧ ((0 : Int) ≤ i ∧ i < (s'.len : Int)) ∧ w'.cell? (a.add (i.toNat * 2)) = some (.int .u64 c.1) := fun h => by
    obtain ⟨s', L', U', G', hI', HR'⟩ := hdr h
    -- the list is told by the pages
    have hsame : L'.map (·.1) = L.map (·.1) := by
      have hmem : ∀ x, x ∈ L'.map (·.1) ↔ x ∈ L.map (·.1) := fun x => by
        simp only [List.mem_map]
        constructor
        · rintro ⟨y, hy, rfl⟩
          obtain ⟨z, hz, hz2⟩ := (hI.l0 (y.1 * 512)).1 ((hI'.l0 _).2 ⟨y, hy, by omega⟩)
          exact ⟨z, hz, by omega⟩
        · rintro ⟨y, hy, rfl⟩
          obtain ⟨z, hz, hz2⟩ := (hI'.l0 (y.1 * 512)).1 ((hI.l0 _).2 ⟨y, hy, by omega⟩)
          exact ⟨z, hz, by omega⟩
      have p1 : (L'.map (·.1)).Pairwise (· < ·) := List.pairwise_map.2 hI'.srt
      have p2 : (L.map (·.1)).Pairwise (· < ·) := List.pairwise_map.2 hI.srt
      have nd1 : (L'.map (·.1)).Nodup := p1.imp fun h => by omega
      have nd2 : (L.map (·.1)).Nodup := p2.imp fun h => by omega
      exact ((List.perm_ext_iff_of_nodup nd1 nd2).2 hmem).eq_of_pairwise (fun a b _ _ h1 h2 => by omega) p1 p2
    have hl2 : L'.length = L.length := by have := congrArg List.length hsame; simpa using this
    have hg' := List.getElem?_eq_getElem (show i.toNat < L'.length by omega)
    have hc' : (L'[i.toNat]'(by omega)).1 = c.1 := by
      have h1 := congrArg (fun x : List Int => x[i.toNat]?) hsame
      simp only [List.getElem?_map, hg, hg', Option.map_some] at h1
      exact Option.some.inj h1
    obtain ⟨a, ha, hls, c1, _⟩ := rres_get HR' hg'
    rw [hc'] at c1
    have := rres_len HR'
    exact ⟨s', a, rres_hdr HR', ha, ⟨i0, by omega⟩, c1⟩
  refine LOOP_intro (fun st w' => 0 ≤ st.1 ∧ st.1 ≤ 2000 ∧ Sat (TreeP E t l :: RTree E r l :: Z) w') (fun st _ => (2001 - st.1).toNat) ⟨by decide, by decide, H21⟩ ?_
  rintro ⟨k, v⟩ _ w26 ⟨k0, k1, H26⟩
  dsimp only at k0 k1 ⊢
  refine CND_dec (fun hlt2 => ?_) fun hge2 => ?_
  · obtain ⟨s', a, d1, d2, d3, d4⟩ := look H26
    refine ⟨s', d1, ?_⟩
    rw [d2]
    simp only [NC_some]
    refine ⟨d3, _, d4, ?_⟩
    rw [u64_id (n := c.1 * 512) (by omega) (by omega), u64_id (n := k) (by omega) (by omega), u64_id (n := c.1 * 512 + k) (by omega) (by omega), i64_id (n := k + step) (by omega) (by omega)]
    exact lpage_spec hE H26 (by omega) (by omega) fun w33 H33 => CND_f rfl ⟨⟨by omega, by omega, H33⟩, by omega⟩
  · refine LOOP_intro (fun st w' => 0 ≤ st.1 ∧ st.1 ≤ 4 ∧ Sat (TreeP E t l :: RTree E r l :: Z) w') (fun st _ => (4 - st.1).toNat) ⟨by decide, by decide, H26⟩ ?_
    rintro ⟨lv, v⟩ _ w35 ⟨l0, l1, H35⟩
    dsimp only at l0 l1 ⊢
    refine CND_dec (fun hlt3 => ?_) fun hge3 => ?_
    · obtain ⟨s', a, d1, d2, d3, d4⟩ := look H35
      refine ⟨s', d1, ?_⟩
      rw [d2]
      simp only [NC_some]
      refine ⟨d3, _, d4, ?_, LET_intro fun n hn => ?_⟩
      · rw [i64_id (n := 3 - lv) (by omega) (by omega), i64_id (n := 3 * (3 - lv)) (by omega) (by omega)]; omega
      have hn2 : 0 ≤ n ∧ n < 34359738368 / pg lv := by
        rw [hn, Int.fdiv_eq_ediv_of_nonneg _ (by exact Int.pow_nonneg (by decide))]
        have : lv = 0 ∨ lv = 1 ∨ lv = 2 ∨ lv = 3 := by omega
        have e64 : IntKind.bits .u64 = 64 := rfl
        rw [e64]
        rcases this with rfl | rfl | rfl | rfl
        · have e1 : (2 : Int) ^ (min (Int.toNat (i64 (3 * (i64 (3 - 0))))) 64) = 512 := by decide
          have e2 : 34359738368 / pg 0 = 131072 := by decide
          rw [e1, e2]; omega
        · have e1 : (2 : Int) ^ (min (Int.toNat (i64 (3 * (i64 (3 - 1))))) 64) = 64 := by decide
          have e2 : 34359738368 / pg 1 = 1048576 := by decide
          rw [e1, e2]; omega
        · have e1 : (2 : Int) ^ (min (Int.toNat (i64 (3 * (i64 (3 - 2))))) 64) = 8 := by decide
          have e2 : 34359738368 / pg 2 = 8388608 := by decide
          rw [e1, e2]; omega
        · have e1 : (2 : Int) ^ (min (Int.toNat (i64 (3 * (i64 (3 - 3))))) 64) = 1 := by decide
          have e2 : 34359738368 / pg 3 = 67108864 := by decide
          rw [e1, e2]; omega
      have hp := pg_pos (lv := lv) l0 (by omega)
      have hb : 34359738368 / pg lv ≤ 34359738368 := Int.ediv_le_self _ (by decide)
      rw [i64_id (n := lv + 1) (by omega) (by omega)]
      refine tsumB_sat hE H35 (by omega) (by omega) hn2.1 (by omega) (fun h => by omega) fun _ s1 m1 e1 w46 hS H46 => ?_
      refine AL_cells H46 fun b47 w48 H48 _ => st_three H48 rfl fun w49 H49 => ⟨5, ?_⟩
      refine rSum_spec 5 (H49.front 2 rfl) l0 (by omega) (by omega) hn2.1 (by omega) (fun h => by omega) fun _ s2 m2 e2 w54 hS2 H54 => ?_
      obtain ⟨rfl, rfl, rfl⟩ := hS.uniq hS2
      refine AL_cells H54 fun b55 w56 H56 _ => st_three H56 rfl fun w57 H57 => ?_
      have c47 := H57.front 2 rfl
      refine JOIN_in ⟨s1, c47.cell rfl, m1, c47.cell rfl, e1, c47.cell rfl, s1, H57.cell rfl, m1, H57.cell rfl, e1, H57.cell rfl, CND_f (by simp) fun j => CND_f (by simp) ?_⟩
      exact ⟨⟨by omega, by omega, ((c47.tail).tail).perm (.swap _ _ _)⟩, by omega⟩
    · rw [i64_id (n := i + 1) (by omega) (by omega)]
      exact ⟨⟨by omega, by omega, H35⟩, by omega⟩

omit hE in
theorem lheavy_spec (H : Sat Z w) {a : SlV} {z : Nat → Int × Int × Int × Unit} (hrow : ∀ w', Sat Z w' → RowA w' TAct a z) {K : Bool → World → Prop} (hk1 : ∀ w', Sat Z w' → K true w') (hk0 : a.len ≤ 150 → ∀ w', Sat Z w' → K false w') : F.mallowlaw9_heavy E a K w := by
  unfold F.mallowlaw9_heavy
  refine CND_dec (fun _ => hk1 w H) fun hle => ?_
  refine LOOP_intro (fun st w' => 0 ≤ st.2.1 ∧ st.2.1 ≤ a.len ∧ w' = w) (fun st _ => (a.len - st.2.1).toNat) ⟨Int.le_refl _, by show (0 : Int) ≤ a.len; omega, rfl⟩ ?_
  rintro ⟨n, i, v⟩ _ w2 ⟨i0, i1, rfl⟩
  dsimp only at i0 i1 ⊢
  refine CND_dec (fun hlt => ?_) fun hge => hk0 (by omega) w2 H
  obtain ⟨x, hx, c0, c1, c2, _⟩ := tact_cells (hrow _ H) (j := i.toNat) (by omega)
  rw [hx]
  simp only [NC_some]
  have hii : (0 : Int) ≤ i ∧ i < (a.len : Int) := ⟨i0, by omega⟩
  rw [i64_id (n := i + 1) (by omega) (by omega)]
  refine JOIN_st (fun _ w' => w' = w2) ?_ ?_
  · refine JOIN_in ⟨hii, _, c0, CND_eq (fun _ => ⟨hii, _, c2, fun j => CND_dec (fun _ => ⟨hii, _, c2, CND_dec (fun _ => hk1 w2 H) fun _ => ⟨hii, _, c2, rfl⟩⟩) fun _ => rfl⟩) fun _ j => CND_f rfl rfl⟩
  · rintro ⟨n', v⟩ _ w6 rfl
    exact CND_dec (fun _ => hk1 w6 H) fun _ => ⟨⟨by omega, by omega, rfl⟩, by omega⟩

theorem rplays_spec {a : SlV} {z : Nat → Int × Int × Int × Unit} (ha : RowA w TAct a z) {K : Bool → World → Prop} (hK : ∀ w', Ext Nothing w w' → K true w') : F.mallowlaw9_RadixPlays E a K w := by
  unfold F.mallowlaw9_RadixPlays
  refine lheavy_spec (Sat.start w) (fun w' h => TRow.old ha (h.old 0 rfl)) (fun w' h => CND_t rfl (hK _ (h.old 0 rfl))) fun hlen w2 H2 => CND_f rfl ?_
  refine tnew_sat H2 fun w4 t l hl H4 => ?_
  refine AL_cells H4 fun b5 w6 H6 _ => CND_f rfl ?_
  have H7 : Sat (TreeP E t l :: RTree E b5 l :: [Old w]) w6 := (H6.rtreeNil hl).perm (.swap _ _ _)
  refine LOOP_intro (fun st w' => ∃ (i : Nat) (l : Nat → Iv), st.1 = (i : Int) ∧ i ≤ a.len ∧ Sat (TreeP E t l :: RTree E b5 l :: [Old w]) w') (fun st _ => (a.len - st.1).toNat) ⟨0, l, rfl, Nat.zero_le _, H7⟩ ?_
  clear H7 H6 H4
  rintro ⟨i', v⟩ _ w8 ⟨i, l, hi, hil, H8⟩
  dsimp only at hi ⊢
  subst hi
  refine CND_dec (fun hlt => ?_) fun hge => ?_
  · obtain ⟨x, hx, c0, c1, c2, _, wa, wn⟩ := tact_cells (TRow.old ha (H8.old 2 rfl)) (j := i) (by omega)
    rw [hx]
    simp only [NC_some, Int.toNat_natCast]
    rw [i64_id (n := (i : Int) + 1) (by omega) (by omega)]
    have fin : ∀ {w' l'}, Sat (TreeP E t l' :: RTree E b5 l' :: [Old w]) w' → (∃ (i_1 : Nat) (l : Nat → Iv), (i : Int) + 1 = (i_1 : Int) ∧ i_1 ≤ a.len ∧ Sat (TreeP E t l :: RTree E b5 l :: [Old w]) w') ∧ (a.len - ((i : Int) + 1)).toNat < (a.len - (i : Int)).toNat := fun h => ⟨⟨i + 1, _, by omega, by omega, h⟩, by omega⟩
    refine JOIN_in ⟨⟨by omega, by omega⟩, _, (by rw [add_zero]; exact c0), _, c1, _, c2, ?_⟩
    refine lact_spec hE H8 wa wn fun w18 l' H18 => CND_f rfl ⟨by decide, CND_eq (fun _ => lsame_spec hE H18 (by decide) (by decide) fun w20 H20 j => CND_f rfl (fin H20)) fun _ j => CND_f rfl (fin H18)⟩
  · exact lsame_spec hE H8 (by decide) (by decide) fun w22 H22 => CND_t rfl (rawake_spec hE fun w' he => hK _ ((H22.nothing he).old 2 rfl))

theorem rapart_spec {a a1 : SlV} {z : Nat → Int × Int × Int × Unit} {z1 : Nat → Bool} (ha : RowA w TAct a z) (ha1 : RowA w .bool a1 z1) {K : Bool → World → Prop} (hK : ∀ w', Ext Nothing w w' → K true w') : F.mallowlaw9_RadixApart E a a1 K w := by
  unfold F.mallowlaw9_RadixApart
  refine lheavy_spec (Sat.start w) (fun w' h => TRow.old ha (h.old 0 rfl)) (fun w' h => CND_t rfl (hK _ (h.old 0 rfl))) fun hlen w2 H2 => CND_f rfl ?_
  refine tnew_sat H2 fun w4 t l hl H4 => tnew_sat H4 fun w6 u m hm H6 => ?_
  refine AL_cells H6 fun b7 w8 H8 _ => AL_cells H8 fun b9 w10 H10 _ => ?_
  refine JOIN_in (CND_f rfl fun j => CND_f rfl ?_)
  have H11 : Sat (TreeP E t l :: RTree E b7 l :: TreeP E u m :: RTree E b9 m :: [Old w]) w10 := by
    have h1 := H10.rtreeNil hm
    have h2 := (h1.front 1 rfl).rtreeNil hl
    have h3 := h2.front 3 rfl
    exact h3.perm (.cons _ (.cons _ (.swap _ _ _)))
  refine LOOP_intro (fun st w' => ∃ (i : Nat) (l m : Nat → Iv), st.1 = (i : Int) ∧ i ≤ a.len ∧ Sat (TreeP E t l :: RTree E b7 l :: TreeP E u m :: RTree E b9 m :: [Old w]) w') (fun st _ => (a.len - st.1).toNat) ⟨0, l, m, rfl, Nat.zero_le _, H11⟩ ?_
  clear H11 H10 H8 H6 H4
  rintro ⟨i', v⟩ _ w15 ⟨i, l, m, hi, hil, H15⟩
  dsimp only at hi ⊢
  subst hi
  have swap2 : ∀ {w' l m}, Sat (TreeP E t l :: RTree E b7 l :: TreeP E u m :: RTree E b9 m :: [Old w]) w' → Sat (TreeP E u m :: RTree E b9 m :: TreeP E t l :: RTree E b7 l :: [Old w]) w' := fun h => h.perm (by
    have : ∀ (a b c d e : Pr), [a, b, c, d, e].Perm [c, d, a, b, e] := fun a b c d e => by
      have h1 : ([a, b] ++ [c, d] ++ [e]).Perm ([c, d] ++ [a, b] ++ [e]) := List.perm_append_comm.append_right _
      exact h1
    exact this _ _ _ _ _)
  have swap3 : ∀ {w' l m}, Sat (TreeP E u m :: RTree E b9 m :: TreeP E t l :: RTree E b7 l :: [Old w]) w' → Sat (TreeP E t l :: RTree E b7 l :: TreeP E u m :: RTree E b9 m :: [Old w]) w' := fun h => h.perm (by
    have : ∀ (a b c d e : Pr), [a, b, c, d, e].Perm [c, d, a, b, e] := fun a b c d e => by
      have h1 : ([a, b] ++ [c, d] ++ [e]).Perm ([c, d] ++ [a, b] ++ [e]) := List.perm_append_comm.append_right _
      exact h1
    exact this _ _ _ _ _)
  refine CND_dec (fun hlt => ?_) fun hge => ?_
  · have hold := H15.old 4 rfl
    obtain ⟨x, hx, c0, c1, c2, _, wa, wn⟩ := tact_cells (TRow.old ha hold) (j := i) (by omega)
    rw [i64_id (n := (i : Int) + 1) (by omega) (by omega)]
    have fin : ∀ {w' l m}, Sat (TreeP E t l :: RTree E b7 l :: TreeP E u m :: RTree E b9 m :: [Old w]) w' → (∃ (i_1 : Nat) (l m : Nat → Iv), (i : Int) + 1 = (i_1 : Int) ∧ i_1 ≤ a.len ∧ Sat (TreeP E t l :: RTree E b7 l :: TreeP E u m :: RTree E b9 m :: [Old w]) w') ∧ (a.len - ((i : Int) + 1)).toNat < (a.len - (i : Int)).toNat := fun h => ⟨⟨i + 1, _, _, by omega, by omega, h⟩, by omega⟩
    refine JOIN_st (fun _ w' => w' = w15) ?_ ?_
    · refine CND_dec (fun hlt2 => ?_) fun _ => rfl
      obtain ⟨x1, hx1, hc1, _⟩ := ha1.2.2 i (show i < a1.len by omega)
      have hc1 := hc1 0 _ rfl
      have hc1 : w.cell? (x1.add i) = some (.bool (z1 i)) := by
        have e : i * AT.size .bool + 0 = i := by show i * 1 + 0 = i; omega
        rw [e] at hc1; exact hc1
      rw [hx1]
      simp only [NC_some, Int.toNat_natCast, Nat.mul_one]
      exact ⟨⟨by omega, by omega⟩, z1 i, hold.cell hc1 fun f => f, by trivial⟩
    · rintro ⟨bb, v⟩ _ w19 rfl
      rw [hx]
      simp only [NC_some, Int.toNat_natCast]
      refine CND_intro (fun _ => ⟨⟨by omega, by omega⟩, _, (by rw [add_zero]; exact c0), _, c1, _, c2, ?_⟩) fun _ => ⟨⟨by omega, by omega⟩, _, (by rw [add_zero]; exact c0), _, c1, _, c2, ?_⟩
      · exact lact_spec hE (swap2 H15) wa wn fun w27 l' H27 => CND_f rfl (fin (swap3 H27))
      · exact lact_spec hE H15 wa wn fun w27 l' H27 => CND_f rfl (fin H27)
  · refine lsame_spec hE H15 (by decide) (by decide) fun w22 H22 => CND_t rfl (lsame_spec hE (swap2 H22) (by decide) (by decide) fun w37 H37 => CND_t rfl (rawake_spec hE fun w' he => hK _ ((H37.nothing he).old 4 rfl)))

end
end Go.Sh
