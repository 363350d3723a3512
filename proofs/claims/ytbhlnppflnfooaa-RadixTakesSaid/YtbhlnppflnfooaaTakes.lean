/- The law RadixTakes holds: for every input the Go function returns true and leaves its arguments alone. No further condition. -/
import Derived.Test.YtbhlnppflnfooaaR
import Derived.Test.YtbhlnppflnfooaaA
import Derived.Test.YtbhlnppflnfooaaT
import Derived.Test.YtbhlnppflnfooaaRows
import Derived.WalkKit
import Derived.ProofKit
import Derived.OpenShut
set_option linter.all false
set_option maxRecDepth 4000
namespace Go.Sh

/-- A slice of numbers that came in. -/
def InRow (k : IntKind) (w : World) (s : SlV) (z : Nat → Int) : Prop := ∀ i, i < s.len → ∃ x, s.base = some x ∧ w.cell? (x.add i) = some (.int k (z i)) ∧ (Lit.int k (z i)).wf = true

theorem InRow.ext {k : IntKind} {w w' : World} {s : SlV} {z : Nat → Int} (h : InRow k w s z) (he : Ext Nothing w w') : InRow k w' s z := fun i hi => by
  obtain ⟨x, h1, h2, h3⟩ := h i hi
  exact ⟨x, h1, he.cell h2 fun f => f, h3⟩

theorem InRow.of {k : IntKind} {w : World} {s : SlV} {z : Nat → Int} (h : RowA w (.int k) s z) : InRow k w s z := fun i hi => h.cell1 hi

/-- Something beside the tree has changed. -/
theorem TMade.side {E : Env} {w w1 w2 : World} {b g : Nat} {G : TreeG} (h : TMade E w w1 b G) (he : Ext (Only g) w1 w2) (hg : w.heap.size ≤ g) (hn : ¬ TOwns b G g) : TMade E w w2 b G :=
  ⟨h.rep.ext he fun k hk e => hn (by have : k = g := e; exact this ▸ hk), h.ext.trans he (fun _ _ f => f) fun k hk e => by have : k = g := e; omega, h.young⟩

/-- A row of bools of the call's own. -/
structure Bools (w : World) (g n : Nat) (u : Int → Bool) : Prop where
  cell : ∀ i : Nat, i < n → w.cell? ⟨g, i, none⟩ = some (.bool (u i))
  frz : ∀ i : Nat, i < n → w.frozen? ⟨g, i, none⟩ = false
  lt : g < w.heap.size

theorem Bools.ext {w w' : World} {g n : Nat} {u : Int → Bool} {S : Nat → Prop} (h : Bools w g n u) (he : Ext S w w') (hs : ¬ S g) : Bools w' g n u :=
  ⟨fun i hi => he.cell (h.cell i hi) hs, fun i hi => by rw [he.frozen (p := ⟨g, i, none⟩) h.lt hs]; exact h.frz i hi, by have := he.size; have := h.lt; omega⟩

theorem Bools.set {w w' : World} {g n : Nat} {u : Int → Bool} (h : Bools w g n u) {k : Nat} (hk : k < n) {v : Bool} (hst : Stored ⟨g, k, none⟩ (.bool v) w w') : Bools w' g n fun i => if i = k then v else u i := by
  refine ⟨fun i hi => ?_, fun i hi => by rw [hst.frozen]; exact h.frz i hi, by have := hst.size; have := h.lt; omega⟩
  by_cases e : i = k
  · subst e; simp only [if_true]; exact hst.same
  · have e' : ¬ ((i : Int) = (k : Int)) := by omega
    simp only [if_neg e']
    rw [hst.other _ (by intro e2; injection e2 with _ e2; exact e e2)]
    exact h.cell i hi

theorem mkZero_get {v : Value} {n i : Nat} (hi : i < n) : (mkZero #[v] n)[i]? = some v := by
  unfold mkZero
  simp [hi, Nat.mod_one]

theorem bools_new {w w' : World} {t n : Nat} (h : w'.heap[w.heap.size]? = some (.cells (mkZero #[.bool false] n) t)) : Bools w' w.heap.size n fun _ => false :=
  ⟨fun i hi => by rw [cell_of_block h]; exact mkZero_get hi, fun i hi => by simp [World.frozen?, h], block_lt h⟩

end Go.Sh

set_option linter.all false
set_option maxRecDepth 4000
namespace Go.Sh

section
variable {E : Env} (hE : EnvS E) {w : World} {b : Nat} {G : TreeG}
include hE

theorem take_spec1 (h : TreeR E w b G) {x n : Int} (hx0 : 0 ≤ x) (hx : x < 18446744073709551616) (hn0 : 0 ≤ n) (hn : n < 18446744073709551616) {K : Int → Int → World → Prop}
    (hK : ∀ g r w' G', TStep E b w G w' G' → r = lookedR G.l x n true 32 → (r ≠ 0 → g = 0 ∧ G'.l = G.l) →
      (r = 0 → g = cnt (G.l 2) x (x + n) ∧ G'.l = Sh.upd (Sh.upd (Sh.upd G.l 1 (cutL (G.l 1) x (x + n))) 2 (cutL (G.l 2) x (x + n))) 3 (cutL (G.l 3) x (x + n))) → K g r w') :
    F.radix_Tree_Take E (some ⟨b, 0, none⟩) x n K w :=
  take_spec hE h hx0 hx hn0 hn (fun hne w' hw' => hK _ _ w' G (TStep.nothing h hw') rfl (fun _ => ⟨rfl, rfl⟩) fun e => absurd e hne)
    fun hz w' G' hs hl => hK _ _ w' G' hs hz.symm (fun e => absurd rfl e) fun _ => ⟨rfl, hl⟩
end

/-- What stands between two rows that are taken. -/
structure TakesI (E : Env) (w0 w : World) (b g : Nat) (G : TreeG) (u : Int → Bool) (free : Int) : Prop where
  made : TMade E w0 w b G
  bools : Bools w g 1024 u
  new : w0.heap.size ≤ g
  apart : ¬ TOwns b G g
  l0 : G.l 0 = [(1024, 2048)]
  l2 : G.l 2 = G.l 1
  m : ∀ n, mem (G.l 1) n ↔ 1024 ≤ n ∧ n < 2048 ∧ u (n - 1024) = false
  tot : tot (G.l 1) = free

theorem TakesI.nothing {E : Env} {w0 w w' : World} {b g : Nat} {G : TreeG} {u : Int → Bool} {free : Int} (h : TakesI E w0 w b g G u free) (he : Ext Nothing w w') : TakesI E w0 w' b g G u free :=
  ⟨h.made.nothing he, h.bools.ext he fun f => f, h.new, h.apart, h.l0, h.l2, h.m, h.tot⟩

theorem takes_looked {E : Env} {w0 w : World} {b g : Nat} {G : TreeG} {u : Int → Bool} {free : Int} (h : TakesI E w0 w b g G u free) {a n : Int} (ha : 0 ≤ a) (ha2 : a ≤ 1100) (hn : 0 ≤ n) (hn2 : n ≤ 1100) :
    ((n = 0 ∨ 1024 < a + n) → lookedR G.l (1024 + a) n true 32 = 10) ∧
    (¬ (n = 0 ∨ 1024 < a + n) → (∃ m, a ≤ m ∧ m < a + n ∧ u m = true) → lookedR G.l (1024 + a) n true 32 = 32) ∧
    (¬ (n = 0 ∨ 1024 < a + n) → (¬ ∃ m, a ≤ m ∧ m < a + n ∧ u m = true) → lookedR G.l (1024 + a) n true 32 = 0) := by
  have hok := (h.made.rep.sets.sets 1 (by decide)).row.ok
  have hc0 : cnt (G.l 0) (1024 + a) (1024 + a + n) = max 0 (min 2048 (1024 + a + n) - max 1024 (1024 + a)) := by rw [h.l0]; simp only [cnt, cnt1]; omega
  have hfull := cnt_full hok (a := 1024 + a) (b := 1024 + a + n) (by omega)
  refine ⟨fun hb => ?_, fun hb hex => ?_, fun hb hno => ?_⟩
  · unfold lookedR
    rw [if_pos]
    rw [hc0]
    by_cases h0 : n = 0
    · exact .inl h0
    · right; right; right; omega
  · unfold lookedR
    rw [if_neg (by rw [hc0]; omega), if_pos]
    intro e
    have e2 : cnt (G.l 1) (1024 + a) (1024 + a + n) = n := e
    obtain ⟨m, h1, h2, h3⟩ := hex
    have := (h.m (1024 + m)).1 (hfull.1 (by omega) (1024 + m) (by omega) (by omega))
    rw [show 1024 + m - 1024 = m from by omega, h3] at this
    exact absurd this.2.2 (by decide)
  · unfold lookedR
    rw [if_neg (by rw [hc0]; omega), if_neg]
    intro e
    apply e
    have := hfull.2 fun m h1 h2 => (h.m m).2 ⟨by omega, by omega, ?_⟩
    · show cnt (G.l 1) (1024 + a) (1024 + a + n) = n
      omega
    · cases hu : u (m - 1024) with
      | false => rfl
      | true => exact absurd ⟨m - 1024, by omega, by omega, hu⟩ hno

section
variable {E : Env} (hE : EnvS E) {w : World}
include hE

theorem takes_spec {at_ n_ : SlV} {za zn : Nat → Int} (hat : InRow .u64 w at_ za) (hnn : InRow .u64 w n_ zn) (hal : at_.len < 9223372036854775808) (hnl : n_.len < 9223372036854775808)
    {K : Bool → World → Prop} (hK : ∀ w', Ext Nothing w w' → K true w') : F.mallowlaw9_RadixTakes E at_ n_ K w := by
  unfold F.mallowlaw9_RadixTakes
  refine JOIN_intro (fun st w' => w' = w ∧ (st.1 = false → at_.len ≤ 60 ∧ n_.len ≤ 60)) ?_ ?_
  · refine CND_dec (fun _ => ⟨rfl, fun e => by cases e⟩) fun g1 => ⟨rfl, fun e => ?_⟩
    have := of_decide_eq_false e
    omega
  rintro ⟨bt, u⟩ _ w3 ⟨rfl, hbt⟩
  simp only at hbt ⊢
  refine CND_intro (fun _ => hK _ (Ext.refl _ _)) (fun e => ?_)
  obtain ⟨g1, g2⟩ := hbt e
  refine tnew_spec fun w5 b G hm5 hl => ?_
  refine JOIN_intro (fun st w' => st.1 = false ∧ ∃ G', TMade E w3 w' b G' ∧ ∀ i, i < 3 → G'.l i = [(1024, 2048)]) ?_ ?_
  · refine CND_intro (fun e => by cases e) (fun _ => ?_)
    refine grow_spec hE hm5.rep (by decide) (by decide) (by decide) (by decide) (fun h => by omega) (fun _ h => ?_) fun _ _ w10 G10 hs10 hl10 => ?_
    · rw [hl] at h; exact absurd rfl h
    refine ⟨rfl, G10, hm5.step hs10, fun i hi => ?_⟩
    have : G10.l i = addL (G.l i) (2 * 512) ((2 + 2) * 512) := by
      have hi3 : i = 0 ∨ i = 1 ∨ i = 2 := by omega
      rw [hl10]
      rcases hi3 with rfl | rfl | rfl <;> rfl
    rw [this, hl, addL_nil hE]
    decide
  rintro ⟨bt2, u⟩ _ w8 ⟨hb2, G8, hm8, hl8⟩
  simp only at hb2
  subst hb2
  refine CND_intro (fun e => by cases e) (fun _ => ?_)
  refine ⟨⟨by decide, by decide, by decide, by decide⟩, AL_intro fun w12 hb12 hsz12 he12 => ?_⟩
  have hbs := bools_new (n := 1024) hb12
  obtain ⟨g, hg⟩ : ∃ g, g = w8.heap.size := ⟨_, rfl⟩
  rw [← hg] at hbs ⊢
  have hI0 : TakesI E w3 w12 b g G8 (fun _ => false) 1024 := by
    refine ⟨hm8.nothing he12, hbs, by have := hm8.ext.size; omega, fun e => by have := hm8.rep.owns_lt e; omega, hl8 0 (by decide), by rw [hl8 2 (by decide), hl8 1 (by decide)], fun n => ?_, by rw [hl8 1 (by decide)]; decide⟩
    rw [hl8 1 (by decide)]
    constructor
    · rintro ⟨p, hp, h1, h2⟩
      rw [List.mem_singleton] at hp; subst hp
      exact ⟨h1, h2, rfl⟩
    · rintro ⟨h1, h2, _⟩; exact ⟨(1024, 2048), List.mem_singleton.2 rfl, h1, h2⟩
  refine JOIN_intro (fun _ w' => ∃ G' u free, TakesI E w3 w' b g G' u free) ?_ ?_
  · refine LOOP_intro (fun st w' => ∃ (k : Nat) (G' : TreeG) (u : Int → Bool), st.2.1 = (k : Int) ∧ k ≤ at_.len ∧ 0 ≤ st.1 ∧ st.1 ≤ 1024 ∧ TakesI E w3 w' b g G' u st.1) (fun st _ => (at_.len - st.2.1).toNat) ⟨0, G8, _, rfl, Nat.zero_le _, by decide, by decide, hI0⟩ ?_
    rintro ⟨free, i, v⟩ _ w17 ⟨k, G1, u, hk, hkl, hf0, hf1, hI⟩
    simp only at hk hf0 hf1 hI ⊢
    subst hk
    refine CND_dec (fun hlt => CND_dec (fun hlt2 => ?_) fun _ => ⟨G1, u, free, hI⟩) fun _ => ⟨G1, u, free, hI⟩
    have hka : k < at_.len := by omega
    have hkn : k < n_.len := by omega
    obtain ⟨xa, ha, hca, hwa⟩ := hat k hka
    obtain ⟨xn, hn, hcn, hwn⟩ := hnn k hkn
    have hza : 0 ≤ za k ∧ za k < 18446744073709551616 := by
      have h1 : (decide (IntKind.u64.min ≤ za k) && decide (za k ≤ IntKind.u64.max)) = true := hwa
      rw [Bool.and_eq_true, decide_eq_true_iff, decide_eq_true_iff] at h1
      have e1 : IntKind.u64.min = 0 := by decide
      have e2 : IntKind.u64.max = 18446744073709551615 := by decide
      omega
    have hzn : 0 ≤ zn k ∧ zn k < 18446744073709551616 := by
      have h1 : (decide (IntKind.u64.min ≤ zn k) && decide (zn k ≤ IntKind.u64.max)) = true := hwn
      rw [Bool.and_eq_true, decide_eq_true_iff, decide_eq_true_iff] at h1
      have e1 : IntKind.u64.min = 0 := by decide
      have e2 : IntKind.u64.max = 18446744073709551615 := by decide
      omega
    generalize hA : za k = a at hca hza
    generalize hN : zn k = n at hcn hzn
    have ca : ∀ {w'}, Ext Nothing w3 w' → w'.cell? (xa.add k) = some (.int .u64 a) := fun he => he.cell hca fun f => f
    have cn : ∀ {w'}, Ext Nothing w3 w' → w'.cell? (xn.add k) = some (.int .u64 n) := fun he => he.cell hcn fun f => f
    have hd : ∀ w, Ext Nothing w w.drew := fun w => Ext.drew _ w
    rw [ha, hn]
    simp only [NC_some, Int.toNat_natCast, Nat.mul_one]
    refine JOIN_intro (fun st w' => w' = w17 ∧ (st.1 = false → a ≤ 1100 ∧ n ≤ 1100)) ?_ ?_
    · refine ⟨⟨by omega, by omega⟩, a, ca hI.made.ext, CND_dec (fun _ => ⟨rfl, fun e => by cases e⟩) fun h1 => ⟨⟨by omega, by omega⟩, n, cn hI.made.ext, rfl, fun e => ?_⟩⟩
      have := of_decide_eq_false e
      omega
    rintro ⟨bt, v⟩ _ w21 ⟨rfl, hbt⟩
    simp only at hbt ⊢
    refine CND_intro (fun _ => hK _ hI.made.ext) (fun e => ?_)
    obtain ⟨ha1, hn1⟩ := hbt e
    have hId := hI.nothing (hd w21)
    refine ⟨⟨by omega, by omega⟩, a, ca hId.made.ext, ⟨by omega, by omega⟩, n, cn hId.made.ext, ?_⟩
    rw [u64_id (n := 1024 + a) (by omega) (by omega)]
    refine take_spec1 hE hId.made.rep (by omega) (by omega) hzn.1 hzn.2 fun r30 r31 w32 G2 hs32 hr31 hbad hgood => ?_
    have hm32 := hId.made.step hs32
    have hlk := takes_looked hId hza.1 ha1 hzn.1 hn1
    have hglt : g < w21.drew.heap.size := hId.bools.lt
    have hb32 : Bools w32 g 1024 u := hId.bools.ext hs32.ext hId.apart
    have hap32 : ¬ TOwns b G2 g := fun e => by
      rcases hs32.owns g e with e | e
      · exact hId.apart e
      · omega
    refine ⟨ca hm32.ext, ?_⟩
    have eadd : u64 (a + n) = a + n := u64_id (by omega) (by omega)
    refine JOIN_intro (fun st w' => Ext Nothing w32 w' ∧ st.1 = r31) ?_ ?_
    · refine JOIN_intro (fun st w' => Ext Nothing w32 w' ∧ (st.1 = true ↔ n = 0 ∨ 1024 < a + n)) ?_ ?_
      · have hmd := hm32.ext.trans' (hd w32)
        refine ⟨⟨by omega, by omega⟩, n, cn hmd, CND_intro (fun e => ⟨hd _, ?_⟩) (fun e => ⟨⟨by omega, by omega⟩, a, ca hmd, ⟨by omega, by omega⟩, n, cn hmd, hd _, ?_⟩)⟩
        · have : n = 0 := by simpa using e
          simp [this]
        · have : n ≠ 0 := by simpa using e
          rw [eadd]
          simp only [decide_eq_true_iff]; omega
      · rintro ⟨bt, v⟩ _ w38 ⟨hw38, hbt⟩
        simp only at hbt ⊢
        refine CND_intro (fun e => ⟨hw38, ?_⟩) (fun e => ?_)
        · rw [hr31, hlk.1 (hbt.1 e)]
        · have hno : ¬ (n = 0 ∨ 1024 < a + n) := fun h => by rw [hbt.2 h] at e; cases e
          have hm38 := hm32.nothing hw38
          refine ⟨⟨by omega, by omega⟩, a, ca hm38.ext, LOOP_intro (fun st w' => a ≤ st.2.1 ∧ st.2.1 ≤ a + n ∧ Ext Nothing w32 w' ∧ ((st.1 = 32 ∧ ∃ m, a ≤ m ∧ m < st.2.1 ∧ u m = true) ∨ (st.1 = 0 ∧ ¬ ∃ m, a ≤ m ∧ m < st.2.1 ∧ u m = true)))
            (fun st _ => (a + n - st.2.1).toNat) ⟨Int.le_refl _, by simp only; omega, hw38, .inr ⟨rfl, by rintro ⟨m, h1, h2, _⟩; simp only at h2; omega⟩⟩ ?_⟩
          rintro ⟨want, j, v⟩ _ w48 ⟨hj1, hj2, hw48, hwant⟩
          simp only at hj1 hj2 hwant ⊢
          have hw48d := hw48.trans' (hd w48)
          have hm48 := hm32.ext.trans' hw48d
          refine ⟨⟨by omega, by omega⟩, a, ca hm48, ⟨by omega, by omega⟩, n, cn hm48, ?_⟩
          rw [eadd]
          refine CND_dec (fun hlt => ?_) (fun hge => ⟨hw48d, ?_⟩)
          · have ej : u64 (j + 1) = j + 1 := u64_id (by omega) (by omega)
            have hjn : j.toNat < 1024 := by omega
            have hjj : ((j.toNat : Nat) : Int) = j := by omega
            have hc := (hb32.ext hw48d fun f => f).cell j.toNat hjn
            rw [hjj] at hc
            refine ⟨⟨by omega, by have : Int.toNat 1024 = 1024 := rfl; omega⟩, u j, by rw [add_eq, Nat.zero_add]; exact hc, ?_⟩
            rw [ej]
            refine CND_intro (fun hu => ⟨⟨by omega, by omega, hw48d, .inl ⟨trivial, j, hj1, by omega, hu⟩⟩, by omega⟩) (fun hu => ⟨⟨by omega, by omega, hw48d, ?_⟩, by omega⟩)
            rcases hwant with ⟨h1, m, h2, h3, h4⟩ | ⟨h1, h2⟩
            · exact .inl ⟨h1, m, h2, by omega, h4⟩
            · refine .inr ⟨h1, ?_⟩
              rintro ⟨m, h3, h4, h5⟩
              by_cases e : m = j
              · subst e; rw [h5] at hu; cases hu
              · exact h2 ⟨m, h3, by omega, h5⟩
          · have hje : j = a + n := by omega
            subst hje
            rcases hwant with ⟨h1, h2⟩ | ⟨h1, h2⟩
            · rw [h1, hr31, hlk.2.1 hno h2]
            · rw [h1, hr31, hlk.2.2 hno h2]
    rintro ⟨want, v⟩ _ w35 ⟨hw35, hwant⟩
    simp only at hwant
    have hwant2 := hwant.symm
    subst hwant2
    have hm35 := hm32.nothing hw35
    -- what is known where it went well
    have hok : r31 = 0 → n ≠ 0 ∧ a + n ≤ 1024 ∧ (∀ m, a ≤ m → m < a + n → u m = false) ∧ r30 = n ∧ G2.l 1 = cutL (G1.l 1) (1024 + a) (1024 + a + n) ∧ G2.l 2 = cutL (G1.l 1) (1024 + a) (1024 + a + n) ∧ G2.l 0 = G1.l 0 := by
      intro hz
      obtain ⟨q1, q2⟩ := hgood hz
      have hno : ¬ (n = 0 ∨ 1024 < a + n) := fun h => by have := hlk.1 h; rw [← hr31, hz] at this; cases this
      have hall : ∀ m, a ≤ m → m < a + n → u m = false := fun m h1 h2 => by
        cases hu : u m with
        | false => rfl
        | true => have := hlk.2.1 hno ⟨m, h1, h2, hu⟩; rw [← hr31, hz] at this; cases this
      have hok1 := (hI.made.rep.sets.sets 1 (by decide)).row.ok
      have hc : cnt (G1.l 1) (1024 + a) (1024 + a + n) = n := by
        have := (cnt_full hok1 (a := 1024 + a) (b := 1024 + a + n) (by omega)).2 fun m h1 h2 => (hI.m m).2 ⟨by omega, by omega, hall _ (by omega) (by omega)⟩
        omega
      refine ⟨by omega, by omega, hall, by rw [q1, hI.l2, hc], by rw [q2]; rfl, ?_, by rw [q2]; rfl⟩
      rw [q2]
      show cutL (G1.l 2) _ _ = _
      rw [hI.l2]
    refine JOIN_intro (fun st w' => w' = w35 ∧ st.1 = false) ?_ ?_
    · refine CND_intro (fun e => by simp at e) (fun _ => CND_intro (fun e => ?_) (fun e => ?_))
      · have hne : r31 ≠ 0 := by simpa using e
        refine CND_intro (fun e2 => ?_) (fun e2 => CND_intro (fun e3 => absurd (by simpa using e3) hne) fun _ => ⟨rfl, rfl⟩)
        have : r30 ≠ 0 := by simpa using e2
        exact absurd (hbad hne).1 this
      · have hz : r31 = 0 := by simpa using e
        refine CND_intro (fun _ => ⟨⟨by omega, by omega⟩, n, cn hm35.ext, rfl, ?_⟩) (fun e => ?_)
        · rw [(hok hz).2.2.2.1]; simp
        · rw [hz] at e; cases e
    rintro ⟨bt, v⟩ _ w57 ⟨rfl, hb⟩
    simp only at hb
    subst hb
    refine CND_intro (fun e => by cases e) (fun _ => ?_)
    refine JOIN_intro (fun st w' => 0 ≤ st.1 ∧ st.1 ≤ 1024 ∧ ∃ u', TakesI E w3 w' b g G2 u' st.1) ?_ ?_
    · refine CND_intro (fun e => ?_) (fun e => ⟨hf0, hf1, u, ?_⟩)
      · have hz : r31 = 0 := by simpa using e
        obtain ⟨k1, k2, k3, k4, k5, k6, k7⟩ := hok hz
        have hok1 := (hI.made.rep.sets.sets 1 (by decide)).row.ok
        have hc : cnt (G1.l 1) (1024 + a) (1024 + a + n) = n := by
          have := (cnt_full hok1 (a := 1024 + a) (b := 1024 + a + n) (by omega)).2 fun m h1 h2 => (hI.m m).2 ⟨by omega, by omega, k3 _ (by omega) (by omega)⟩
          omega
        have hfree : n ≤ free := by
          have h1 := tot_cutL hok1 (a := 1024 + a) (b := 1024 + a + n) (by omega)
          have h2 := tot_nonneg (Ok_cutL hok1 (a := 1024 + a) (b := 1024 + a + n) (by omega))
          have := hI.tot
          omega
        refine ⟨⟨by omega, by omega⟩, a, ca hm35.ext, LOOP_intro (fun st w' => a ≤ st.1 ∧ st.1 ≤ a + n ∧ Ext (Only g) w57 w' ∧ Bools w' g 1024 (fun m => if a ≤ m ∧ m < st.1 then true else u m)) (fun st _ => (a + n - st.1).toNat)
          ⟨Int.le_refl _, by simp only; omega, Ext.refl _ _, ?_⟩ ?_⟩
        · have hbb := hb32.ext hw35 fun f => f
          have : (fun m : Int => if a ≤ m ∧ m < a then true else u m) = u := by funext m; rw [if_neg (by omega)]
          simp only [this]
          exact hbb
        · rintro ⟨j, v⟩ _ w68 ⟨hj1, hj2, hw68, hbl⟩
          simp only at hj1 hj2 hbl ⊢
          have hw68d : Ext (Only g) w57 w68.drew := hw68.trans' (hd w68).any
          have hms := hm35.side hw68d hI.new hap32
          refine ⟨⟨by omega, by omega⟩, a, ca hms.ext, ⟨by omega, by omega⟩, n, cn hms.ext, ?_⟩
          rw [eadd]
          refine CND_dec (fun hlt => ?_) (fun hge => ⟨⟨by omega, by omega⟩, n, cn hms.ext, ?_⟩)
          · have ej : u64 (j + 1) = j + 1 := u64_id (by omega) (by omega)
            have hjn : j.toNat < 1024 := by omega
            have hjj : ((j.toNat : Nat) : Int) = j := by omega
            have hbd := hbl.ext (hd w68) fun f => f
            refine ⟨⟨by omega, by have : Int.toNat 1024 = 1024 := rfl; omega⟩, ?_⟩
            rw [add_eq, Nat.zero_add]
            refine st_one (hbd.cell j.toNat hjn) (hbd.frz j.toNat hjn) rfl fun w74 hst => ?_
            rw [ej]
            refine ⟨⟨by omega, by omega, hw68d.trans' hst.ext, ?_⟩, by omega⟩
            have hset := hbd.set hjn hst
            rw [hjj] at hset
            have : (fun m : Int => if a ≤ m ∧ m < j + 1 then true else u m) = fun m => if m = j then true else if a ≤ m ∧ m < j then true else u m := by
              funext m
              by_cases e1 : m = j
              · rw [if_pos (by omega), if_pos e1]
              · rw [if_neg e1]
                by_cases e2 : a ≤ m ∧ m < j
                · rw [if_pos (by omega), if_pos e2]
                · rw [if_neg (by omega), if_neg e2]
            rw [this]
            exact hset
          · have hje : j = a + n := by omega
            subst hje
            have ef : u64 (free - n) = free - n := u64_id (by omega) (by omega)
            rw [ef]
            refine ⟨by omega, by omega, _, hms, hbl.ext (hd w68) fun f => f, hI.new, hap32, by rw [k7]; exact hI.l0, by rw [k6, k5], fun m => ?_, ?_⟩
            · rw [k5, mem_cutL (by omega), hI.m m]
              by_cases e1 : a ≤ m - 1024 ∧ m - 1024 < a + n
              · rw [if_pos e1]
                constructor
                · rintro ⟨_, h2⟩; exact absurd ⟨by omega, by omega⟩ h2
                · rintro ⟨_, _, h⟩; cases h
              · rw [if_neg e1]
                constructor
                · rintro ⟨h1, _⟩; exact h1
                · intro h1; exact ⟨h1, by omega⟩
            · rw [k5, tot_cutL hok1 (by omega), hc, hI.tot]
      · have hne : r31 ≠ 0 := by simpa using e
        have hl2 := (hbad hne).2
        exact ⟨hm35, hb32.ext hw35 fun f => f, hI.new, hap32, by rw [hl2]; exact hI.l0, by rw [hl2]; exact hI.l2, by rw [hl2]; exact hI.m, by rw [hl2]; exact hI.tot⟩
    rintro ⟨free2, v⟩ _ w64 ⟨hf20, hf21, u2, hI2⟩
    simp only at hf20 hf21 hI2 ⊢
    refine JOIN_intro (fun st w' => w' = w64 ∧ st.1 = false) ?_ ?_
    · refine free_spec hI2.made.rep ?_
      rw [hI2.tot]
      refine CND_intro (fun e => by simp at e) (fun _ => released_spec hI2.made.rep ⟨rfl, ?_⟩)
      rw [hI2.l2, hI2.tot]; simp
    rintro ⟨bt, v⟩ _ w79 ⟨rfl, hb⟩
    simp only at hb
    subst hb
    refine CND_intro (fun e => by cases e) (fun _ => ?_)
    rw [i64_id (by omega) (by omega)]
    exact ⟨⟨k + 1, G2, u2, by omega, by omega, hf20, hf21, hI2⟩, by omega⟩
  rintro _ _ w15 ⟨G1, u, free, hI⟩
  refine LOOP_intro (fun st w' => 0 ≤ st.1 ∧ st.1 ≤ 1024 ∧ TakesI E w3 w' b g G1 u free) (fun st _ => (1024 - st.1).toNat) ⟨by decide, by decide, hI⟩ ?_
  rintro ⟨j, v⟩ _ w85 ⟨hj0, hj1, hI5⟩
  simp only at hj0 hj1 ⊢
  refine CND_dec (fun hlt => ?_) (fun hge => rawake_spec hE fun w' hw' => hK _ (hI5.made.ext.trans' hw'))
  rw [u64_id (n := 1024 + j) (by omega) (by omega), u64_id (n := j + 1) (by omega) (by omega)]
  refine state_spec hE hI5.made.rep (by omega) fun w90 r0 r1 r2 hr0 hr1 hr2 hw90 => ?_
  have hI9 := hI5.nothing hw90
  refine JOIN_intro (fun st w' => w' = w90 ∧ st.1 = false) ?_ ?_
  · refine CND_intro (fun e => ?_) (fun e => ?_)
    · have hin : r0 = true := hr0.2 (by rw [hI5.l0]; exact ⟨(1024, 2048), List.mem_singleton.2 rfl, by simp only; omega, by simp only; omega⟩)
      rw [hin] at e; cases e
    · have hjn : j.toNat < 1024 := by omega
      have hjj : ((j.toNat : Nat) : Int) = j := by omega
      have hc := hI9.bools.cell j.toNat hjn
      rw [hjj] at hc
      refine ⟨⟨by omega, by have : Int.toNat 1024 = 1024 := rfl; omega⟩, u j, by rw [add_eq, Nat.zero_add, Nat.mul_one]; exact hc, rfl, ?_⟩
      have hm := hI5.m (1024 + j)
      rw [show 1024 + j - 1024 = j from by omega] at hm
      rw [hm] at hr1
      cases hu : u j
      · have : r1 = true := hr1.2 ⟨by omega, by omega, hu⟩
        rw [this]; rfl
      · have : r1 = false := by
          cases r1
          · rfl
          · have := (hr1.1 rfl).2.2; rw [hu] at this; cases this
        rw [this]; rfl
  rintro ⟨bt, v⟩ _ w93 ⟨rfl, hb⟩
  simp only at hb
  subst hb
  refine CND_intro (fun e => by cases e) (fun _ => ⟨⟨by omega, by omega, hI9⟩, by omega⟩)

end
end Go.Sh

namespace Go.Proofs.Ytbhlnppflnfooaa.radixTakes
open Go.ChangeShapes Go.WideShapes Go.ChangeAt Go.RowKit
set_option linter.unusedVariables false
set_option linter.unusedSimpArgs false

theorem own : ownKnob Try.prog.godebug = none := by kernel_rfl
theorem laidOut : laidOutB Try.prog = true := by kernel_rfl

theorem walk (x : Go.Sh.ArgTs [.sl (.int .u64), .sl (.int .u64)]) (w : World) (h : Go.Sh.argOks w [.sl (.int .u64), .sl (.int .u64)] x) :
    Calls Try.prog 5 ⟨Go.Sh.argVals [.sl (.int .u64), .sl (.int .u64)] x⟩ w fun e w' => e = .returned (.bool true) ∧ Below w.heap.size w w' := by
  obtain ⟨a0, a1, u⟩ := x
  obtain ⟨w0, w1, _⟩ := h
  obtain ⟨z0, w0⟩ := w0
  obtain ⟨z1, w1⟩ := w1
  refine (Go.Sh.fits5 _ w (fun v w' => v = .bool true ∧ Below w.heap.size w w') ?_).2.mono ?_
  · show Go.Sh.F.mallowlaw9_RadixTakes Go.Sh.env a0 a1 (fun r w' => Value.bool r = .bool true ∧ Below w.heap.size w w') w
    exact Go.Sh.takes_spec Go.Sh.envS (Go.Sh.InRow.of w0) (Go.Sh.InRow.of w1) (Nat.lt_of_le_of_lt w0.1 w0.2.1) (Nat.lt_of_le_of_lt w1.1 w1.2.1) fun w' h => ⟨rfl, h.below (Nat.le_refl _) fun _ f => f.elim⟩
  · rintro e w' ⟨v, rfl, rfl, h⟩; exact ⟨rfl, h⟩

set_option maxRecDepth 100000 in
theorem lifted (os : Os) (started : os.Started) (H : Type) (enc : TypeId × Value → H) :
    ReturnsInHanded {} Try.checked os 5 .any (Rows.radixTakesSpec.pre6 enc Try.prog Try.f5 Rows.radixTakesRow.domain false) (Rows.radixTakesSpec.post enc Try.prog Try.f5 false true false false) := by
  refine returnsInHanded_of_change (C := Try.checked) own started (by kernel_rfl) Try.func5
    (ChangeSpec.witness6 (enc := enc) (C := Try.checked) false ⟨#[], #[.slice none 0 0, .slice none 0 0], []⟩ 8 (by kernel_rfl) (by kernel_rfl) (by kernel_rfl) (by kernel_rfl)) ?_
  intro W base args ds gs before hval0 hW hcnd _
  have hW' := hW
  obtain ⟨p, q, hA, hV, rfl, hfz, hnd⟩ := hW
  obtain ⟨rfl, rfl⟩ := trodVars_none hV
  have hargs := Go.Sh.args_of (P := Try.prog) (shs := [.sl (.int .u64), .sl (.int .u64)]) (by kernel_rfl) (fun j t v ht hv => hval0 j t v (by simpa using ht) (by simpa using hv)) hA
  obtain ⟨x, hx, hok⟩ := Go.Sh.argVals_of hargs
  obtain rfl : args = ⟨Go.Sh.argVals [.sl (.int .u64), .sl (.int .u64)] x⟩ := Array.toList_inj.1 (by simpa using hx)
  have hlen := Go.Sh.trodAll_len hA
  obtain ⟨d0, d1, rfl⟩ : ∃ d0 d1, ds = [d0, d1] := by
    have hl : ds.length = 2 := hlen
    match ds, hl with
    | [d0, d1], _ => exact ⟨d0, d1, rfl⟩
  refine (walk x W hok).mono fun e W' ⟨he, bel⟩ => ?_
  subst he
  exact ⟨_, rfl, _, _, _, [], _, [], hW', trodAll_mk1 (shut_bool Try.underlying4 _), Go.Sh.trodAll_below laidOut bel (by kernel_rfl) hA, rfl, bel.frame _, fun h => by cases h⟩

theorem over : Rows.radixTakesRow.holds Try.pinned (OpenSpec.ofChange Rows.radixTakesSpec) :=
  OpenClaim.holds_of_wide 5 Try.f5 rfl rfl rfl rfl rfl rfl rfl ⟨rfl, rfl, rfl, rfl, rfl⟩ rfl rfl rfl rfl rfl (by kernel_rfl) Try.func5 (by kernel_rfl)
    (of_decide_eq_true (by kernel_rfl)) (by unfold Func.isWrapper; first | (rw [if_pos (by decide +kernel)]; kernel_rfl) | (rw [if_neg (by decide +kernel)]; exact ⟨rfl, rfl⟩))
    (fun os started H enc _ => lifted os started H enc)

/-- ████ THE STATEMENT ████ -/
theorem proved : Rows.RadixTakesSaid := over
#print axioms proved
end Go.Proofs.Ytbhlnppflnfooaa.radixTakes
