/- The law CacheTwo holds (its card: math/bits' table as the program's text lays it): for every input the Go function returns true and leaves its arguments alone. No further condition. -/
import Derived.Test.YtnmbkhckcjkopaaDoorR
import Derived.Test.YtnmbkhckcjkopaaDoorA
import Derived.Test.YtnmbkhckcjkopaaDoorT
import Derived.Test.YtnmbkhckcjkopaaDoorCards
import Derived.Test.YtnmbkhckcjkopaaDoorTie
import Derived.WalkKit
import Derived.ProofKit
import Derived.OpenShut
import Derived.Deep.DeepHandedRow
import Derived.Lib.LaidTab
set_option linter.all false
set_option maxRecDepth 4000
set_option maxHeartbeats 2000000
namespace Go.Sh

theorem and1 {i : Int} (h0 : 0 ≤ i) (h1 : i < 9223372036854775808) : bitK .i64 0 i 1 = i % 2 := by
  obtain ⟨n, rfl⟩ : ∃ n : Nat, i = (n : Int) := ⟨i.toNat, by omega⟩
  show IntKind.wrap .i64 ((BitVec.ofInt 64 (n : Int) &&& BitVec.ofInt 64 ((1 : Nat) : Int)).toNat : Int) = _
  have e64 : (2 : Nat) ^ 64 = 18446744073709551616 := by decide
  have hlt : n < 2 ^ 64 := by omega
  rw [BitVec.toNat_and, BitVec.ofInt_natCast, BitVec.ofInt_natCast, BitVec.toNat_ofNat, BitVec.toNat_ofNat, Nat.mod_eq_of_lt hlt, Nat.mod_eq_of_lt (show 1 < 2 ^ 64 by decide), Nat.and_one_is_mod]
  rw [show IntKind.wrap .i64 ((n % 2 : Nat) : Int) = ((n % 2 : Nat) : Int) from i64_id (by omega) (by omega)]
  omega

/-- Unlike numbers of a row that are not told: not more than there are. -/
theorem nodup_le {f : Int → Bool} : ∀ (n : Nat) (a : Int) (L : List Int), L.Nodup → (∀ x ∈ L, a ≤ x ∧ x < a + n ∧ f x = false) → (L.length : Int) + cr f a n ≤ n
  | 0, a, L, hn, h => by
    cases L with
    | nil => simp [cr, cu]
    | cons x r => have := h x (by simp); omega
  | n + 1, a, L, hn, h => by
    have ih := nodup_le n a (L.erase (a + n)) (hn.erase _) fun x hx => by
      have h1 := (List.Nodup.mem_erase_iff hn).1 hx
      have := h x h1.2
      have := h1.1
      exact ⟨by omega, by omega, (h x h1.2).2.2⟩
    have e : cr f a ((n + 1 : Nat) : Int) = cr f a n + if f (a + n) then 1 else 0 := by
      unfold cr
      rw [Int.toNat_natCast, Int.toNat_natCast]; rfl
    rw [e]
    by_cases hm : a + (n : Int) ∈ L
    · have hf := (h _ hm).2.2
      have hl := List.length_erase_of_mem hm
      have hpos : 0 < L.length := List.length_pos_of_mem hm
      rw [if_neg (by rw [hf]; decide)]
      omega
    · rw [List.erase_of_not_mem hm] at ih
      split <;> omega

/-- Two caches, a tree, and the pages that were given. -/
structure TwoI (V : TV) (S : Bool → CS) (g : Int → Option Value) : Prop where
  inn : ∀ p, V.inn p = true ↔ 3072 ≤ p ∧ p < 3584
  rel : ∀ x, CRel (S x) V
  dis : ∀ p, (S false).own p = true → (S true).own p = true → False
  giv : ∀ p, g p = none ∨ g p = some (.bool true)
  out : ∀ p, g p ≠ none → V.inn p = true ∧ V.fr p = false ∧ ∀ x, (S x).own p = false

def setS (S : Bool → CS) (x : Bool) (c : CS) : Bool → CS := fun y => if y = x then c else S y

theorem setS_same (S : Bool → CS) (x : Bool) (c : CS) : setS S x c x = c := by simp [setS]
theorem setS_other (S : Bool → CS) (x : Bool) (c : CS) : setS S x c (!x) = S (!x) := by cases x <;> simp [setS]

theorem disX {V : TV} {S : Bool → CS} {g : Int → Option Value} (h : TwoI V S g) (x : Bool) {p : Int} (h1 : (S x).own p = true) (h2 : (S !x).own p = true) : False := by
  cases x
  · exact h.dis p h1 h2
  · exact h.dis p h2 h1

theorem twoI_set {V' : TV} {S : Bool → CS} {g' : Int → Option Value} {x : Bool} {c : CS} (hi : ∀ p, V'.inn p = true ↔ 3072 ≤ p ∧ p < 3584) (hr : CRel c V') (hr2 : CRel (S !x) V') (hd : ∀ p, c.own p = true → (S !x).own p = true → False) (hg : ∀ p, g' p = none ∨ g' p = some (.bool true))
    (ho : ∀ p, g' p ≠ none → V'.inn p = true ∧ V'.fr p = false ∧ c.own p = false ∧ (S !x).own p = false) : TwoI V' (setS S x c) g' := by
  have key : ∀ y, setS S x c y = if y = x then c else S !x := fun y => by
    unfold setS
    by_cases e : y = x
    · rw [if_pos e, if_pos e]
    · rw [if_neg e, if_neg e]
      have : y = !x := by cases x <;> cases y <;> simp_all
      rw [this]
  refine ⟨hi, fun y => ?_, fun p h1 h2 => ?_, hg, fun p hp => ⟨(ho p hp).1, (ho p hp).2.1, fun y => ?_⟩⟩
  · rw [key]; split
    · exact hr
    · exact hr2
  · rw [key] at h1 h2
    cases x
    · exact hd p (by simpa using h1) (by simpa using h2)
    · exact hd p (by simpa using h2) (by simpa using h1)
  · rw [key]; split
    · exact (ho p hp).2.2.1
    · exact (ho p hp).2.2.2

theorem own_iff {S : CS} {p : Int} : S.own p = true ↔ S.base ≤ p ∧ p < S.base + 64 ∧ S.has (p - S.base).toNat = true := by
  unfold CS.own
  rw [Bool.and_eq_true, inr_iff]
  exact ⟨fun h => ⟨h.1.1, h.1.2, h.2⟩, fun h => ⟨⟨h.1, h.2.1⟩, h.2.2⟩⟩

theorem own_alloc {S : CS} {i n : Nat} {p : Int} : (S.alloc i n).own p = true ↔ S.own p = true ∧ ¬ (S.base + i ≤ p ∧ p < S.base + i + n) := by
  rw [own_iff, own_iff]
  show S.base ≤ p ∧ p < S.base + 64 ∧ (S.has (p - S.base).toNat && !(decide (i ≤ (p - S.base).toNat) && decide ((p - S.base).toNat < i + n))) = true ↔ _
  rw [Bool.and_eq_true, Bool.not_eq_true', Bool.and_eq_false_iff, decide_eq_false_iff_not, decide_eq_false_iff_not]
  constructor
  · rintro ⟨h1, h2, h3, h4⟩; exact ⟨⟨h1, h2, h3⟩, by omega⟩
  · rintro ⟨⟨h1, h2, h3⟩, h4⟩; exact ⟨h1, h2, h3, by omega⟩

theorem own_nil (p : Int) : CS.nil.own p = false := by unfold CS.own CS.nil; simp

section
variable {E : Env} (hE : EnvS E) {w : World}
include hE

theorem two_spec (hT : TabAt E.g_math_bits_deBruijn64tab w) {a : SlV} {z : Nat → Int} (ha : RowA w (.int .i64) a z) {K : Bool → World → Prop} (hK : ∀ w', Ext Nothing w w' → K true w') : F.mallowlaw10_CacheTwo E a K w := by
  unfold F.mallowlaw10_CacheTwo
  refine CND_dec (fun _ => hK _ (Ext.refl _ _)) fun hlen => ?_
  refine vnew_sat (Sat.start w) fun w2 t H2 => pnew_spec H2 fun w4 c0 H4 => pnew_spec H4 fun w6 c1 H6 => ?_
  refine AL_cells H6 fun b7 w8 H8 _ => ?_
  simp only [Nat.mul_one]
  generalize hB : Cells b7 E.t__pcache_Cache [.pointer (some ⟨c0, 0, none⟩), .pointer (some ⟨c1, 0, none⟩)] = B at H8
  generalize hCC : (fun x : Bool => if x then c1 else c0) = C
  have C0 : C false = c0 := by rw [← hCC]; rfl
  have C1 : C true = c1 := by rw [← hCC]; rfl
  have cB : ∀ {Y : List Pr} {w'} (i : Nat), Sat Y w' → Y[i]? = some B → ∀ x : Bool, w'.cell? ((Addr.mk b7 0 none).add (if x then 1 else 0)) = some (.pointer (some ⟨C x, 0, none⟩)) := fun i h hi x => by
    have := h.front i hi; rw [← hB] at this
    cases x
    · rw [C0]; exact this.cell rfl
    · rw [C1]; exact this.cell rfl
  have hT' : ∀ {Y : List Pr} {w'} (i : Nat), Sat Y w' → Y[i]? = some (Old w) → TabAt E.g_math_bits_deBruijn64tab w' := fun i h hi => hT.ext (h.old i hi)
  refine JOIN_in (CND_f rfl ⟨⟨by decide, by decide⟩, _, cB 0 H8 rfl false, CND_f rfl ⟨⟨by decide, by decide⟩, _, cB 0 H8 rfl true, CND_f rfl ?_⟩⟩)
  refine cgrow_spec hE (H8.front 3 rfl) (by decide) (by decide) fun w15 H15 j => CND_f rfl ?_
  refine AL_map H15 .u64 fun b16 w17 H17 _ => ?_
  have H18 : Sat (CacheP E (C false) CS.nil :: CacheP E (C true) CS.nil :: TreeV E t (one 6) :: MapF b16 .u64 (fun _ => none) :: B :: [Old w]) w17 := by
    rw [C0, C1]
    have h1 := H17.perm (List.Perm.refl [MapF b16 .u64 (fun _ => none), TreeV E t (one 6), B, CacheP E c1 CS.nil, CacheP E c0 CS.nil, Old w])
    have h2 := h1.front 3 rfl
    have h3 := h2.front 4 rfl
    exact h3.perm (.cons _ (.cons _ (.swap _ _ _)))
  have hI0 : TwoI (one 6) (fun _ => CS.nil) fun _ => none := ⟨fun p => (by rw [one_iff]; omega), fun x p hp => (by rw [own_nil] at hp; cases hp), fun p h1 => (by rw [own_nil] at h1; cases h1), fun p => .inl rfl, fun p hp => absurd rfl hp⟩
  refine LOOP_intro (fun st w' => ∃ (i : Nat) (V : TV) (S : Bool → CS) (g : Int → Option Value), st.1 = (i : Int) ∧ i ≤ a.len ∧ TwoI V S g ∧ Sat (CacheP E (C false) (S false) :: CacheP E (C true) (S true) :: TreeV E t V :: MapF b16 .u64 g :: B :: [Old w]) w') (fun st _ => (a.len - st.1).toNat)
    ⟨0, _, _, _, rfl, Nat.zero_le _, hI0, H18⟩ ?_
  clear hI0 H18 H17 H15 H8 H6 H4 H2
  rintro ⟨i', v⟩ _ w19 ⟨i, V, S, g, hi, hil, hI, H19⟩
  dsimp only at hi ⊢
  subst hi
  have toX : ∀ (x : Bool) {S : Bool → CS} {V g w'}, Sat (CacheP E (C false) (S false) :: CacheP E (C true) (S true) :: TreeV E t V :: MapF b16 .u64 g :: B :: [Old w]) w' → Sat (CacheP E (C x) (S x) :: TreeV E t V :: CacheP E (C !x) (S !x) :: MapF b16 .u64 g :: B :: [Old w]) w' := fun x S V g w' h => by
    cases x
    · exact h.perm (.cons _ (.swap _ _ _))
    · exact h.perm (List.Perm.trans (.swap _ _ _) (.cons _ (.swap _ _ _)))
  have ofX : ∀ (x : Bool) {S : Bool → CS} {V g w'}, Sat (CacheP E (C x) (S x) :: TreeV E t V :: CacheP E (C !x) (S !x) :: MapF b16 .u64 g :: B :: [Old w]) w' → Sat (CacheP E (C false) (S false) :: CacheP E (C true) (S true) :: TreeV E t V :: MapF b16 .u64 g :: B :: [Old w]) w' := fun x S V g w' h => by
    cases x
    · exact h.perm (.cons _ (.swap _ _ _))
    · exact h.perm (List.Perm.trans (.cons _ (.swap _ _ _)) (.swap _ _ _))
  have ofS : ∀ (x : Bool) (c : CS) {V g w'}, Sat (CacheP E (C x) c :: TreeV E t V :: CacheP E (C !x) (S !x) :: MapF b16 .u64 g :: B :: [Old w]) w' → Sat (CacheP E (C false) (setS S x c false) :: CacheP E (C true) (setS S x c true) :: TreeV E t V :: MapF b16 .u64 g :: B :: [Old w]) w' := fun x c V g w' h => by
    refine ofX x ?_
    rw [setS_same, setS_other]; exact h
  refine CND_dec (fun hlt => ?_) fun hge => ?_
  · rw [and1 (by omega) (by omega), i64_id (n := (i : Int) + 1) (by omega) (by omega)]
    obtain ⟨x, hx1, hx2⟩ : ∃ x : Bool, (i : Int) % 2 = (if x then 1 else 0) ∧ Int.toNat ((i : Int) % 2) = (if x then 1 else 0) := by
      by_cases e : (i : Int) % 2 = 0
      · exact ⟨false, e, by rw [e]; rfl⟩
      · have : (i : Int) % 2 = 1 := by omega
        exact ⟨true, this, by rw [this]; rfl⟩
    have fin : ∀ {w' V S g}, TwoI V S g → Sat (CacheP E (C false) (S false) :: CacheP E (C true) (S true) :: TreeV E t V :: MapF b16 .u64 g :: B :: [Old w]) w' →
        (∃ (j : Nat) (V : TV) (S : Bool → CS) (g : Int → Option Value), (i : Int) + 1 = (j : Int) ∧ j ≤ a.len ∧ TwoI V S g ∧ Sat (CacheP E (C false) (S false) :: CacheP E (C true) (S true) :: TreeV E t V :: MapF b16 .u64 g :: B :: [Old w]) w') ∧ (a.len - ((i : Int) + 1)).toNat < (a.len - (i : Int)).toNat := fun h1 h2 => ⟨⟨i + 1, _, _, _, by omega, by omega, h1, h2⟩, by omega⟩
    refine ⟨⟨by omega, by show (i : Int) % 2 < 2; omega⟩, some ⟨C x, 0, none⟩, by rw [hx2]; exact cB 4 H19 rfl x, ?_⟩
    refine JOIN_st (fun _ w' => ∃ (V : TV) (S : Bool → CS), TwoI V S g ∧ Sat (CacheP E (C false) (S false) :: CacheP E (C true) (S true) :: TreeV E t V :: MapF b16 .u64 g :: B :: [Old w]) w') ?_ ?_
    · have HX := toX x H19
      refine pempty_spec HX (fun he => CND_t rfl (pfill_spec hE HX (fun h => absurd he h) (fun _ _ w28 H28 => ⟨V, S, hI, ofX x H28⟩) fun _ p hp w28 H28 => ?_)) fun he => CND_f rfl ⟨V, S, hI, H19⟩
      refine ⟨_, _, twoI_set (V' := V.take (p / 64 * 64) 64) hI.inn (fun q hq => ?_) (fun q hq => ?_) (fun q h1 h2 => ?_) hI.giv (fun q hq => ?_), ofS x _ H28⟩
      · obtain ⟨q1, q2, q3⟩ := own_iff.1 hq
        have q1 : p / 64 * 64 ≤ q := q1
        have q2 : q < p / 64 * 64 + 64 := q2
        have q3 : (decide ((q - p / 64 * 64).toNat < 64) && V.fr (p / 64 * 64 + ((q - p / 64 * 64).toNat : Nat))) = true := q3
        rw [Bool.and_eq_true, show p / 64 * 64 + (((q - p / 64 * 64).toNat : Nat) : Int) = q by omega] at q3
        refine ⟨HX.front 1 rfl |>.tvok.fi q q3.2, ?_⟩
        show (V.fr q && !inr (p / 64 * 64) 64 q) = false
        rw [inr_iff.2 (by omega)]; simp
      · have := hI.rel (!x) q hq
        refine ⟨this.1, ?_⟩
        show (V.fr q && _) = false
        rw [this.2]; rfl
      · obtain ⟨q1, q2, q3⟩ := own_iff.1 h1
        have q1 : p / 64 * 64 ≤ q := q1
        have q2 : q < p / 64 * 64 + 64 := q2
        have q3 : (decide ((q - p / 64 * 64).toNat < 64) && V.fr (p / 64 * 64 + ((q - p / 64 * 64).toNat : Nat))) = true := q3
        rw [Bool.and_eq_true, show p / 64 * 64 + (((q - p / 64 * 64).toNat : Nat) : Int) = q by omega] at q3
        have := (hI.rel (!x) q h2).2
        rw [q3.2] at this; cases this
      · obtain ⟨o1, o2, o3⟩ := hI.out q hq
        refine ⟨o1, ?_, ?_, o3 _⟩
        · show (V.fr q && _) = false
          rw [o2]; rfl
        · cases hown : CS.own ⟨p / 64 * 64, fun i => decide (i < 64) && V.fr (p / 64 * 64 + i), fun i => decide (i < 64) && V.rl (p / 64 * 64 + i)⟩ q with
          | false => rfl
          | true =>
            obtain ⟨q1, q2, q3⟩ := own_iff.1 hown
            have q1 : p / 64 * 64 ≤ q := q1
            have q2 : q < p / 64 * 64 + 64 := q2
            have q3 : (decide ((q - p / 64 * 64).toNat < 64) && V.fr (p / 64 * 64 + ((q - p / 64 * 64).toNat : Nat))) = true := q3
            rw [Bool.and_eq_true, show p / 64 * 64 + (((q - p / 64 * 64).toNat : Nat) : Int) = q by omega, o2] at q3
            cases q3.2
    clear hI H19
    rintro ⟨⟩ _ w24 ⟨V, S, hI, H24⟩
    have ofS : ∀ (x : Bool) (c : CS) {V g w'}, Sat (CacheP E (C x) c :: TreeV E t V :: CacheP E (C !x) (S !x) :: MapF b16 .u64 g :: B :: [Old w]) w' → Sat (CacheP E (C false) (setS S x c false) :: CacheP E (C true) (setS S x c true) :: TreeV E t V :: MapF b16 .u64 g :: B :: [Old w]) w' := fun x c V g w' h => by
      refine ofX x ?_
      rw [setS_same, setS_other]; exact h
    obtain ⟨xa, hxa, hc0, hwf⟩ := ha.cell1 (show i < a.len by omega)
    obtain ⟨hn0, hn1⟩ := i64_wf hwf
    generalize z i = n at hc0 hn0 hn1
    rw [hxa]
    simp only [NC_some, Int.toNat_natCast]
    have HX := toX x H24
    refine ⟨⟨by omega, by omega⟩, n, (H24.old 5 rfl).cell hc0 fun f => f, ?_⟩
    have bad : ∀ {r33 : Int} {w'}, r33 ≠ 0 → Sat (CacheP E (C x) (S x) :: TreeV E t V :: CacheP E (C !x) (S !x) :: MapF b16 .u64 g :: B :: [Old w]) w' → ∀ {Y : Prop},
        CND ((r33 : Int) != 0) (5 ≠ (0 : Int) ∧ CND (((Int.tmod (i : Int) 5) : Int) == 4) (F.pcache_Cache_Flush E (some ⟨C x, 0, none⟩) (some ⟨t, 0, none⟩) (fun w35 => (∃ (j : Nat) (V : TV) (S : Bool → CS) (g : Int → Option Value), (i : Int) + 1 = (j : Int) ∧ j ≤ a.len ∧ TwoI V S g ∧ Sat (CacheP E (C false) (S false) :: CacheP E (C true) (S true) :: TreeV E t V :: MapF b16 .u64 g :: B :: [Old w]) w35) ∧ (a.len - ((i : Int) + 1)).toNat < (a.len - (i : Int)).toNat) w')
          ((∃ (j : Nat) (V : TV) (S : Bool → CS) (g : Int → Option Value), (i : Int) + 1 = (j : Int) ∧ j ≤ a.len ∧ TwoI V S g ∧ Sat (CacheP E (C false) (S false) :: CacheP E (C true) (S true) :: TreeV E t V :: MapF b16 .u64 g :: B :: [Old w]) w') ∧ (a.len - ((i : Int) + 1)).toNat < (a.len - (i : Int)).toNat)) Y := by
      intro r33 w' hr H Y
      refine CND_ne (fun _ => ⟨by decide, CND_eq (fun _ => pflush_spec hE H (hI.rel x) fun w35 H35 => fin (twoI_set (V' := V.flush (S x)) hI.inn (fun q hq => (by rw [own_nil] at hq; cases hq)) (fun q hq => ?_) (fun q h1 => (by rw [own_nil] at h1; cases h1)) hI.giv fun q hq => ?_) (ofS x _ H35)) fun _ => fin hI (ofX x H)⟩) fun h => absurd h hr
      · have h1 := hI.rel (!x) q hq
        refine ⟨h1.1, ?_⟩
        show (V.fr q || (S x).own q) = false
        rw [h1.2]
        cases e : (S x).own q with
        | false => rfl
        | true => exact (disX hI x e hq).elim
      · obtain ⟨o1, o2, o3⟩ := hI.out q hq
        refine ⟨o1, ?_, own_nil q, o3 _⟩
        show (V.fr q || (S x).own q) = false
        rw [o2, o3 x]; rfl
    refine palloc_spec (hT' 5 HX rfl) HX hn0 hn1 (fun _ => bad (by decide) HX) (fun _ _ _ => bad (by decide) HX) fun n1 n64 k hrun _ hk64 w34 H34 => CND_f rfl ?_
    have hCI := (Sat.cache.1 HX).1
    have hB0 := hCI.b0
    have hB1 := hCI.b1
    rw [u64_id (n := n) (by omega) (by omega), u64_id (n := (S x).base + (k : Int) + n) (by omega) (by omega)]
    have hown : ∀ q, (S x).base + k ≤ q → q < (S x).base + k + n → (S x).own q = true := fun q q1 q2 => by
      refine own_iff.2 ⟨by omega, by omega, ?_⟩
      have := hrun (q - (S x).base - k).toNat (by omega)
      rwa [show k + (q - (S x).base - k).toNat = (q - (S x).base).toNat by omega] at this
    -- the pages are marked
    refine LOOP_intro (fun st w' => (S x).base + k ≤ st.1 ∧ st.1 ≤ (S x).base + k + n ∧ Sat (CacheP E (C x) ((S x).alloc k n.toNat) :: TreeV E t V :: CacheP E (C !x) (S !x) :: MapF b16 .u64 (fun q => if (S x).base + k ≤ q ∧ q < st.1 then some (.bool true) else g q) :: B :: [Old w]) w') (fun st _ => ((S x).base + k + n - st.1).toNat)
      ⟨Int.le_refl _, by dsimp only; omega, ?_⟩ ?_
    · have : (fun q => if (S x).base + (k : Int) ≤ q ∧ q < (S x).base + (k : Int) then some (.bool true) else g q) = g := by funext q; rw [if_neg (by omega)]
      dsimp only; rw [this]; exact H34
    rintro ⟨q, v⟩ _ w37 ⟨q0, q1, H37⟩
    dsimp only at q0 q1 H37 ⊢
    refine CND_dec (fun hlt2 => ?_) fun hge2 => ?_
    · have hgq : g q = none := by
        rcases hI.giv q with h | h
        · exact h
        · have := (hI.out q (by rw [h]; exact fun e => by cases e)).2.2 x
          rw [hown q q0 hlt2] at this; cases this
      refine LKP_sl (H37.front 3 rfl) fun es _ => ⟨false, ?_, CND_f rfl (MUPD_sl (H37.front 3 rfl) fun w43 H43 => ?_)⟩
      · rw [if_neg (by omega), hgq]; rfl
      · rw [u64_id (n := q + 1) (by omega) (by omega)]
        have e : (fun j => if j = q then some (.bool true) else if (S x).base + (k : Int) ≤ j ∧ j < q then some (.bool true) else g j) = fun j => if (S x).base + (k : Int) ≤ j ∧ j < q + 1 then some (Value.bool true) else g j := by
          funext j
          by_cases e : j = q
          · rw [if_pos e, if_pos (by omega)]
          · rw [if_neg e]
            by_cases e2 : (S x).base + (k : Int) ≤ j ∧ j < q
            · rw [if_pos e2, if_pos (by omega)]
            · rw [if_neg e2, if_neg (by omega)]
        rw [e] at H43
        exact ⟨⟨by omega, by omega, H43.front 3 rfl |>.perm (by
          have : ∀ (a b c d e f : Pr), [d, a, b, c, e, f].Perm [a, b, c, d, e, f] := fun a b c d e f => ((List.perm_middle (a := d) (l₁ := [a, b, c]) (l₂ := [e, f]))).symm
          exact List.Perm.refl _) |>.perm (by
          have : ∀ (a b c d e f : Pr), [c, d, a, b, e, f].Perm [a, b, c, d, e, f] := fun a b c d e f => (List.perm_append_comm (l₁ := [c, d]) (l₂ := [a, b])).append_right [e, f]
          first | exact List.Perm.refl _ | exact this _ _ _ _ _ _)⟩, by omega⟩
    · have eq : q = (S x).base + k + n := by omega
      subst eq
      generalize hg' : (fun q => if (S x).base + (k : Int) ≤ q ∧ q < (S x).base + (k : Int) + n then some (Value.bool true) else g q) = g' at H37
      have hI' : TwoI V (setS S x ((S x).alloc k n.toNat)) g' := by
        have hal : ∀ p, ((S x).alloc k n.toNat).own p = true → (S x).own p = true ∧ ¬ ((S x).base + k ≤ p ∧ p < (S x).base + k + n) := fun p hp => by
          have := own_alloc.1 hp
          exact ⟨this.1, by have := this.2; omega⟩
        refine twoI_set hI.inn (fun p hp => hI.rel x p (hal p hp).1) (hI.rel (!x)) (fun p h1 h2 => disX hI x (hal p h1).1 h2) (fun p => ?_) fun p hp => ?_
        · rw [← hg']; dsimp only; split
          · exact .inr rfl
          · exact hI.giv p
        · rw [← hg'] at hp
          dsimp only at hp
          by_cases e : (S x).base + (k : Int) ≤ p ∧ p < (S x).base + (k : Int) + n
          · have h1 := hown p e.1 e.2
            have h2 := hI.rel x p h1
            refine ⟨h2.1, h2.2, ?_, ?_⟩
            · cases g : ((S x).alloc k n.toNat).own p with
              | false => rfl
              | true => exact absurd e (hal p g).2
            · cases g : (S !x).own p with
              | false => rfl
              | true => exact (disX hI x h1 g).elim
          · rw [if_neg e] at hp
            obtain ⟨o1, o2, o3⟩ := hI.out p hp
            refine ⟨o1, o2, ?_, o3 _⟩
            cases g : ((S x).alloc k n.toNat).own p with
            | false => rfl
            | true => have := (hal p g).1; rw [o3 x] at this; cases this
      have H38 := ofS x _ H37
      clear hg' H37 H34
      generalize setS S x ((S x).alloc k n.toNat) = S' at hI' H38
      refine ⟨⟨by decide, by decide⟩, _, cB 4 H38 rfl false, ptell_any H38 fun r45 r46 r47 w48 he0 hn0 H48 => ⟨⟨by decide, by decide⟩, _, cB 4 H48 rfl true, ?_⟩⟩
      have tot2 : ∀ {w' : World} {r45 r46 r50 r51 : Int}, ((S' false).empty → r46 = 0) → (¬ (S' false).empty → r45 = (S' false).base ∧ r46 = W (S' false).has) → ((S' true).empty → r51 = 0) → (¬ (S' true).empty → r50 = (S' true).base ∧ r51 = W (S' true).has) → r45 = r50 → bitK .u64 0 r46 r51 = 0 := fun {w' r45 r46 r50 r51} h1 h2 h3 h4 h5 => by
        by_cases e1 : (S' false).empty
        · rw [h1 e1, ← W_zero]
          by_cases e2 : (S' true).empty
          · rw [h3 e2, ← W_zero, W_and]; exact W_congr fun _ _ => rfl
          · rw [(h4 e2).2, W_and]; exact W_congr fun _ _ => rfl
        · by_cases e2 : (S' true).empty
          · rw [h3 e2, (h2 e1).2, ← W_zero, W_and]; exact W_congr fun _ _ => by simp
          · rw [(h2 e1).2, (h4 e2).2, W_and, W_eq_zero]
            intro j hj
            cases g1 : (S' false).has j with
            | false => rfl
            | true =>
              cases g2 : (S' true).has j with
              | false => rfl
              | true =>
                have hb := (h2 e1).1
                have hb2 := (h4 e2).1
                exfalso
                refine hI'.dis ((S' false).base + j) (own_iff.2 ⟨by omega, by omega, ?_⟩) (own_iff.2 ⟨by omega, by omega, ?_⟩)
                · rw [show ((S' false).base + (j : Int) - (S' false).base).toNat = j by omega]; exact g1
                · rw [show ((S' false).base + (j : Int) - (S' true).base).toNat = j by omega]; exact g2
      refine ptell_any (H48.perm (.swap _ _ _)) fun r50 r51 r52 w53 he1 hn1 H53 => ?_
      have H53 := H53.perm (.swap _ _ _)
      refine JOIN_in (CND_eq (fun heq j => ?_) fun _ j => ?_)
      all_goals
        first
          | rw [tot2 (w' := w53) (r45 := r45) (r46 := r46) (r50 := r50) (r51 := r51) (fun h => (he0 h).2.1) (fun h => ⟨(hn0 h).1, (hn0 h).2.1⟩) (fun h => (he1 h).2.1) (fun h => ⟨(hn1 h).1, (hn1 h).2.1⟩) heq]
          | skip
        refine CND_f rfl ?_
        refine LOOP_intro (fun st w' => 0 ≤ st.1 ∧ st.1 ≤ 64 ∧ Sat (CacheP E (C false) (S' false) :: CacheP E (C true) (S' true) :: TreeV E t V :: MapF b16 .u64 g' :: B :: [Old w]) w') (fun st _ => (64 - st.1).toNat) ⟨by decide, by decide, H53⟩ ?_
        rintro ⟨q, v⟩ _ w58 ⟨q0, q1, H58⟩
        dsimp only at q0 q1 ⊢
        refine CND_dec (fun hlt3 => ⟨q0, ?_⟩) fun hge3 => fin hI' H58
        rw [u64_id (n := q + 1) (by omega) (by omega)]
        by_cases e1 : (S' false).empty
        · have e0 := W_get (fun _ => false) q0 hlt3
          rw [W_zero] at e0
          rw [(he0 e1).2.1, e0]
          exact CND_f rfl ⟨⟨by omega, by omega, H58⟩, by omega⟩
        · rw [(hn0 e1).2.1, (hn0 e1).1, W_get _ q0 hlt3]
          have hCI0 := (Sat.cache.1 H58).1
          have hb00 := hCI0.b0
          have hb01 := hCI0.b1
          cases hq : (S' false).has q.toNat with
          | false => exact CND_f rfl ⟨⟨by omega, by omega, H58⟩, by omega⟩
          | true =>
            have how : (S' false).own ((S' false).base + q) = true := own_iff.2 ⟨by omega, by omega, by rw [show ((S' false).base + q - (S' false).base).toNat = q.toNat by omega]; exact hq⟩
            have hrl := hI'.rel false _ how
            have hgq : g' ((S' false).base + q) = none := by
              rcases hI'.giv ((S' false).base + q) with h | h
              · exact h
              · have := (hI'.out ((S' false).base + q) (by rw [h]; exact fun e => by cases e)).2.2 false
                rw [how] at this; cases this
            refine CND_t rfl ?_
            rw [u64_id (n := (S' false).base + q) (by omega) (by omega)]
            refine vstateT_sat hE (H58.front 2 rfl) (by omega) fun w63 H63 => ?_
            rw [hrl.2]
            refine JOIN_in (CND_f rfl (LKP_sl (H63.front 3 rfl) fun es _ => ⟨false, by rw [hgq]; rfl, fun j => CND_f rfl ⟨⟨by omega, by omega, ?_⟩, by omega⟩⟩))
            exact H63.perm (by
              have : ∀ (a b c d e f : Pr), [c, a, b, d, e, f].Perm [a, b, c, d, e, f] := fun a b c d e f => (List.perm_middle (a := c) (l₁ := [a, b]) (l₂ := [d, e, f])).symm
              exact this _ _ _ _ _ _)
  · have HX := toX false H19
    refine vfree_sat (HX.front 1 rfl) ?_
    obtain ⟨es, c, m, h1, h2, h3⟩ := (H19.front 3 rfl).mapOpen
    have hv := (HX.front 1 rfl).tvok
    refine ⟨es, ⟨c, h1⟩, ?_⟩
    have hnt : NT V.fr = cr V.fr 3072 512 := by
      obtain ⟨l, hl, hm⟩ := hv.cf
      rw [NT_eq hl hm, cr_cnt hl hm (by decide), cnt_all (Ok.lts hl) (a := 3072) (b := 3072 + 512) fun p hp => by
        have := (hI.inn p).1 (hv.fi p ((hm p).1 hp))
        omega]
    have hcr := cr_bnd V.fr 3072 (n := 512) (by decide)
    have hsz := nodup_le (f := V.fr) 512 3072 (m.map (·.1)) h2.nodup fun q hq => by
      have hne : g q ≠ none := fun e => by
        have := h3 q
        rw [e, aget_none_iff] at this
        exact this hq
      obtain ⟨o1, o2, _⟩ := hI.out q hne
      have := (hI.inn q).1 o1
      exact ⟨this.1, by omega, o2⟩
    rw [List.length_map, ← h2.size] at hsz
    have e512 : ((512 : Nat) : Int) = 512 := rfl
    rw [e512] at hsz
    rw [hnt, u64_id (n := (es.size : Int)) (by omega) (by omega), u64_id (n := 512 - (es.size : Int)) (by omega) (by omega)]
    refine CND_t (decide_eq_true (by omega)) (cawake_spec hE H19 (fun w' h => hT.ext (h.old 5 rfl)) fun w' h => hK _ (h.old 5 rfl))

end
end Go.Sh

namespace Go.Proofs.YtnmbkhckcjkopaaDoor.cacheTwo
open Go.ChangeShapes Go.WideShapes Go.ChangeAt Go.RowKit
set_option linter.unusedVariables false
set_option linter.unusedSimpArgs false

theorem own : ownKnob Tryd.prog.godebug = none := by kernel_rfl
theorem laidOut : laidOutB Tryd.prog = true := by kernel_rfl
theorem gTab : Tryd.prog.globalNamed "math/bits.deBruijn64tab" = some 0 := by kernel_rfl
theorem gTabType : (Tryd.prog.globals[0]?).map (·.type) = some 113 := by kernel_rfl
theorem und1 : Tryd.prog.underlying 113 = some (.array 64 5) := by kernel_rfl
theorem und2 : Tryd.prog.underlying 5 = some (.int .u8) := by kernel_rfl
theorem cells1 : Tryd.prog.cellsOf 113 = 64 := by kernel_rfl
theorem cells2 : Tryd.prog.cellsOf 5 = 1 := by kernel_rfl

/-- What the row's list gives: the table's cells hold its numbers. -/
theorem table {W : World} (h : laidMetH Tryd.prog Rows.cacheTwoRow.laid W) : Go.Sh.TabAt Go.Sh.env.g_math_bits_deBruijn64tab W := by
  have ht := Lib.tabIs_of_head (rest := []) (k := .u8) (zs := Lib.deBruijn64tab.map fun n : Nat => (n : Int)) gTab gTabType und1 und2 cells2 cells1 h
  intro i hi
  have := ht.cell gTab i (by rw [List.length_map]; exact hi)
  rw [show (Lib.deBruijn64tab.map fun n : Nat => (n : Int)).getD i 0 = ((Lib.deBruijn64tab.getD i 0 : Nat) : Int) by rw [List.getD_eq_getElem?_getD, List.getD_eq_getElem?_getD, List.getElem?_map]; cases Lib.deBruijn64tab[i]? <;> rfl] at this
  exact this

theorem walk (x : Go.Sh.ArgTs [.sl (.int .i64)]) (w : World) (h : Go.Sh.argOks w [.sl (.int .i64)] x) (hT : Go.Sh.TabAt Go.Sh.env.g_math_bits_deBruijn64tab w) :
    Calls Tryd.prog 4 ⟨Go.Sh.argVals [.sl (.int .i64)] x⟩ w fun e w' => e = .returned (.bool true) ∧ Below w.heap.size w w' := by
  obtain ⟨a0, u⟩ := x
  obtain ⟨w0, _⟩ := h
  obtain ⟨z0, w0⟩ := w0
  refine (Go.Sh.fits4 _ w (fun v w' => v = .bool true ∧ Below w.heap.size w w') Go.Sh.noP ?_).2.mono ?_
  · show Go.Sh.F.mallowlaw10_CacheTwo Go.Sh.env a0 (fun r w' => Value.bool r = .bool true ∧ Below w.heap.size w w') w
    exact Go.Sh.two_spec Go.Sh.envS hT w0 fun w' h => ⟨rfl, h.below (Nat.le_refl _) fun _ f => f.elim⟩
  · intro e w' hE
    obtain ⟨v, rfl, rfl, h⟩ := hE.val
    exact ⟨rfl, h⟩

noncomputable def laidWorld (os : Os) : World :=
  { World.holding Tryd.prog os ⟨#[], #[], []⟩ with heap := (World.holding Tryd.prog os ⟨#[], #[], []⟩).heap.modify 0 fun
      | .cells _ t frozen => .cells ⟨Lib.deBruijn64tab.map fun n : Nat => .int .u8 (n : Int)⟩ t frozen
      | o => o }
theorem laid_met (os : Os) : laidMet Tryd.prog Rows.cacheTwoRow.laid ((laidWorld os).forCall (fun _ _ => 0) ⟨#[], #[.slice none 0 0], []⟩).memory :=
  laidMet_of_run' 8 (by kernel_rfl) (by kernel_rfl)
theorem reads (os : Os) {H : Type} (enc : TypeId × Value → H) : ∃ places, DataW.whole enc Tryd.prog ((laidWorld os).forCall (fun _ _ => 0) ⟨#[], #[.slice none 0 0], []⟩).memory Tryd.f4.params.toList Rows.cacheTwoSpec.vars false (#[.slice none 0 0] : Array Value).toList 8 = some ([.nil], [], places) :=
  ⟨[], by kernel_rfl⟩

set_option maxRecDepth 100000 in
theorem lifted (os : Os) (started : os.Started) (H : Type) (enc : TypeId × Value → H) (F : Stop.Interp) :
    ReturnsInHanded {} Tryd.checked os 4 .any ((OpenSpec.ofChange Rows.cacheTwoSpec).preRow enc Tryd.prog Tryd.f4 Rows.cacheTwoRow.domain false Rows.cacheTwoRow.laid) (((OpenSpec.ofChange Rows.cacheTwoSpec).at F).post enc Tryd.prog Tryd.f4 false true false false) := by
  obtain ⟨places, hx⟩ := reads os enc
  refine returnsInHanded_of_row (C := Tryd.checked) (s := OpenSpec.ofChange Rows.cacheTwoSpec) own started (by kernel_rfl) Tryd.func4
    (witness_row_at (enc := enc) (C := Tryd.checked) false (laidWorld os) #[.slice none 0 0] rfl (by kernel_rfl) (by kernel_rfl) (by kernel_rfl)
      (OpenSpec.preRow_of_cond 8 hx (by kernel_rfl) (fun k hk => by cases hk) (by kernel_rfl) (laid_met os))) ?_
  intro W base args ds gs before hval0 hW _ _ _ hL _ _
  have hW' := hW
  obtain ⟨p, q, hA, hV, rfl, hfz, hnd⟩ := hW
  obtain ⟨rfl, rfl⟩ := trodVars_none hV
  have hargs := Go.Sh.args_of (P := Tryd.prog) (shs := [.sl (.int .i64)]) (by kernel_rfl) (fun j t v ht hv => hval0 j t v (by simpa using ht) (by simpa using hv)) hA
  obtain ⟨x, hx, hok⟩ := Go.Sh.argVals_of hargs
  obtain rfl : args = ⟨Go.Sh.argVals [.sl (.int .i64)] x⟩ := Array.toList_inj.1 (by simpa using hx)
  have hlen := Go.Sh.trodAll_len hA
  obtain ⟨d0, rfl⟩ : ∃ d0, ds = [d0] := by
    have hl : ds.length = 1 := hlen
    match ds, hl with
    | [d0], _ => exact ⟨d0, rfl⟩
  refine (walk x W hok (table hL)).mono fun e W' ⟨he, bel⟩ => ?_
  subst he
  exact ⟨_, rfl, _, _, _, [], _, [], hW', trodAll_mk1 (shut_bool Tryd.underlying4 _), Go.Sh.trodAll_below laidOut bel (by kernel_rfl) hA, rfl, bel.frame _, fun h => by cases h⟩

theorem said : Rows.CacheTwoSaid :=
  OpenClaim.holds_of_cond 4 Tryd.f4 rfl rfl rfl rfl rfl rfl rfl ⟨rfl, rfl, rfl, rfl, rfl⟩ rfl rfl rfl rfl rfl (by kernel_rfl) Tryd.func4 (by kernel_rfl)
    (of_decide_eq_true (by kernel_rfl)) (by unfold Func.isWrapper; first | (rw [if_pos (by decide +kernel)]; kernel_rfl) | (rw [if_neg (by decide +kernel)]; exact ⟨rfl, rfl⟩))
    (fun os started H enc _ F => by rw [OpenClaim.pre_eq_preRow]; exact lifted os started H enc F)

theorem plain (f : FuncId) (fn : Func) (hf : Tryd.pinned.checked.prog.funcNamed "mallow/mallowlaw10.CacheTwo" = some f) (hfn : Tryd.pinned.checked.prog.funcs[f]? = some fn) :
    false = Tryd.pinned.checked.prog.looks [] ∧ ∀ (j : Nat) t, fn.params[j]? = some t → Tryd.pinned.checked.prog.wantsStandIn t = false := by
  obtain rfl : f = 4 := Option.some.inj ((show Tryd.prog.funcNamed "mallow/mallowlaw10.CacheTwo" = some 4 by kernel_rfl).symm.trans hf) |>.symm
  obtain rfl : fn = Tryd.f4 := (Option.some.inj (Tryd.func4.symm.trans hfn)).symm
  refine ⟨by kernel_rfl, fun j t ht => ?_⟩
  have hall : (Tryd.f4.params.toList.all fun t => !(Tryd.prog.wantsStandIn t)) = true := by kernel_rfl
  have := List.all_eq_true.1 hall t (Array.mem_toList_iff.2 (Array.mem_of_getElem? ht))
  exact Bool.not_eq_true' _ ▸ this

/-- ████ THE CARD ████ -/
theorem proved : Rows.CacheTwoCardSaid :=
  Claim7.holds_tied_plain_at .later [] _ _ _ _ said (fun _ h => by cases h) (by kernel_rfl) (fun _ h => by cases h) cacheTwo_row_tie rfl ⟨rfl, rfl⟩ (by kernel_rfl) rfl plain (by kernel_rfl)
#print axioms proved
end Go.Proofs.YtnmbkhckcjkopaaDoor.cacheTwo
