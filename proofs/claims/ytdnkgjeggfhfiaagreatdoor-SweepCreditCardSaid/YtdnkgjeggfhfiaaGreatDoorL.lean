/- What the heap's laws share. No further condition. -/
import Derived.Test.YtdnkgjeggfhfiaaGreatDoorH
import Derived.Test.YtdnkgjeggfhfiaaGreatDoorX
import Derived.Test.YtdnkgjeggfhfiaaGreatDoorA
import Derived.Test.YtdnkgjeggfhfiaaGreatDoorC
import Derived.Test.YtdnkgjeggfhfiaaGreatDoorR
import Derived.Test.YtdnkgjeggfhfiaaGreatDoorM
set_option linter.all false
set_option maxRecDepth 8000
set_option maxHeartbeats 2000000
namespace Go.Sh
theorem Found.induct {P : HS -> Prop} {S S2 : HS} {p n page : Int} (hS : P S) (h1 : ∀ S i q, i < 64 -> P S -> P (S.fill i q)) (h2 : ∀ S i k n, P S -> P (S.calloc i k n)) (h3 : ∀ S page n, P S -> P (S.talloc page n))
    (h4 : ∀ S V at_ N, P S -> P (S.grown V at_ N)) (h5 : ∀ S V, P S -> P { S with V := V }) (h : Found S p n page S2) : P S2 := by
  have hf : ∀ {i S1}, i < 64 -> Filled S i S1 -> P S1 := fun {i S1} hi h => by
    rcases h with ⟨_, q, _, rfl⟩ | ⟨_, rfl⟩
    · exact h1 _ _ _ hi hS
    · exact hS
  have ht : ∀ {S1}, Tried S p n S1 -> P S1 := fun {S1} h => by
    rcases h with ⟨_, rfl⟩ | ⟨i, hi, _, _, h, _⟩
    · exact hS
    · exact hf hi h
  obtain ⟨S1, hk, hm⟩ := h
  have hP1 : P S1 := by
    rcases hk with (⟨S0, i, k, hi, _, _, hfl, _, _, _, _, rfl⟩ | ⟨S0, htr, _, rfl⟩) | ⟨S0, S0', htr, _, ⟨_, at_, _, rfl⟩, _, rfl⟩
    · exact h2 _ _ _ _ (hf hi hfl)
    · exact h3 _ _ _ (ht htr)
    · exact h3 _ _ _ (h4 _ _ _ _ (ht htr))
  rcases hm with ⟨_, rfl⟩ | ⟨_, _, rfl⟩
  · exact hP1
  · exact h5 _ _ hP1
structure Same (S S2 : HS) : Prop where
  sp : S2.sp = S.sp
  own : S2.own = S.own
  fx : S2.fx = S.fx
  pages : S2.pages = S.pages
theorem Found.same {S S2 : HS} {p n page : Int} (h : Found S p n page S2) : Same S S2 :=
  h.induct (P := Same S) ⟨rfl, rfl, rfl, rfl⟩ (fun _ _ _ _ h => ⟨h.sp, h.own, h.fx, h.pages⟩) (fun _ _ _ _ h => ⟨h.sp, h.own, h.fx, h.pages⟩) (fun _ _ _ h => ⟨h.sp, h.own, h.fx, h.pages⟩) (fun _ _ _ _ h => ⟨h.sp, h.own, h.fx, h.pages⟩) fun _ _ h => ⟨h.sp, h.own, h.fx, h.pages⟩
structure LaidB (S : HS) (b : Int) : Prop where
  la : ∀ p, mem S.V.laid p ↔ 512 <= p /\ p < b
  b0 : 512 <= b
  b1 : b % 512 = 0
  h0 : 0 <= S.hint
  h1 : S.hint <= b
  pl : S.V.pl = []
  rf : S.V.rf = []
theorem LaidB.new (fl : List Int) : LaidB (HS.new (newV [] [] fl)) 512 := ⟨fun p => ⟨fun h => absurd h (mem_nil p), fun h => by omega⟩, Int.le_refl _, rfl, Int.le_refl _, by show (0 : Int) <= 512; decide, rfl, rfl⟩
section
variable {S S2 : HS} {b p n page : Int}
theorem upN_le (n : Int) : n <= upN n /\ upN n < n + 512 /\ upN n % 512 = 0 := by unfold upN; omega
theorem LaidB.placed (h : LaidB S b) {hint N at_ : Int} (hN : 0 < N) (hh : hint <= b) (hp : Placed S.V.laid hint N at_) : at_ = b := by
  have h1 := hp.low
  have h2 := hp.mul
  have b0 := h.b0
  have b1 := h.b1
  by_cases g : b < at_
  · obtain ⟨m, m1, m2, m3⟩ := hp.first b b1 b0 hh g
    have := (h.la m).1 m3
    omega
  · by_cases g2 : at_ < b
    · exact absurd ((h.la at_).2 ⟨h1, g2⟩) (hp.free at_ (Int.le_refl _) (by omega))
    · omega
theorem LaidB.chosen (h : LaidB S b) {N at_ : Int} (hN : 0 < N) (hc : Chosen S.V S.hint N at_) : at_ = b := by
  have := h.h0
  have := h.h1
  rcases hc with ⟨p, r, e, _⟩ | ⟨_, ⟨_, h1, _⟩ | ⟨_, _, h1, _⟩⟩
  · rw [h.pl] at e; cases e
  · exact h.placed hN (by omega) h1
  · exact h.placed hN (by have := h.b0; omega) h1
theorem LaidB.unplaced (h : LaidB S b) {N : Int} (hN : 0 < N) (hb : b + N <= 34359738368) (hu : Unplaced S.V S.hint N) : False := by
  have := h.h1
  obtain ⟨_, g | ⟨a, g1, g2⟩, _⟩ := hu
  · omega
  · have := h.placed hN h.h1 g1
    omega
theorem LaidB.sameV (h : LaidB S b) (e1 : S2.V = S.V) (e2 : S2.hint = S.hint) : LaidB S2 b := ⟨by rw [e1]; exact h.la, h.b0, h.b1, by rw [e2]; exact h.h0, by rw [e2]; exact h.h1, by rw [e1]; exact h.pl, by rw [e1]; exact h.rf⟩
theorem Filled.V {i : Nat} (h : Filled S i S2) : S2.V = S.V /\ S2.hint = S.hint := by
  rcases h with ⟨_, q, _, rfl⟩ | ⟨_, rfl⟩ <;> exact ⟨rfl, rfl⟩
theorem Tried.V (h : Tried S p n S2) : S2.V = S.V /\ S2.hint = S.hint := by
  rcases h with ⟨_, rfl⟩ | ⟨i, _, _, _, h, _⟩
  · exact ⟨rfl, rfl⟩
  · exact h.V
theorem LaidB.made (h : LaidB S b) (hm : Made S page n S2) : LaidB S2 b := by
  rcases hm with ⟨_, rfl⟩ | ⟨_, _, rfl⟩
  · exact h
  · exact ⟨h.la, h.b0, h.b1, h.h0, h.h1, h.pl, by show S.V.rf.tail = []; rw [h.rf]; rfl⟩
theorem HOk.laidOnly (hk : HOk S) (h : Tried S p n S2) : Ok S2.V.laid := by rw [h.V.1]; exact hk.vv.ok1
theorem LaidB.grew' (h : LaidB S b) (hk : Ok S.V.laid) (hn : 1 <= n) (hg : Grew S n S2) (hb : b + upN n <= 34359738368) : LaidB S2 (b + upN n) /\ S2 = S.grown { S.V with rf := S.V.rf.tail, pl := S.V.pl.tail, laid := addL S.V.laid b (b + upN n) } b (upN n) := by
  obtain ⟨_, at_, hc, rfl⟩ := hg
  have hu := upN_le n
  have b0 := h.b0
  have b1 := h.b1
  have := h.chosen (by omega) hc
  subst this
  refine ⟨⟨fun q => ?_, by omega, by omega, by show 0 <= at_ + upN n; omega, Int.le_refl _, by show S.V.pl.tail = []; rw [h.pl]; rfl, by show S.V.rf.tail = []; rw [h.rf]; rfl⟩, rfl⟩
  refine (mem_addL hk (by omega) (by omega) (by omega) q).trans ?_
  rw [h.la]; omega
theorem Found.laid (h : Found S p n page S2) (hL : LaidB S b) (hk : HOk S) (hn : 1 <= n) (hb : b + upN n <= 34359738368) : ∃ b', (b' = b ∨ b' = b + upN n) /\ LaidB S2 b' := by
  obtain ⟨S1, h, hm⟩ := h
  rcases h with (⟨S0, i, k, hi, _, _, hfl, _, _, _, _, rfl⟩ | ⟨S0, htr, _, rfl⟩) | ⟨S0, S0', htr, _, hg, _, rfl⟩
  · exact ⟨b, .inl rfl, ((hL.sameV hfl.V.1 hfl.V.2).sameV rfl rfl : LaidB (S0.calloc i k n.toNat) b).made hm⟩
  · exact ⟨b, .inl rfl, ((hL.sameV htr.V.1 htr.V.2).sameV rfl rfl : LaidB (S0.talloc page n) b).made hm⟩
  · obtain ⟨h1, _⟩ := (hL.sameV htr.V.1 htr.V.2).grew' (hk.laidOnly htr) hn hg hb
    exact ⟨b + upN n, .inr rfl, (h1.sameV rfl rfl : LaidB (S0'.talloc page n) (b + upN n)).made hm⟩
theorem LaidB.lost (hL : LaidB S b) (hn : 1 <= n) (hb : b + upN n <= 34359738368) (h : Lost S p n S2) : False := by
  have hu := upN_le n
  rcases h with ⟨S0, htr, _, ⟨r, hr, _⟩ | ⟨_, hup, _⟩⟩ | ⟨S1, page, r, hk, _, hr, _⟩
  · rw [(hL.sameV htr.V.1 htr.V.2).rf] at hr; cases hr
  · exact (hL.sameV htr.V.1 htr.V.2).unplaced (by omega) hb hup
  · have e : S1.V.rf = [] := by
      rcases hk with (⟨S0, i, k, hi, _, _, hfl, _, _, _, _, rfl⟩ | ⟨S0, htr, _, rfl⟩) | ⟨S0, S0', htr, _, ⟨_, at_, hc, rfl⟩, _, rfl⟩
      · show S0.V.rf = []
        rw [hfl.V.1]; exact hL.rf
      · show S0.V.rf = []
        rw [htr.V.1]; exact hL.rf
      · show S0.V.rf.tail = []
        rw [htr.V.1, hL.rf]; rfl
    rw [e] at hr; cases hr
theorem first1 {V : TV} {p : Int} (h : firstB V 1 p) : V.fr p = true := h.2.2.1 p (Int.le_refl _) (by omega)
def FrR (S : HS) (a b : Int) : Prop := ∀ p, S.T.fr p = true ↔ a <= p /\ p < b
theorem FrR.first {a : Int} (h : FrR S a b) (hn : 1 <= n) (hf : firstB S.T n page) : page = a /\ a + n <= b := by
  obtain ⟨_, _, h1, h2⟩ := hf
  have q1 := (h page).1 (h1 page (Int.le_refl _) (by omega))
  have q2 := (h (page + n - 1)).1 (h1 (page + n - 1) (by omega) (by omega))
  have := h2 a fun m m1 m2 => (h m).2 (by omega)
  omega
theorem FrR.none {a : Int} (h : FrR S a b) (hno : ∀ q, ¬ rowB S.T.fr q n) : b < a + n := by
  refine Classical.byContradiction fun g => hno a fun m m1 m2 => (h m).2 (by omega)
theorem FrR.taken {a : Int} (h : FrR S a b) (hn : 0 <= n) : FrR (S.talloc a n) (a + n) b := fun p => by
  refine take_fr.trans ?_
  rw [h p]; omega
theorem FrR.grown {a : Int} (h : FrR S a b) {V : VS} {N : Int} (h1 : b % 512 = 0) (h2 : N % 512 = 0) (h3 : 0 <= N) (hab : a <= b) : FrR (S.grown V b N) a (b + N) := fun p => by
  show (S.T.fr p || inr (b / 512 * 512) (N / 512 * 512) p) = true ↔ _
  rw [Bool.or_eq_true, h p, inr_iff]
  omega
theorem FrR.new (V : VS) : FrR (HS.new V) 512 512 := fun p => ⟨fun h => (by cases h), fun h => by omega⟩
theorem Found.row (h : Found S p n page S2) {a : Int} (hL : LaidB S b) (hk : HOk S) (hF : FrR S a b) (hab : a <= b) (hn : 1 <= n) (hb : b + upN n <= 34359738368) (hT : ∀ S0, Tried S p n S0 -> S0 = S) (hno : ∀ S0 page, Got S p n page S0 -> S0 = S.talloc page n /\ firstB S.T n page) :
    ∃ b', (b' = b ∨ b' = b + upN n) /\ page = a /\ a + n <= b' /\ LaidB S2 b' /\ FrR S2 (a + n) b' /\ S2.ca = S.ca /\ (b' = b -> ∀ V, { S2 with V := V } = { S.talloc a n with V := V }) /\ (a + n <= b -> b' = b) := by
  obtain ⟨S1, h, hm⟩ := h
  have hu := upN_le n
  have hs : ∀ {S1 S2 : HS}, Made S1 page n S2 -> S2.ca = S1.ca /\ S2.T = S1.T /\ ∀ V, { S2 with V := V } = { S1 with V := V } := fun h => by
    rcases h with ⟨_, rfl⟩ | ⟨_, _, rfl⟩ <;> exact ⟨rfl, rfl, fun _ => rfl⟩
  obtain ⟨s1, s2, s3⟩ := hs hm
  rcases h with h | ⟨S0, S0', htr, hnone, hg, hf, rfl⟩
  · obtain ⟨rfl, hf⟩ := hno _ _ h
    obtain ⟨rfl, h1⟩ := hF.first hn hf
    refine ⟨b, .inl rfl, rfl, h1, (hL.sameV rfl rfl : LaidB (S.talloc page n) b).made hm, fun q => ?_, s1, fun _ => s3, fun _ => rfl⟩
    rw [s2]; exact hF.taken (by omega) q
  · obtain rfl := hT _ htr
    obtain ⟨h1, e0⟩ := hL.grew' hk.vv.ok1 hn hg hb
    have hL2 : LaidB S2 (b + upN n) := (h1.sameV rfl rfl : LaidB (S0'.talloc page n) (b + upN n)).made hm
    subst e0
    have hF' : FrR (S0.grown { S0.V with rf := S0.V.rf.tail, pl := S0.V.pl.tail, laid := addL S0.V.laid b (b + upN n) } b (upN n)) a (b + upN n) := hF.grown hL.b1 hu.2.2 (by omega) hab
    obtain ⟨rfl, h2⟩ := hF'.first hn hf
    have hl := hF.none hnone
    refine ⟨b + upN n, .inr rfl, rfl, h2, hL2, fun q => ?_, s1, fun e => by omega, fun e => by omega⟩
    rw [s2]; exact hF'.taken (by omega) q
theorem tried_nofree (hfr : ∀ q, S.T.fr q = false) {S0 : HS} (hn : 1 <= n) (ht : Tried S p n S0) : S0 = S := by
  rcases ht with ⟨_, rfl⟩ | ⟨i, hi, rfl, _, ⟨_, q, hq, _⟩ | ⟨_, rfl⟩, _⟩
  · rfl
  · have := first1 hq
    rw [hfr] at this; cases this
  · rfl
theorem got_nofree (hfr : ∀ q, S.T.fr q = false) (hc : ∀ i, i < 64 -> (S.ca i).empty) {S0 : HS} {page : Int} (hn : 1 <= n) (ht : Got S p n page S0) : S0 = S.talloc page n /\ firstB S.T n page := by
  rcases ht with ⟨S1, i, k, hi, rfl, _, hfl, hr, _⟩ | ⟨S0, ht, hf, rfl⟩
  · exfalso
    rcases hfl with ⟨_, q, hq, _⟩ | ⟨_, rfl⟩
    · have := first1 hq
      rw [hfr] at this; cases this
    · have := hr 0 (by omega)
      rw [hc i hi] at this; cases this
  · rw [tried_nofree hfr hn ht] at hf ⊢; exact ⟨rfl, hf⟩
end
end Go.Sh

set_option linter.all false
set_option maxRecDepth 4000
set_option maxHeartbeats 4000000
namespace Go.Sh
section
variable {E : Env} {b c : Nat} {V : VS} {Z Rs : List Pr} {w : World}
end
end Go.Sh

set_option linter.all false
set_option maxRecDepth 8000
set_option maxHeartbeats 4000000
namespace Go.Sh
section
variable {E : Env} {w : World} {Rs Z : List Pr}
theorem HInv.newV (pl : List Int) (rf : List Bool) (fl : List Int) : HInv (HS.new (Go.Sh.newV pl rf fl)) no := HInv.new rfl rfl
variable (hE : EnvA E)
include hE
theorem halloc_ok {h : Nat} {S : HS} (hT : ∀ w', Sat Z w' -> TabAt E.g_math_bits_deBruijn64tab w') (H : Sat (HeapP E h S :: Z) w) (hI : HInv S no) {p n c b : Int} {np : Bool} (hL : LaidB S b) (hg : ¬ spBad 0 n c) (n0 : 0 <= n) (hb : b + upN n <= 34359738368) {K : Int -> Int -> World -> Prop}
    (hK : 1 <= n -> ∀ page S2 bl id X, Found S p n page S2 -> HOk S -> HInv S2 (inr page n) -> 0 <= page -> page + n <= 34359738368 -> Next S2 id X -> HInv (S2.keep id (bl, spOf page n c np) page n X) no -> ∀ w', Sat (HeapP E h (S2.keep id (bl, spOf page n c np) page n X) :: Z) w' -> K id 0 w') :
    F.mheap_Heap_Alloc E (some ⟨h, 0, none⟩) p n c np K w := by
  have hok := H.hok
  have hg' := hg
  unfold spBad at hg'
  have hn : 1 <= n /\ n <= 134217728 := by
    by_cases e : c = 0
    · omega
    · have hcb := cls_bnd (c := c) (by omega) (by omega)
      omega
  exact halloc_spec hE hT H hI n0 (by omega) (fun hb' => absurd hb' hg) (fun _ S2 hl => (hL.lost hn.1 hb hl).elim) fun _ page S2 bl id X hf hI2 q0 q1 hX hI3 w' H' => hK hn.1 page S2 bl id X hf hok hI2 q0 q1 hX hI3 w' H'
end
section
variable {S S2 : HS} {i k : Nat} {page : Int}
theorem LaidB.keep {b : Int} (h : LaidB S b) (id : Int) (x : Nat × SI) (pg n : Int) (X : FX) : LaidB (S.keep id x pg n X) b := ⟨h.la, h.b0, h.b1, h.h0, h.h1, h.pl, h.rf⟩
theorem Next.top {id : Int} {X : FX} (h : Next S id X) {n : Nat} (e : S.fx = ⟨n, []⟩) : id = (n : Int) + 1 /\ X = ⟨n + 1, []⟩ := by
  rcases h with ⟨_, h2, h3⟩ | ⟨a, r, h1, _⟩
  · rw [e] at h2 h3; exact ⟨h2, h3⟩
  · rw [e] at h1; cases h1
end
end Go.Sh

set_option linter.all false
set_option maxRecDepth 8000
set_option maxHeartbeats 4000000
namespace Go.Sh
theorem cls5 : (clsAt 5).2.1 = 1 := by decide +kernel
theorem own_keep {S : HS} {id : Int} {x : Nat × SI} {pg n : Int} {X : FX} (p : Int) : (S.keep id x pg n X).own p = if pg <= p /\ p < pg + n then id else S.own p := rfl
section
variable {E : Env} {w : World} {Rs Z : List Pr} (hE : EnvA E)
include hE
end
end Go.Sh

set_option linter.all false
set_option maxRecDepth 8000
set_option maxHeartbeats 4000000
namespace Go.Sh
section
variable {S S2 : HS} {n page : Int}
variable {i : Nat} {next b : Int} {rf : List Bool}
end
end Go.Sh

set_option linter.all false
set_option maxRecDepth 4000
set_option maxHeartbeats 2000000
namespace Go.Sh
theorem W_not (u : Nat -> Bool) : bitK .u64 2 18446744073709551615 (W u) = W fun i => !u i := by
  rw [<- W_ones]
  show IntKind.wrap .u64 ((BitVec.ofInt 64 (W fun _ => true) ^^^ BitVec.ofInt 64 (W u)).toNat : Int) = _
  rw [BitVec.toNat_xor, bvW, bvW]
  have e : wN (fun _ => true) 64 ^^^ wN u 64 = wN (fun i => !u i) 64 := by
    refine Nat.eq_of_testBit_eq fun i => ?_
    rw [Nat.testBit_xor, wN_bit, wN_bit, wN_bit]
    cases decide (i < 64) <;> cases u i <;> rfl
  rw [e, wrapW (wN_lt _ 64)]; rfl
theorem W_bit {n : Nat} (h : n < 64) : u64 (1 * 2 ^ (min (Int.toNat (n : Int)) (IntKind.bits .u64))) = W fun i => i == n := by
  have e := W_shl (fun i => i == 0) (n := (n : Int)) (by omega) (by omega)
  rw [W_one] at e
  rw [e]
  refine W_congr fun i hi => ?_
  rw [Int.toNat_natCast, Bool.eq_iff_iff, Bool.and_eq_true, decide_eq_true_eq, beq_iff_eq, beq_iff_eq]
  omega
theorem W_low_mask {n : Nat} (h : n < 64) : u64 ((u64 (1 * 2 ^ (min (Int.toNat (n : Int)) (IntKind.bits .u64)))) - 1) = W fun i => decide (i < n) := by
  have e : wN (fun i => i == n) 64 = 2 ^ n := by
    refine Nat.eq_of_testBit_eq fun i => ?_
    rw [wN_bit, Nat.testBit_two_pow]
    rw [Bool.eq_iff_iff, Bool.and_eq_true, decide_eq_true_eq, beq_iff_eq, decide_eq_true_eq]
    omega
  have e2 : wN (fun i => decide (i < n)) 64 = 2 ^ n - 1 := by
    refine Nat.eq_of_testBit_eq fun i => ?_
    rw [wN_bit, Nat.testBit_two_pow_sub_one]
    rw [Bool.eq_iff_iff, Bool.and_eq_true, decide_eq_true_eq, decide_eq_true_eq]
    omega
  rw [W_bit h]
  unfold W
  rw [e, e2]
  have h1 : 0 < 2 ^ n := Nat.pow_pos (by decide)
  have h2 : 2 ^ n <= 2 ^ 63 := Nat.pow_le_pow_right (by decide) (by omega)
  rw [u64_id (by omega) (by omega)]
  omega
theorem cN_set {u : Nat -> Bool} {i : Nat} (hu : u i = false) : ∀ n, cN (fun j => u j || j == i) n = cN u n + (if i < n then 1 else 0)
  | 0 => rfl
  | n + 1 => by
    simp only [cN, cN_set hu n]
    by_cases e : n = i
    · subst e
      rw [hu, if_neg (by omega), if_pos (by omega)]; simp
    · rw [show (n == i) = false by simpa using e, Bool.or_false]
      by_cases g : i < n
      · rw [if_pos g, if_pos (by omega)]; omega
      · rw [if_neg g, if_neg (by omega)]; omega
section
variable {E : Env} {w : World} {Z : List Pr} {s : SlV} {uw : List Int} {U : Nat -> Bool}
def SI.set (S : SI) (U : Nat -> Bool) (n : Nat) : SI := { S with uw := [W fun i => U i || i == n], used := S.used + 1, look := (n : Int) + 1 }
section
variable {b : Nat} {S : SI}
theorem spthere_spec (H : Sat (SpanP E b S :: Z) w) {i : Int} {K : Bool -> World -> Prop} (hK : K (decide (0 <= i /\ i < S.slots)) w) : F.span_Span_there E (some ⟨b, 0, none⟩) i K w := by
  obtain ⟨su, sm, H⟩ := Sat.span.1 H
  unfold F.span_Span_there
  simp only [NC_some]
  refine CND_dec (fun g => ⟨_, H.cell rfl, ?_⟩) fun g => ?_
  · rw [show decide (i < S.slots) = decide (0 <= i /\ i < S.slots) from decide_eq_decide.2 (by omega)]; exact hK
  · rw [decide_eq_false (by omega)] at hK; exact hK
theorem spslot_spec (H : Sat (SpanP E b S :: Z) w) {i : Int} (h0 : 0 <= i) (h1 : i < S.slots) {K : Int -> Int -> World -> Prop} (hK : ∀ w', Sat (SpanP E b S :: Z) w' -> K (u64 (S.base + u64 (u64 i * u64 S.elem))) 0 w') : F.span_Span_Slot E (some ⟨b, 0, none⟩) i K w := by
  unfold F.span_Span_Slot T0.span_Span_Slot
  refine spthere_spec H ?_
  rw [decide_eq_true ⟨h0, h1⟩]
  refine CND_f rfl ?_
  obtain ⟨su, sm, H⟩ := Sat.span.1 H
  simp only [NC_some]
  exact ⟨_, H.drew.cell0 rfl, _, H.drew.cell rfl, LET_intro fun t ht => by rw [ht]; exact hK _ (Sat.span.2 ⟨su, sm, H.drew⟩)⟩
end
end
end Go.Sh

set_option linter.all false
set_option maxRecDepth 8000
set_option maxHeartbeats 2000000
namespace Go.Sh
def HS.put (S : HS) (id : Int) (x : Nat × SI) : HS := { S with sp := fun i => if i = id then some x else S.sp i }
section
variable {S : HS} {fl : Int -> Bool} {id : Int} {x : Nat × SI} {I : SI}
theorem HInv.put (h : HInv S fl) (hx : S.sp id = some x) (h1 : I.base = x.2.base) (h2 : I.pages = x.2.pages) (h3 : I.state ≠ 0) : HInv (S.put id (x.1, I)) fl := by
  refine ⟨h.cr, h.cd, h.fn, fun p hp => ?_, h.o0, h.li, h.cv, h.ks, h.la, h.rd, fun i y hy => ?_, fun i => ?_, h.fb, h.pg, h.h0, h.h1⟩
  · obtain ⟨a, b, c, y, hy, h4, h5⟩ := h.ow p hp
    refine ⟨a, b, c, ?_⟩
    by_cases e : S.own p = id
    · refine ⟨(x.1, I), if_pos e, ?_⟩
      rw [e, hx] at hy
      cases hy
      rw [h1, h2]; exact ⟨h4, h5⟩
    · exact ⟨y, (if_neg e).trans hy, h4, h5⟩
  · have hy : (if i = id then some (x.1, I) else S.sp i) = some y := hy
    by_cases e : i = id
    · rw [if_pos e] at hy
      cases hy
      obtain ⟨a, b, c, _, d⟩ := h.sp id x hx
      subst e
      refine ⟨a, by rw [h1]; exact b, by rw [h2]; exact c, h3, ?_⟩
      rw [h1, h2]; exact d
    · rw [if_neg e] at hy
      exact h.sp i y hy
  · show (if i = id then some (x.1, I) else S.sp i) ≠ none ↔ _
    refine Iff.trans ?_ (h.sf i)
    by_cases e : i = id
    · rw [if_pos e, e, hx]; simp
    · rw [if_neg e]
theorem HS.put_sp : (S.put id x).sp id = some x := if_pos rfl
theorem HS.put_ne {i : Int} (h : i ≠ id) : (S.put id x).sp i = S.sp i := if_neg h
end
section
variable {E : Env} {h : Nat} {S : HS} {Z : List Pr} {w : World}
theorem nodup_erase {α : Type} : ∀ {l : List α} {i : Nat} {x : α}, l.Nodup -> l[i]? = some x -> x ∉ l.eraseIdx i
  | [], i, x, _, h => by simp at h
  | y :: l, 0, x, hn, h => by
    simp at h; subst h
    simpa using (List.nodup_cons.1 hn).1
  | y :: l, i + 1, x, hn, h => by
    have hn := List.nodup_cons.1 hn
    have h : l[i]? = some x := by simpa using h
    have ih := nodup_erase hn.2 h
    rw [List.eraseIdx_cons_succ, List.mem_cons]
    rintro (e | e)
    · subst e; exact hn.1 (List.mem_of_getElem? h)
    · exact ih e
theorem Sat.heapPut (H : Sat (HeapP E h S :: Z) w) {id : Int} {x : Nat × SI} (hx : S.sp id = some x) : ∃ R : List Pr, Sat (SpanP E x.1 x.2 :: R) w /\ ∀ {I : SI} {w'}, Sat (SpanP E x.1 I :: R) w' -> Sat (HeapP E h (S.put id (x.1, I)) :: Z) w' := by
  obtain ⟨g, hI, H⟩ := Sat.heap.1 H
  have hm : id ∈ g.ids := (hI.mem id).2 (by rw [hx]; exact fun h => by cases h)
  obtain ⟨i, hi⟩ := List.mem_iff_getElem?.1 hm
  have H1 := (H.front 6 rfl).manyGet hi
  have e : spR E S.sp id = SpanP E x.1 x.2 := by unfold spR; rw [hx]
  rw [e] at H1
  refine ⟨_, H1, fun {I w'} h' => Sat.heap.2 ⟨g, ⟨hI.nd, fun j => ?_⟩, ?_⟩⟩
  · rw [hI.mem]
    show _ ↔ (if j = id then some (x.1, I) else S.sp j) ≠ none
    by_cases e : j = id
    · rw [if_pos e, e, hx]; simp
    · rw [if_neg e]
  · have e1 : spR E (S.put id (x.1, I)).sp id = SpanP E x.1 I := by unfold spR; rw [HS.put_sp]
    have e2 : Many (spR E S.sp) (g.ids.eraseIdx i) = Many (spR E (S.put id (x.1, I)).sp) (g.ids.eraseIdx i) := Many.congr fun j hj => by
      have : j ≠ id := fun e => nodup_erase hI.nd hi (e ▸ hj)
      unfold spR; rw [HS.put_ne this]
    rw [<- e1, e2] at h'
    have h2 := Sat.manyBack h' hi
    have h3 := Sat.back (Ps := hres E h S g ++ Z) 6 h2 (by simp [hres])
    have e3 : spMap S.sp = spMap (S.put id (x.1, I)).sp := by
      funext j
      unfold spMap
      by_cases e : j = id
      · rw [e, HS.put_sp, hx]; rfl
      · rw [HS.put_ne e]
    have e4 : (hres E h S g ++ Z).set 6 (Many (spR E (S.put id (x.1, I)).sp) g.ids) = hres E h (S.put id (x.1, I)) g ++ Z := by
      show [Cells h E.t_mheap_Heap (hcells g S.hint S.pages), VmemP E g.m S.V, TreeV E g.t S.T, ArenaP E g.a S.ks S.own, FixP E g.f S.fx, MapF g.sm .i64 (spMap S.sp), _, _] ++ Z = _
      rw [e3]; rfl
    rw [e4] at h3
    exact h3
variable (hE : EnvA E)
include hE
end
end Go.Sh

set_option linter.all false
set_option maxRecDepth 8000
set_option maxHeartbeats 2000000
namespace Go.Sh
section
variable {E : Env} {h : Nat} {S : HS} {Z : List Pr} {w : World} {g : HG}
variable (hE : EnvA E)
include hE
end
end Go.Sh

set_option linter.all false
set_option maxRecDepth 8000
set_option maxHeartbeats 1000000
namespace Go.Sh
open Ieee
def rd (x : Nat) : Datum := double.read x
noncomputable def timesV (n r : Int) : Int := match fArith .mul (fNear n) r.toNat with
  | none => 0
  | some x => bif (fOrd x 4895412794951729152 == some .gt || fOrd x 4895412794951729152 == some .eq) then 18446744073709551615 else bif (fOrd x 4607182418800017408 == some .gt || fOrd x 4607182418800017408 == some .eq) then (fInt x).getD 0 else 0
theorem rd64 : rd 4895412794951729152 = .number false 4503599627370496 12 := by decide +kernel
theorem rd1 : rd 4607182418800017408 = .number false 4503599627370496 (-52) := by decide +kernel
theorem fOrd_eq (x c : Nat) : fOrd x c = (rd x).order (rd c) := hid_eq _
theorem fInt_eq (x : Nat) : fInt x = (rd x).toInt .zero := hid_eq _
theorem cmp_ge {a b : Int} (h : ((some (compare a b) == some Ordering.gt) || (some (compare a b) == some Ordering.eq)) = true) : b <= a := by
  refine Classical.byContradiction fun g => ?_
  have : compare a b = .lt := Int.compare_eq_lt.2 (by omega)
  rw [this] at h; simp at h
theorem cmp_lt {a b : Int} (h : ¬ ((some (compare a b) == some Ordering.gt) || (some (compare a b) == some Ordering.eq)) = true) : a < b := by
  refine Classical.byContradiction fun g => h ?_
  by_cases e : a = b
  · have : compare a b = .eq := Int.compare_eq_eq.2 e
    rw [this]; rfl
  · have : compare a b = .gt := Int.compare_eq_gt.2 (by omega)
    rw [this]; rfl
theorem cmp_nge {a b : Int} (h : a < b) : ((some (compare a b) == some Ordering.gt) || (some (compare a b) == some Ordering.eq)) = false := by
  have : compare a b = .lt := Int.compare_eq_lt.2 h
  rw [this]; rfl
theorem signed_f (m u : Nat) : signed false m u = ((m * 2 ^ u : Nat) : Int) := by unfold signed; rw [Nat.shiftLeft_eq]; rfl
theorem signed_t (m u : Nat) : signed true m u = -((m * 2 ^ u : Nat) : Int) := by unfold signed; rw [Nat.shiftLeft_eq]; rfl
theorem cut_zero (s : Bool) (n d : Nat) : Toward.zero.cut s n d = n / 2 ^ (min d (n.log2 + 2)) := by
  unfold Toward.cut
  simp only [Nat.shiftLeft_eq, Nat.one_mul, Bool.toNat_false, Nat.add_zero]
theorem cut_le {s : Bool} {n d B : Nat} (h : n < B * 2 ^ d) (hB : 0 < B) : Toward.zero.cut s n d < B := by
  rw [cut_zero]
  by_cases e : d <= n.log2 + 2
  · rw [Nat.min_eq_left e]
    exact (Nat.div_lt_iff_lt_mul (Nat.pow_pos (by decide))).2 h
  · rw [Nat.min_eq_right (by omega)]
    have : n < 2 ^ (n.log2 + 2) := Nat.lt_of_lt_of_le Nat.lt_log2_self (Nat.pow_le_pow_right (by decide) (by omega))
    rw [Nat.div_eq_of_lt this]; exact hB
theorem toInt_num (m : Nat) (i : Int) : (Datum.number false m i).toInt .zero = some ((Toward.zero.cut false (m * 2 ^ i.toNat) (-i).toNat : Nat) : Int) := by
  unfold Datum.toInt Datum.integral
  simp only [signed_f, Nat.shiftLeft_eq, Nat.pow_zero, Nat.mul_one]
theorem fint_ok {x : Nat} (h1 : ((fOrd x 4607182418800017408 == some .gt) || (fOrd x 4607182418800017408 == some .eq)) = true) (h2 : ¬ ((fOrd x 4895412794951729152 == some .gt) || (fOrd x 4895412794951729152 == some .eq)) = true) :
    ∃ k : Nat, fInt x = some (k : Int) /\ k < 18446744073709551616 := by
  rw [fOrd_eq, rd1] at h1
  rw [fOrd_eq, rd64] at h2
  rw [fInt_eq]
  generalize rd x = d at *
  cases d with
  | nan s t => simp [Datum.order] at h1
  | infinity s =>
    cases s
    · simp [Datum.order] at h2
    · simp [Datum.order] at h1
  | number s m i =>
    simp only [Datum.order] at h1 h2
    have q1 := cmp_ge h1
    have q2 := cmp_lt h2
    rw [signed_f] at q1 q2
    cases s with
    | true =>
      rw [signed_t] at q1
      have : 0 < 4503599627370496 * 2 ^ (-52 - min i (-52)).toNat := Nat.mul_pos (by decide) (Nat.pow_pos (by decide))
      omega
    | false =>
      rw [signed_f] at q2
      have q2 : m * 2 ^ (i - min i 12).toNat < 4503599627370496 * 2 ^ (12 - min i 12).toNat := by exact_mod_cast q2
      refine ⟨_, toInt_num m i, cut_le (B := 18446744073709551616) ?_ (by decide)⟩
      by_cases hi : 0 <= i
      · rw [show (-i).toNat = 0 by omega, Nat.pow_zero, Nat.mul_one]
        by_cases h12 : i <= 12
        · rw [Int.min_eq_left h12, show (i - i).toNat = 0 by omega, Nat.pow_zero, Nat.mul_one] at q2
          have e : 2 ^ (12 - i).toNat * 2 ^ i.toNat = 2 ^ 12 := by rw [<- Nat.pow_add]; congr 1; omega
          calc m * 2 ^ i.toNat < 4503599627370496 * 2 ^ (12 - i).toNat * 2 ^ i.toNat := Nat.mul_lt_mul_of_pos_right q2 (Nat.pow_pos (by decide))
            _ = 18446744073709551616 := by rw [Nat.mul_assoc, e]
        · rw [Int.min_eq_right (by omega), show (12 - 12 : Int).toNat = 0 by decide, Nat.pow_zero, Nat.mul_one] at q2
          have e : 2 ^ i.toNat = 2 ^ (i - 12).toNat * 2 ^ 12 := by rw [<- Nat.pow_add]; congr 1; omega
          rw [e, <- Nat.mul_assoc]
          calc m * 2 ^ (i - 12).toNat * 2 ^ 12 < 4503599627370496 * 2 ^ 12 := Nat.mul_lt_mul_of_pos_right q2 (by decide)
            _ = 18446744073709551616 := by decide
      · rw [show i.toNat = 0 by omega, Nat.pow_zero, Nat.mul_one]
        rw [Int.min_eq_left (by omega), show (i - i).toNat = 0 by omega, Nat.pow_zero, Nat.mul_one, show (12 - i).toNat = 12 + (-i).toNat by omega, Nat.pow_add, <- Nat.mul_assoc] at q2
        exact q2
theorem times_bnd (n r : Int) : 0 <= timesV n r /\ timesV n r < 18446744073709551616 := by
  unfold timesV
  cases fArith .mul (fNear n) r.toNat with
  | none => exact ⟨Int.le_refl _, by show (0 : Int) < _; decide⟩
  | some x =>
    simp only
    cases h2 : (fOrd x 4895412794951729152 == some .gt || fOrd x 4895412794951729152 == some .eq) with
    | true => exact ⟨(by decide : (0 : Int) <= 18446744073709551615), (by decide : (18446744073709551615 : Int) < 18446744073709551616)⟩
    | false =>
      cases h1 : (fOrd x 4607182418800017408 == some .gt || fOrd x 4607182418800017408 == some .eq) with
      | false => exact ⟨(by decide : (0 : Int) <= 0), (by decide : (0 : Int) < 18446744073709551616)⟩
      | true =>
        obtain ⟨k, hk, hk2⟩ := fint_ok h1 (by rw [h2]; decide)
        simp only [cond_false, cond_true]
        rw [hk]
        exact ⟨by show (0 : Int) <= (k : Int); omega, by show (k : Int) < _; omega⟩
theorem rd_nan (t : Nat) : ∃ s f, rd (nanP t) = .nan s f := by
  have h1 : t % 2 < 2 := Nat.mod_lt _ (by decide)
  have h2 : (t / 2) % (2 ^ 52 - 1) < 2 ^ 52 - 1 := Nat.mod_lt _ (by decide)
  unfold rd nanP Format.read
  have e1 : double.signWeight = 9223372036854775808 := by decide
  have e2 : double.binade = 4503599627370496 := by decide
  have e3 : double.infRung = 9218868437227405312 := by decide +kernel
  simp only [e1, e2, e3]
  generalize t % 2 = a at *
  generalize (t / 2) % (2 ^ 52 - 1) = b at *
  rw [if_neg (by omega), if_neg (by omega), if_neg (by omega)]
  exact ⟨_, _, rfl⟩
theorem nan_ord (t c : Nat) : fOrd (nanP t) c = none := by
  rw [fOrd_eq]
  obtain ⟨s, f, h⟩ := rd_nan t
  rw [h]
  cases rd c <;> rfl
end Go.Sh

set_option linter.all false
set_option maxRecDepth 8000
set_option maxHeartbeats 1000000
namespace Go.Sh
open Ieee
theorem dsw : double.signWeight = 9223372036854775808 := by decide
theorem dbi : double.binade = 4503599627370496 := by decide
theorem dir : double.infRung = 9218868437227405312 := by decide +kernel
theorem dlp : double.leastPlace = -1074 := by decide
theorem dfr : double.fractionBits = 52 := rfl
theorem fArith_mul (a b : Nat) : fArith .mul a b = ((rd a).product (rd b)).map double.write := hid_eq _
theorem near_eq (n : Int) : fNear n = FloatKind.f64.nearest n := hid_eq _
theorem rd_word (x : Nat) : rd x = if x % 9223372036854775808 < 4503599627370496 then .number (x / 9223372036854775808 % 2 == 1) (x % 9223372036854775808) (-1074) else
    if x % 9223372036854775808 < 9218868437227405312 then .number (x / 9223372036854775808 % 2 == 1) (4503599627370496 + x % 9223372036854775808 % 4503599627370496) (-1074 + ((x % 9223372036854775808 / 4503599627370496 - 1 : Nat) : Int)) else
    if x % 9223372036854775808 = 9218868437227405312 then .infinity (x / 9223372036854775808 % 2 == 1) else .nan (x / 9223372036854775808 % 2 == 1) (x % 9223372036854775808 - 9218868437227405312) := by
  unfold rd Format.read
  simp only [dsw, dbi, dir, dlp]
theorem timesV_none {n r : Int} (h : fArith .mul (fNear n) r.toNat = none) : timesV n r = 0 := by unfold timesV; rw [h]
theorem timesV_low {n r : Int} {x : Nat} (h : fArith .mul (fNear n) r.toNat = some x) (h2 : (fOrd x 4895412794951729152 == some .gt || fOrd x 4895412794951729152 == some .eq) = false) (h1 : (fOrd x 4607182418800017408 == some .gt || fOrd x 4607182418800017408 == some .eq) = false) : timesV n r = 0 := by
  unfold timesV; rw [h]; simp only [h1, h2, cond_false]
theorem neg_low {x : Nat} (hn : (∃ m i, rd x = .number true m i) ∨ rd x = .infinity true) (c : Nat) (hc : ∃ m i, 0 < m /\ rd c = .number false m i) : (fOrd x c == some .gt || fOrd x c == some .eq) = false := by
  obtain ⟨k, j, hk, hc⟩ := hc
  rw [fOrd_eq, hc]
  rcases hn with ⟨m, i, h⟩ | h
  · rw [h]
    refine cmp_nge ?_
    rw [signed_f, signed_t]
    have : 0 < k * 2 ^ (j - min i j).toNat := Nat.mul_pos hk (Nat.pow_pos (by decide))
    have h0 : 0 <= m * 2 ^ (i - min i j).toNat := Nat.zero_le _
    omega
  · rw [h]; rfl
theorem word_neg (R : Nat) (h : R <= 9218868437227405312) : (∃ m i, rd (double.word true R) = .number true m i) ∨ rd (double.word true R) = .infinity true := by
  have e : double.word true R = 9223372036854775808 + R := by unfold Format.word; rw [dsw]; rfl
  rw [e, rd_word, show (9223372036854775808 + R) % 9223372036854775808 = R by omega, show (9223372036854775808 + R) / 9223372036854775808 % 2 = 1 by omega]
  by_cases h1 : R < 4503599627370496
  · rw [if_pos h1]; exact .inl ⟨_, _, rfl⟩
  · rw [if_neg h1]
    by_cases h2 : R < 9218868437227405312
    · rw [if_pos h2]; exact .inl ⟨_, _, rfl⟩
    · rw [if_neg h2, if_pos (by omega)]; exact .inr rfl
theorem pos1 : ∃ m i, 0 < m /\ rd 4607182418800017408 = .number false m i := ⟨_, _, by decide, rd1⟩
theorem pos64 : ∃ m i, 0 < m /\ rd 4895412794951729152 = .number false m i := ⟨_, _, by decide, rd64⟩
end Go.Sh

set_option linter.all false
set_option maxRecDepth 8000
set_option maxHeartbeats 1000000
namespace Go.Sh
open Ieee
theorem pw (n : Nat) : 0 < 2 ^ n := Nat.pow_pos (by decide)
theorem div_min (n d : Nat) : n / 2 ^ (min d (n.log2 + 2)) = n / 2 ^ d := by
  by_cases e : d <= n.log2 + 2
  · rw [Nat.min_eq_left e]
  · rw [Nat.min_eq_right (by omega)]
    have h1 : n < 2 ^ (n.log2 + 2) := Nat.lt_of_lt_of_le Nat.lt_log2_self (Nat.pow_le_pow_right (by decide) (by omega))
    have h2 : n < 2 ^ d := Nat.lt_of_lt_of_le h1 (Nat.pow_le_pow_right (by decide) (by omega))
    rw [Nat.div_eq_of_lt h1, Nat.div_eq_of_lt h2]
end Go.Sh

set_option linter.all false
set_option maxRecDepth 8000
namespace Go.Sh
open Ieee
theorem rd00 : rd 0 = .number false 0 (-1074) := by decide +kernel
theorem ord0a : (((rd 0).order (rd 4895412794951729152) == some .gt) || ((rd 0).order (rd 4895412794951729152) == some .eq)) = false := by decide +kernel
theorem ord0b : (((rd 0).order (rd 4607182418800017408) == some .gt) || ((rd 0).order (rd 4607182418800017408) == some .eq)) = false := by decide +kernel
theorem times_zero (n : Int) : timesV n 0 = 0 := by
  have e0 : (0 : Int).toNat = 0 := rfl
  cases hq : rd (fNear n) with
  | nan s f => exact timesV_none (by rw [fArith_mul, e0, hq]; rfl)
  | infinity s =>
    refine timesV_none ?_
    rw [fArith_mul, e0, hq, rd00]
    simp [Datum.product]
  | number s m i =>
    have hx : fArith .mul (fNear n) (0 : Int).toNat = some (double.write (.number (s ^^ false) (m * 0) (i + -1074))) := by
      rw [fArith_mul, e0, hq, rd00]; rfl
    have hw : double.write (.number (s ^^ false) (m * 0) (i + -1074)) = double.word s 0 := by
      show double.nearest (s ^^ false) (m * 0) (i + -1074) = _
      unfold Format.nearest
      rw [if_pos (by simp), Bool.xor_false]
    rw [hw] at hx
    cases s with
    | false =>
      have hx : fArith .mul (fNear n) (0 : Int).toNat = some 0 := hx
      exact timesV_low hx (by rw [fOrd_eq]; exact ord0a) (by rw [fOrd_eq]; exact ord0b)
    | true =>
      have hn := word_neg 0 (by decide)
      exact timesV_low hx (neg_low hn _ pos64) (neg_low hn _ pos1)
end Go.Sh

set_option linter.all false
set_option maxRecDepth 8000
set_option maxHeartbeats 4000000
namespace Go.Sh
open Ieee
theorem cut_exact (q d : Nat) : Toward.even.cut false (q * 2 ^ d) d = q := by
  unfold Toward.cut
  simp only [Nat.shiftLeft_eq, Nat.one_mul]
  by_cases q0 : q = 0
  · subst q0; simp
  have hd : d <= (q * 2 ^ d).log2 + 2 := by
    have h0 : q * 2 ^ d ≠ 0 := Nat.mul_ne_zero q0 (Nat.ne_of_gt (pw d))
    have h1 : 2 ^ d <= q * 2 ^ d := Nat.le_mul_of_pos_left _ (by omega)
    have h2 := (Nat.le_log2 h0).2 h1
    omega
  rw [Nat.min_eq_left hd, Nat.mul_mod_left, Nat.mul_div_cancel _ (pw d)]
  have hp := pw d
  rw [Nat.mul_zero]
  have e1 : decide (2 ^ d < 0) = false := decide_eq_false (Nat.not_lt_zero _)
  have e2 : (2 ^ d == 0) = false := by rw [beq_eq_false_iff_ne]; omega
  rw [e1, e2]; rfl
theorem nearest_exact {m z D l t : Nat} (h0 : 0 < m) (hl : m.log2 = l) (hl52 : l <= 52) (ht : t + l + z = D + 52) (ht2 : t < 1074) : rd (double.nearest false (m * 2 ^ z) (-(D : Int))) = .number false (m * 2 ^ (52 - l)) (-(t : Int)) := by
  have hl1 : 2 ^ l <= m := by rw [<- hl]; exact Nat.log2_self_le (by omega)
  have hl2 : m < 2 ^ (l + 1) := by rw [<- hl]; exact Nat.lt_log2_self
  have hne : m * 2 ^ z ≠ 0 := Nat.mul_ne_zero (by omega) (Nat.ne_of_gt (pw z))
  have hlog : (m * 2 ^ z).log2 = l + z := by
    refine Nat.le_antisymm ?_ ((Nat.le_log2 hne).2 (by rw [Nat.pow_add]; exact Nat.mul_le_mul_right _ hl1))
    have : m * 2 ^ z < 2 ^ (l + z + 1) := by
      rw [show l + z + 1 = (l + 1) + z by omega, Nat.pow_add]; exact Nat.mul_lt_mul_of_pos_right hl2 (pw z)
    have := (Nat.log2_lt hne).2 this
    omega
  unfold Format.nearest
  rw [if_neg hne, hlog]
  have hlast : max (-(D : Int) + ((l + z : Nat) : Int) - ((double.fractionBits : Nat) : Int)) double.leastPlace = -(t : Int) := by
    rw [dlp, dfr]; omega
  simp only [hlast]
  rw [show (-(D : Int) - -(t : Int)).toNat = t - D by omega, show (-(t : Int) - -(D : Int)).toNat = D - t by omega, dlp, show (-(t : Int) - -1074).toNat = 1074 - t by omega, dbi, dir, Nat.shiftLeft_eq]
  have hQ : Toward.even.cut false (m * 2 ^ z * 2 ^ (t - D)) (D - t) = m * 2 ^ (52 - l) := by
    by_cases g : t <= D
    · rw [show t - D = 0 by omega, Nat.pow_zero, Nat.mul_one]
      have : m * 2 ^ z = m * 2 ^ (52 - l) * 2 ^ (D - t) := by rw [Nat.mul_assoc, <- Nat.pow_add]; congr 2; omega
      rw [this]; exact cut_exact _ _
    · rw [show D - t = 0 by omega]
      have : m * 2 ^ z * 2 ^ (t - D) = m * 2 ^ (52 - l) * 2 ^ 0 := by rw [Nat.mul_assoc, <- Nat.pow_add, Nat.pow_zero, Nat.mul_one]; congr 2; omega
      rw [this]; exact cut_exact _ _
  rw [hQ]
  have q1 : 4503599627370496 <= m * 2 ^ (52 - l) := by
    have : (2 : Nat) ^ l * 2 ^ (52 - l) = 4503599627370496 := by rw [<- Nat.pow_add, show l + (52 - l) = 52 by omega]
    rw [<- this]; exact Nat.mul_le_mul_right _ hl1
  have q2 : m * 2 ^ (52 - l) < 9007199254740992 := by
    have : (2 : Nat) ^ (l + 1) * 2 ^ (52 - l) = 9007199254740992 := by rw [<- Nat.pow_add, show l + 1 + (52 - l) = 53 by omega]
    rw [<- this]; exact Nat.mul_lt_mul_of_pos_right hl2 (pw _)
  generalize m * 2 ^ (52 - l) = k at *
  have hW : (1074 - t) * 4503599627370496 + k < 9218868437227405312 := by omega
  rw [Nat.min_eq_left (Nat.le_of_lt hW)]
  show rd ((1074 - t) * 4503599627370496 + k) = _
  rw [rd_word, show ((1074 - t) * 4503599627370496 + k) % 9223372036854775808 = (1074 - t) * 4503599627370496 + k by omega, show ((1074 - t) * 4503599627370496 + k) / 9223372036854775808 % 2 = 0 by omega, if_neg (by omega), if_pos hW]
  show Datum.number false (4503599627370496 + ((1074 - t) * 4503599627370496 + k) % 4503599627370496) (-1074 + ((((1074 - t) * 4503599627370496 + k) / 4503599627370496 - 1 : Nat) : Int)) = _
  rw [show ((1074 - t) * 4503599627370496 + k) % 4503599627370496 = k - 4503599627370496 by omega, show ((1074 - t) * 4503599627370496 + k) / 4503599627370496 = 1074 - t + 1 by omega, show 4503599627370496 + (k - 4503599627370496) = k by omega]
  congr 1
  omega
theorem near_at53 {n l : Nat} (h0 : 0 < n) (hl : n.log2 = l) (hl52 : l <= 52) : rd (fNear (n : Int)) = .number false (n * 2 ^ (52 - l)) (-((52 - l : Nat) : Int)) := by
  rw [near_eq]
  have h1 : FloatKind.f64.nearest (n : Int) = double.nearest false (n * 2 ^ 0) (-((0 : Nat) : Int)) := by
    show double.nearest (decide ((n : Int) < 0)) (n : Int).natAbs 0 = _
    rw [decide_eq_false (by omega), Int.natAbs_natCast, Nat.pow_zero, Nat.mul_one]
    rfl
  rw [h1]
  exact nearest_exact h0 hl hl52 (by omega) (by omega)
theorem bool_cmp {a b : Int} : ((some (compare a b) == some Ordering.gt) || (some (compare a b) == some Ordering.eq)) = decide (b <= a) := by
  by_cases h : ((some (compare a b) == some Ordering.gt) || (some (compare a b) == some Ordering.eq)) = true
  · rw [h, decide_eq_true (cmp_ge h)]
  · have := cmp_lt h
    rw [Bool.eq_false_iff.2 h, decide_eq_false (by omega)]
theorem ge_one {x k T : Nat} (hx : rd x = .number false k (-(T : Int))) : ((fOrd x 4607182418800017408 == some .gt) || (fOrd x 4607182418800017408 == some .eq)) = decide (2 ^ T <= k) := by
  rw [fOrd_eq, rd1, hx]
  simp only [Datum.order]
  rw [bool_cmp, signed_f, signed_f]
  have e52 : (4503599627370496 : Nat) = 2 ^ 52 := by decide
  by_cases hT : 52 <= T
  · rw [Int.min_eq_left (by omega), show (-(T : Int) - -(T : Int)).toNat = 0 by omega, show (-52 - -(T : Int)).toNat = T - 52 by omega, e52, <- Nat.pow_add, show 52 + (T - 52) = T by omega, Nat.pow_zero, Nat.mul_one]
    by_cases g : 2 ^ T <= k
    · rw [decide_eq_true g, decide_eq_true (by exact_mod_cast g)]
    · rw [decide_eq_false g, decide_eq_false (fun h => g (by exact_mod_cast h))]
  · rw [Int.min_eq_right (by omega), show (-(T : Int) - -52).toNat = 52 - T by omega, show ((-52 : Int) - -52).toNat = 0 by decide, Nat.pow_zero, Nat.mul_one, e52]
    have e : (2 : Nat) ^ 52 = 2 ^ T * 2 ^ (52 - T) := by rw [<- Nat.pow_add]; congr 1; omega
    by_cases g : 2 ^ T <= k
    · rw [decide_eq_true g, decide_eq_true]
      rw [e]
      exact_mod_cast Nat.mul_le_mul_right _ g
    · rw [decide_eq_false g, decide_eq_false]
      intro h
      rw [e] at h
      have h : 2 ^ T * 2 ^ (52 - T) <= k * 2 ^ (52 - T) := by exact_mod_cast h
      exact g (Nat.le_of_mul_le_mul_right h (pw _))
theorem not_ge_top {x k T : Nat} (hx : rd x = .number false k (-(T : Int))) (hk : k < 9007199254740992) : ((fOrd x 4895412794951729152 == some .gt) || (fOrd x 4895412794951729152 == some .eq)) = false := by
  rw [fOrd_eq, rd64, hx]
  simp only [Datum.order]
  rw [bool_cmp, signed_f, signed_f, Int.min_eq_left (by omega), show (-(T : Int) - -(T : Int)).toNat = 0 by omega, Nat.pow_zero, Nat.mul_one, show (12 - -(T : Int)).toNat = 12 + T by omega]
  refine decide_eq_false fun h => ?_
  have h : 4503599627370496 * 2 ^ (12 + T) <= k := by exact_mod_cast h
  have h2 : 4503599627370496 * 2 <= 4503599627370496 * 2 ^ (12 + T) := Nat.mul_le_mul_left _ (by
    have : (2 : Nat) ^ 1 <= 2 ^ (12 + T) := Nat.pow_le_pow_right (by decide) (by omega)
    simpa using this)
  omega
theorem times_pow {n r s : Nat} (h0 : 0 < n) (h1 : n < 9007199254740992) (hr : rd r = .number false 4503599627370496 (-(s : Int))) (hs : 52 <= s) (hs2 : s < 1000) : timesV (n : Int) (r : Int) = ((n / 2 ^ (s - 52) : Nat) : Int) := by
  obtain ⟨l, hl⟩ : ∃ l, n.log2 = l := ⟨_, rfl⟩
  have hl52 : l <= 52 := by
    have : n.log2 < 53 := (Nat.log2_lt (by omega)).2 h1
    omega
  have hn := near_at53 h0 hl hl52
  have hx : fArith .mul (fNear (n : Int)) ((r : Int)).toNat = some (double.nearest false (n * 2 ^ (104 - l)) (-((52 - l + s : Nat) : Int))) := by
    rw [fArith_mul, hn, Int.toNat_natCast, hr]
    show some (double.write (.number (false ^^ false) (n * 2 ^ (52 - l) * 4503599627370496) (-((52 - l : Nat) : Int) + -(s : Int)))) = _
    have e1 : n * 2 ^ (52 - l) * 4503599627370496 = n * 2 ^ (104 - l) := by
      rw [show (4503599627370496 : Nat) = 2 ^ 52 by decide, Nat.mul_assoc, <- Nat.pow_add]; congr 2; omega
    have e2 : -((52 - l : Nat) : Int) + -(s : Int) = -((52 - l + s : Nat) : Int) := by omega
    rw [e1, e2]; rfl
  have hw := nearest_exact (m := n) (z := 104 - l) (D := 52 - l + s) (l := l) (t := s - l) h0 hl hl52 (by omega) (by omega)
  have hk : n * 2 ^ (52 - l) < 9007199254740992 := by
    have h2 : n < 2 ^ (l + 1) := by rw [<- hl]; exact Nat.lt_log2_self
    have : (2 : Nat) ^ (l + 1) * 2 ^ (52 - l) = 9007199254740992 := by rw [<- Nat.pow_add, show l + 1 + (52 - l) = 53 by omega]
    rw [<- this]; exact Nat.mul_lt_mul_of_pos_right h2 (pw _)
  unfold timesV
  rw [hx]
  dsimp only
  rw [not_ge_top hw hk, ge_one hw, cond_false]
  have ediv : n * 2 ^ (52 - l) / 2 ^ (s - l) = n / 2 ^ (s - 52) := by
    rw [show s - l = (s - 52) + (52 - l) by omega, Nat.pow_add, Nat.mul_div_mul_right _ _ (pw _)]
  by_cases g : 2 ^ (s - l) <= n * 2 ^ (52 - l)
  · rw [decide_eq_true g, cond_true, fInt_eq, hw, toInt_num, show (-((s - l : Nat) : Int)).toNat = 0 by omega, Nat.pow_zero, Nat.mul_one, show (-(-((s - l : Nat) : Int))).toNat = s - l by omega, cut_zero, div_min, ediv]
    rfl
  · rw [decide_eq_false g, cond_false, <- ediv, Nat.div_eq_of_lt (by omega)]
    rfl
theorem times_n0 {s : Int} (r : Nat) (hr : rd r = .number false 4503599627370496 s) : timesV ((0 : Nat) : Int) (r : Int) = 0 := by
  have h0 : rd (fNear ((0 : Nat) : Int)) = .number false 0 (-1074) := by
    have : fNear ((0 : Nat) : Int) = 0 := by rw [near_eq]; decide +kernel
    rw [this]; exact rd00
  have hx : fArith .mul (fNear ((0 : Nat) : Int)) ((r : Int)).toNat = some 0 := by
    rw [fArith_mul, h0, Int.toNat_natCast, hr]
    show some (double.write (.number (false ^^ false) (0 * 4503599627370496) (-1074 + s))) = some 0
    show some (double.nearest false (0 * 4503599627370496) (-1074 + s)) = some 0
    unfold Format.nearest
    rw [if_pos (by decide)]; rfl
  exact timesV_low hx (by rw [fOrd_eq]; exact ord0a) (by rw [fOrd_eq]; exact ord0b)
theorem rd_16 : rd 4535124824762089472 = .number false 4503599627370496 (-((68 : Nat) : Int)) := by decide +kernel
theorem rd_15 : rd 4539628424389459968 = .number false 4503599627370496 (-((67 : Nat) : Int)) := by decide +kernel
theorem rd_14 : rd 4544132024016830464 = .number false 4503599627370496 (-((66 : Nat) : Int)) := by decide +kernel
end Go.Sh
