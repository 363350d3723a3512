/- What the heap's laws share. No further condition. -/
import Derived.Test.YtdnkgjeggfhfiaaGreatDoorH
import Derived.Test.YtdnkgjeggfhfiaaGreatDoorX
import Derived.Test.YtdnkgjeggfhfiaaGreatDoorA
import Derived.Test.YtdnkgjeggfhfiaaGreatDoorC
import Derived.Test.YtdnkgjeggfhfiaaGreatDoorR
import Derived.Test.YtdnkgjeggfhfiaaGreatDoorM
set_option linter.all false
set_option maxRecDepth 8000
set_option maxHeartbeats 2000000
namespace Go.Sh
theorem Found.induct {P : HS -> Prop} {S S2 : HS} {p n page : Int} (hS : P S) (h1 : ∀ S i q, i < 64 -> P S -> P (S.fill i q)) (h2 : ∀ S i k n, P S -> P (S.calloc i k n)) (h3 : ∀ S page n, P S -> P (S.talloc page n))
  (h4 : ∀ S V at_ N, P S -> P (S.grown V at_ N)) (h5 : ∀ S V, P S -> P { S with V := V }) (h : Found S p n page S2) : P S2 := by
 have hf : ∀ {i S1}, i < 64 -> Filled S i S1 -> P S1 := fun {i S1} hi h => by
  rcases h with ⟨_, q, _, rfl⟩ | ⟨_, rfl⟩
  ·exact h1 _ _ _ hi hS
  ·exact hS
 have ht : ∀ {S1}, Tried S p n S1 -> P S1 := fun {S1} h => by
  rcases h with ⟨_, rfl⟩ | ⟨i, hi, _, _, h, _⟩
  ·exact hS
  ·exact hf hi h
 obtain ⟨S1, hk, hm⟩ := h
 have hP1 : P S1 := by
  rcases hk with (⟨S0, i, k, hi, _, _, hfl, _, _, _, _, rfl⟩ | ⟨S0, htr, _, rfl⟩) | ⟨S0, S0', htr, _, ⟨_, at_, _, rfl⟩, _, rfl⟩
  ·exact h2 _ _ _ _ (hf hi hfl)
  ·exact h3 _ _ _ (ht htr)
  ·exact h3 _ _ _ (h4 _ _ _ _ (ht htr))
 rcases hm with ⟨_, rfl⟩ | ⟨_, _, rfl⟩
 ·exact hP1
 ·exact h5 _ _ hP1
structure Same (S S2 : HS) : Prop where
 sp : S2.sp = S.sp
 own : S2.own = S.own
 fx : S2.fx = S.fx
 pages : S2.pages = S.pages
theorem Found.same {S S2 : HS} {p n page : Int} (h : Found S p n page S2) : Same S S2 :=
 h.induct (P := Same S) ⟨rfl, rfl, rfl, rfl⟩ (fun _ _ _ _ h => ⟨h.sp, h.own, h.fx, h.pages⟩) (fun _ _ _ _ h => ⟨h.sp, h.own, h.fx, h.pages⟩) (fun _ _ _ h => ⟨h.sp, h.own, h.fx, h.pages⟩) (fun _ _ _ _ h => ⟨h.sp, h.own, h.fx, h.pages⟩) fun _ _ h => ⟨h.sp, h.own, h.fx, h.pages⟩
structure LaidB (S : HS) (b : Int) : Prop where
 la : ∀ p, mem S.V.laid p ↔ 512 <= p /\ p < b
 b0 : 512 <= b
 b1 : b % 512 = 0
 h0 : 0 <= S.hint
 h1 : S.hint <= b
 pl : S.V.pl = []
 rf : S.V.rf = []
theorem LaidB.new (fl : List Int) : LaidB (HS.new (newV [] [] fl)) 512 := ⟨fun p => ⟨fun h => absurd h (mem_nil p), fun h => by omega⟩, Int.le_refl _, rfl, Int.le_refl _, by show (0 : Int) <= 512; decide, rfl, rfl⟩
section
variable {S S2 : HS} {b p n page : Int}
theorem upN_le (n : Int) : n <= upN n /\ upN n < n + 512 /\ upN n % 512 = 0 := by unfold upN; omega
theorem LaidB.placed (h : LaidB S b) {hint N at_ : Int} (hN : 0 < N) (hh : hint <= b) (hp : Placed S.V.laid hint N at_) : at_ = b := by
 have h1 := hp.low
 have h2 := hp.mul
 have b0 := h.b0
 have b1 := h.b1
 by_cases g : b < at_
 ·obtain ⟨m, m1, m2, m3⟩ := hp.first b b1 b0 hh g
  have := (h.la m).1 m3
  omega
 ·by_cases g2 : at_ < b
  ·exact absurd ((h.la at_).2 ⟨h1, g2⟩) (hp.free at_ (Int.le_refl _) (by omega))
  ·omega
theorem LaidB.chosen (h : LaidB S b) {N at_ : Int} (hN : 0 < N) (hc : Chosen S.V S.hint N at_) : at_ = b := by
 have := h.h0
 have := h.h1
 rcases hc with ⟨p, r, e, _⟩ | ⟨_, ⟨_, h1, _⟩ | ⟨_, _, h1, _⟩⟩
 ·rw [h.pl] at e; cases e
 ·exact h.placed hN (by omega) h1
 ·exact h.placed hN (by have := h.b0; omega) h1
theorem LaidB.unplaced (h : LaidB S b) {N : Int} (hN : 0 < N) (hb : b + N <= 34359738368) (hu : Unplaced S.V S.hint N) : False := by
 have := h.h1
 obtain ⟨_, g | ⟨a, g1, g2⟩, _⟩ := hu
 ·omega
 ·have := h.placed hN h.h1 g1
  omega
theorem LaidB.sameV (h : LaidB S b) (e1 : S2.V = S.V) (e2 : S2.hint = S.hint) : LaidB S2 b := ⟨by rw [e1]; exact h.la, h.b0, h.b1, by rw [e2]; exact h.h0, by rw [e2]; exact h.h1, by rw [e1]; exact h.pl, by rw [e1]; exact h.rf⟩
theorem Filled.V {i : Nat} (h : Filled S i S2) : S2.V = S.V /\ S2.hint = S.hint := by
 rcases h with ⟨_, q, _, rfl⟩ | ⟨_, rfl⟩ <;> exact ⟨rfl, rfl⟩
theorem Tried.V (h : Tried S p n S2) : S2.V = S.V /\ S2.hint = S.hint := by
 rcases h with ⟨_, rfl⟩ | ⟨i, _, _, _, h, _⟩
 ·exact ⟨rfl, rfl⟩
 ·exact h.V
theorem LaidB.made (h : LaidB S b) (hm : Made S page n S2) : LaidB S2 b := by
 rcases hm with ⟨_, rfl⟩ | ⟨_, _, rfl⟩
 ·exact h
 ·exact ⟨h.la, h.b0, h.b1, h.h0, h.h1, h.pl, by show S.V.rf.tail = []; rw [h.rf]; rfl⟩
theorem LaidB.grew' (h : LaidB S b) (hk : Ok S.V.laid) (hn : 1 <= n) (hg : Grew S n S2) (hb : b + upN n <= 34359738368) : LaidB S2 (b + upN n) /\ S2 = S.grown { S.V with rf := S.V.rf.tail, pl := S.V.pl.tail, laid := addL S.V.laid b (b + upN n) } b (upN n) := by
 obtain ⟨_, at_, hc, rfl⟩ := hg
 have hu := upN_le n
 have b0 := h.b0
 have b1 := h.b1
 have := h.chosen (by omega) hc
 subst this
 refine ⟨⟨fun q => ?_, by omega, by omega, by show 0 <= at_ + upN n; omega, Int.le_refl _, by show S.V.pl.tail = []; rw [h.pl]; rfl, by show S.V.rf.tail = []; rw [h.rf]; rfl⟩, rfl⟩
 refine (mem_addL hk (by omega) (by omega) (by omega) q).trans ?_
 rw [h.la]; omega
theorem LaidB.lost (hL : LaidB S b) (hn : 1 <= n) (hb : b + upN n <= 34359738368) (h : Lost S p n S2) : False := by
 have hu := upN_le n
 rcases h with ⟨S0, htr, _, ⟨r, hr, _⟩ | ⟨_, hup, _⟩⟩ | ⟨S1, page, r, hk, _, hr, _⟩
 ·rw [(hL.sameV htr.V.1 htr.V.2).rf] at hr; cases hr
 ·exact (hL.sameV htr.V.1 htr.V.2).unplaced (by omega) hb hup
 ·have e : S1.V.rf = [] := by
   rcases hk with (⟨S0, i, k, hi, _, _, hfl, _, _, _, _, rfl⟩ | ⟨S0, htr, _, rfl⟩) | ⟨S0, S0', htr, _, ⟨_, at_, hc, rfl⟩, _, rfl⟩
   ·show S0.V.rf = []
    rw [hfl.V.1]; exact hL.rf
   ·show S0.V.rf = []
    rw [htr.V.1]; exact hL.rf
   ·show S0.V.rf.tail = []
    rw [htr.V.1, hL.rf]; rfl
  rw [e] at hr; cases hr
theorem first1 {V : TV} {p : Int} (h : firstB V 1 p) : V.fr p = true := h.2.2.1 p (Int.le_refl _) (by omega)
def FrR (S : HS) (a b : Int) : Prop := ∀ p, S.T.fr p = true ↔ a <= p /\ p < b
theorem FrR.first {a : Int} (h : FrR S a b) (hn : 1 <= n) (hf : firstB S.T n page) : page = a /\ a + n <= b := by
 obtain ⟨_, _, h1, h2⟩ := hf
 have q1 := (h page).1 (h1 page (Int.le_refl _) (by omega))
 have q2 := (h (page + n - 1)).1 (h1 (page + n - 1) (by omega) (by omega))
 have := h2 a fun m m1 m2 => (h m).2 (by omega)
 omega
theorem FrR.none {a : Int} (h : FrR S a b) (hno : ∀ q, ¬ rowB S.T.fr q n) : b < a + n := by
 refine Classical.byContradiction fun g => hno a fun m m1 m2 => (h m).2 (by omega)
theorem FrR.taken {a : Int} (h : FrR S a b) (hn : 0 <= n) : FrR (S.talloc a n) (a + n) b := fun p => by
 refine take_fr.trans ?_
 rw [h p]; omega
theorem FrR.grown {a : Int} (h : FrR S a b) {V : VS} {N : Int} (h1 : b % 512 = 0) (h2 : N % 512 = 0) (h3 : 0 <= N) (hab : a <= b) : FrR (S.grown V b N) a (b + N) := fun p => by
 show (S.T.fr p || inr (b / 512 * 512) (N / 512 * 512) p) = true ↔ _
 rw [Bool.or_eq_true, h p, inr_iff]
 omega
theorem FrR.new (V : VS) : FrR (HS.new V) 512 512 := fun p => ⟨fun h => (by cases h), fun h => by omega⟩
theorem Found.row (h : Found S p n page S2) {a : Int} (hL : LaidB S b) (hk : HOk S) (hF : FrR S a b) (hab : a <= b) (hn : 1 <= n) (hb : b + upN n <= 34359738368) (hT : ∀ S0, Tried S p n S0 -> S0 = S) (hno : ∀ S0 page, Got S p n page S0 -> S0 = S.talloc page n /\ firstB S.T n page) :
  ∃ b', (b' = b ∨ b' = b + upN n) /\ page = a /\ a + n <= b' /\ LaidB S2 b' /\ FrR S2 (a + n) b' /\ S2.ca = S.ca /\ (b' = b -> ∀ V, { S2 with V := V } = { S.talloc a n with V := V }) /\ (a + n <= b -> b' = b) := by
 obtain ⟨S1, h, hm⟩ := h
 have hu := upN_le n
 have hs : ∀ {S1 S2 : HS}, Made S1 page n S2 -> S2.ca = S1.ca /\ S2.T = S1.T /\ ∀ V, { S2 with V := V } = { S1 with V := V } := fun h => by
  rcases h with ⟨_, rfl⟩ | ⟨_, _, rfl⟩ <;> exact ⟨rfl, rfl, fun _ => rfl⟩
 obtain ⟨s1, s2, s3⟩ := hs hm
 rcases h with h | ⟨S0, S0', htr, hnone, hg, hf, rfl⟩
 ·obtain ⟨rfl, hf⟩ := hno _ _ h
  obtain ⟨rfl, h1⟩ := hF.first hn hf
  refine ⟨b, .inl rfl, rfl, h1, (hL.sameV rfl rfl : LaidB (S.talloc page n) b).made hm, fun q => ?_, s1, fun _ => s3, fun _ => rfl⟩
  rw [s2]; exact hF.taken (by omega) q
 ·obtain rfl := hT _ htr
  obtain ⟨h1, e0⟩ := hL.grew' hk.vv.ok1 hn hg hb
  have hL2 : LaidB S2 (b + upN n) := (h1.sameV rfl rfl : LaidB (S0'.talloc page n) (b + upN n)).made hm
  subst e0
  have hF' : FrR (S0.grown { S0.V with rf := S0.V.rf.tail, pl := S0.V.pl.tail, laid := addL S0.V.laid b (b + upN n) } b (upN n)) a (b + upN n) := hF.grown hL.b1 hu.2.2 (by omega) hab
  obtain ⟨rfl, h2⟩ := hF'.first hn hf
  have hl := hF.none hnone
  refine ⟨b + upN n, .inr rfl, rfl, h2, hL2, fun q => ?_, s1, fun e => by omega, fun e => by omega⟩
  rw [s2]; exact hF'.taken (by omega) q
theorem tried_nofree (hfr : ∀ q, S.T.fr q = false) {S0 : HS} (hn : 1 <= n) (ht : Tried S p n S0) : S0 = S := by
 rcases ht with ⟨_, rfl⟩ | ⟨i, hi, rfl, _, ⟨_, q, hq, _⟩ | ⟨_, rfl⟩, _⟩
 ·rfl
 ·have := first1 hq
  rw [hfr] at this; cases this
 ·rfl
theorem got_nofree (hfr : ∀ q, S.T.fr q = false) (hc : ∀ i, i < 64 -> (S.ca i).empty) {S0 : HS} {page : Int} (hn : 1 <= n) (ht : Got S p n page S0) : S0 = S.talloc page n /\ firstB S.T n page := by
 rcases ht with ⟨S1, i, k, hi, rfl, _, hfl, hr, _⟩ | ⟨S0, ht, hf, rfl⟩
 ·exfalso
  rcases hfl with ⟨_, q, hq, _⟩ | ⟨_, rfl⟩
  ·have := first1 hq
   rw [hfr] at this; cases this
  ·have := hr 0 (by omega)
   rw [hc i hi] at this; cases this
 ·rw [tried_nofree hfr hn ht] at hf ⊢; exact ⟨rfl, hf⟩
end
end Go.Sh

set_option linter.all false
set_option maxRecDepth 4000
set_option maxHeartbeats 4000000
namespace Go.Sh
section
variable {E : Env} {b c : Nat} {V : VS} {Z Rs : List Pr} {w : World}
end
end Go.Sh

set_option linter.all false
set_option maxRecDepth 8000
set_option maxHeartbeats 4000000
namespace Go.Sh
section
variable {E : Env} {w : World} {Rs Z : List Pr}
theorem HInv.newV (pl : List Int) (rf : List Bool) (fl : List Int) : HInv (HS.new (Go.Sh.newV pl rf fl)) no := HInv.new rfl rfl
variable (hE : EnvA E)
include hE
theorem halloc_ok {h : Nat} {S : HS} (hT : ∀ w', Sat Z w' -> TabAt E.g_math_bits_deBruijn64tab w') (H : Sat (HeapP E h S :: Z) w) (hI : HInv S no) {p n c b : Int} {np : Bool} (hL : LaidB S b) (hg : ¬ spBad 0 n c) (n0 : 0 <= n) (hb : b + upN n <= 34359738368) {K : Int -> Int -> World -> Prop}
  (hK : 1 <= n -> ∀ page S2 bl id X, Found S p n page S2 -> HOk S -> HInv S2 (inr page n) -> 0 <= page -> page + n <= 34359738368 -> Next S2 id X -> HInv (S2.keep id (bl, spOf page n c np) page n X) no -> ∀ w', Sat (HeapP E h (S2.keep id (bl, spOf page n c np) page n X) :: Z) w' -> K id 0 w') :
  F.mheap_Heap_Alloc E (some ⟨h, 0, none⟩) p n c np K w := by
 have hok := H.hok
 have hg' := hg
 unfold spBad at hg'
 have hn : 1 <= n /\ n <= 134217728 := by
  by_cases e : c = 0
  ·omega
  ·have hcb := cls_bnd (c := c) (by omega) (by omega)
   omega
 exact halloc_spec hE hT H hI n0 (by omega) (fun hb' => absurd hb' hg) (fun _ S2 hl => (hL.lost hn.1 hb hl).elim) fun _ page S2 bl id X hf hI2 q0 q1 hX hI3 w' H' => hK hn.1 page S2 bl id X hf hok hI2 q0 q1 hX hI3 w' H'
end
section
variable {S S2 : HS} {i k : Nat} {page : Int}
theorem LaidB.keep {b : Int} (h : LaidB S b) (id : Int) (x : Nat × SI) (pg n : Int) (X : FX) : LaidB (S.keep id x pg n X) b := ⟨h.la, h.b0, h.b1, h.h0, h.h1, h.pl, h.rf⟩
theorem Next.top {id : Int} {X : FX} (h : Next S id X) {n : Nat} (e : S.fx = ⟨n, []⟩) : id = (n : Int) + 1 /\ X = ⟨n + 1, []⟩ := by
 rcases h with ⟨_, h2, h3⟩ | ⟨a, r, h1, _⟩
 ·rw [e] at h2 h3; exact ⟨h2, h3⟩
 ·rw [e] at h1; cases h1
end
end Go.Sh

set_option linter.all false
set_option maxRecDepth 8000
set_option maxHeartbeats 4000000
namespace Go.Sh
theorem cls5 : (clsAt 5).2.1 = 1 := by decide +kernel
theorem own_keep {S : HS} {id : Int} {x : Nat × SI} {pg n : Int} {X : FX} (p : Int) : (S.keep id x pg n X).own p = if pg <= p /\ p < pg + n then id else S.own p := rfl
section
variable {E : Env} {w : World} {Rs Z : List Pr} (hE : EnvA E)
include hE
end
end Go.Sh

set_option linter.all false
set_option maxRecDepth 8000
set_option maxHeartbeats 4000000
namespace Go.Sh
section
variable {S S2 : HS} {n page : Int}
variable {i : Nat} {next b : Int} {rf : List Bool}
end
end Go.Sh

set_option linter.all false
set_option maxRecDepth 4000
set_option maxHeartbeats 2000000
namespace Go.Sh
theorem W_not (u : Nat -> Bool) : bitK .u64 2 18446744073709551615 (W u) = W fun i => !u i := by
 rw [<- W_ones]
 show IntKind.wrap .u64 ((BitVec.ofInt 64 (W fun _ => true) ^^^ BitVec.ofInt 64 (W u)).toNat : Int) = _
 rw [BitVec.toNat_xor, bvW, bvW]
 have e : wN (fun _ => true) 64 ^^^ wN u 64 = wN (fun i => !u i) 64 := by
  refine Nat.eq_of_testBit_eq fun i => ?_
  rw [Nat.testBit_xor, wN_bit, wN_bit, wN_bit]
  cases decide (i < 64) <;> cases u i <;> rfl
 rw [e, wrapW (wN_lt _ 64)]; rfl
theorem W_bit {n : Nat} (h : n < 64) : u64 (1 * 2 ^ (min (Int.toNat (n : Int)) (IntKind.bits .u64))) = W fun i => i == n := by
 have e := W_shl (fun i => i == 0) (n := (n : Int)) (by omega) (by omega)
 rw [W_one] at e
 rw [e]
 refine W_congr fun i hi => ?_
 rw [Int.toNat_natCast, Bool.eq_iff_iff, Bool.and_eq_true, decide_eq_true_eq, beq_iff_eq, beq_iff_eq]
 omega
theorem W_low_mask {n : Nat} (h : n < 64) : u64 ((u64 (1 * 2 ^ (min (Int.toNat (n : Int)) (IntKind.bits .u64)))) - 1) = W fun i => decide (i < n) := by
 have e : wN (fun i => i == n) 64 = 2 ^ n := by
  refine Nat.eq_of_testBit_eq fun i => ?_
  rw [wN_bit, Nat.testBit_two_pow]
  rw [Bool.eq_iff_iff, Bool.and_eq_true, decide_eq_true_eq, beq_iff_eq, decide_eq_true_eq]
  omega
 have e2 : wN (fun i => decide (i < n)) 64 = 2 ^ n - 1 := by
  refine Nat.eq_of_testBit_eq fun i => ?_
  rw [wN_bit, Nat.testBit_two_pow_sub_one]
  rw [Bool.eq_iff_iff, Bool.and_eq_true, decide_eq_true_eq, decide_eq_true_eq]
  omega
 rw [W_bit h]
 unfold W
 rw [e, e2]
 have h1 : 0 < 2 ^ n := Nat.pow_pos (by decide)
 have h2 : 2 ^ n <= 2 ^ 63 := Nat.pow_le_pow_right (by decide) (by omega)
 rw [u64_id (by omega) (by omega)]
 omega
theorem cN_set {u : Nat -> Bool} {i : Nat} (hu : u i = false) : ∀ n, cN (fun j => u j || j == i) n = cN u n + (if i < n then 1 else 0)
 | 0 => rfl
 | n + 1 => by
  simp only [cN, cN_set hu n]
  by_cases e : n = i
  ·subst e
   rw [hu, if_neg (by omega), if_pos (by omega)]; simp
  ·rw [show (n == i) = false by simpa using e, Bool.or_false]
   by_cases g : i < n
   ·rw [if_pos g, if_pos (by omega)]; omega
   ·rw [if_neg g, if_neg (by omega)]; omega
section
variable {E : Env} {w : World} {Z : List Pr} {s : SlV} {uw : List Int} {U : Nat -> Bool}
def SI.set (S : SI) (U : Nat -> Bool) (n : Nat) : SI := { S with uw := [W fun i => U i || i == n], used := S.used + 1, look := (n : Int) + 1 }
section
variable {b : Nat} {S : SI}
theorem spthere_spec (H : Sat (SpanP E b S :: Z) w) {i : Int} {K : Bool -> World -> Prop} (hK : K (decide (0 <= i /\ i < S.slots)) w) : F.span_Span_there E (some ⟨b, 0, none⟩) i K w := by
 obtain ⟨su, sm, H⟩ := Sat.span.1 H
 unfold F.span_Span_there
 simp only [NC_some]
 refine CND_dec (fun g => ⟨_, H.cell rfl, ?_⟩) fun g => ?_
 ·rw [show decide (i < S.slots) = decide (0 <= i /\ i < S.slots) from decide_eq_decide.2 (by omega)]; exact hK
 ·rw [decide_eq_false (by omega)] at hK; exact hK
theorem spslot_spec (H : Sat (SpanP E b S :: Z) w) {i : Int} (h0 : 0 <= i) (h1 : i < S.slots) {K : Int -> Int -> World -> Prop} (hK : ∀ w', Sat (SpanP E b S :: Z) w' -> K (u64 (S.base + u64 (u64 i * u64 S.elem))) 0 w') : F.span_Span_Slot E (some ⟨b, 0, none⟩) i K w := by
 unfold F.span_Span_Slot T0.span_Span_Slot
 refine spthere_spec H ?_
 rw [decide_eq_true ⟨h0, h1⟩]
 refine CND_f rfl ?_
 obtain ⟨su, sm, H⟩ := Sat.span.1 H
 simp only [NC_some]
 exact ⟨_, H.drew.cell0 rfl, _, H.drew.cell rfl, LET_intro fun t ht => by rw [ht]; exact hK _ (Sat.span.2 ⟨su, sm, H.drew⟩)⟩
end
end
end Go.Sh

set_option linter.all false
set_option maxRecDepth 8000
set_option maxHeartbeats 2000000
namespace Go.Sh
def HS.put (S : HS) (id : Int) (x : Nat × SI) : HS := { S with sp := fun i => if i = id then some x else S.sp i }
section
variable {S : HS} {fl : Int -> Bool} {id : Int} {x : Nat × SI} {I : SI}
theorem HInv.put (h : HInv S fl) (hx : S.sp id = some x) (h1 : I.base = x.2.base) (h2 : I.pages = x.2.pages) (h3 : I.state ≠ 0) : HInv (S.put id (x.1, I)) fl := by
 refine ⟨h.cr, h.cd, h.fn, fun p hp => ?_, h.o0, h.li, h.cv, h.ks, h.la, h.rd, fun i y hy => ?_, fun i => ?_, h.fb, h.pg, h.h0, h.h1⟩
 ·obtain ⟨a, b, c, y, hy, h4, h5⟩ := h.ow p hp
  refine ⟨a, b, c, ?_⟩
  by_cases e : S.own p = id
  ·refine ⟨(x.1, I), if_pos e, ?_⟩
   rw [e, hx] at hy
   cases hy
   rw [h1, h2]; exact ⟨h4, h5⟩
  ·exact ⟨y, (if_neg e).trans hy, h4, h5⟩
 ·have hy : (if i = id then some (x.1, I) else S.sp i) = some y := hy
  by_cases e : i = id
  ·rw [if_pos e] at hy
   cases hy
   obtain ⟨a, b, c, _, d⟩ := h.sp id x hx
   subst e
   refine ⟨a, by rw [h1]; exact b, by rw [h2]; exact c, h3, ?_⟩
   rw [h1, h2]; exact d
  ·rw [if_neg e] at hy
   exact h.sp i y hy
 ·show (if i = id then some (x.1, I) else S.sp i) ≠ none ↔ _
  refine Iff.trans ?_ (h.sf i)
  by_cases e : i = id
  ·rw [if_pos e, e, hx]; simp
  ·rw [if_neg e]
theorem HS.put_sp : (S.put id x).sp id = some x := if_pos rfl
theorem HS.put_ne {i : Int} (h : i ≠ id) : (S.put id x).sp i = S.sp i := if_neg h
end
section
variable {E : Env} {h : Nat} {S : HS} {Z : List Pr} {w : World}
theorem nodup_erase {α : Type} : ∀ {l : List α} {i : Nat} {x : α}, l.Nodup -> l[i]? = some x -> x ∉ l.eraseIdx i
 | [], i, x, _, h => by simp at h
 | y :: l, 0, x, hn, h => by
  simp at h; subst h
  simpa using (List.nodup_cons.1 hn).1
 | y :: l, i + 1, x, hn, h => by
  have hn := List.nodup_cons.1 hn
  have h : l[i]? = some x := by simpa using h
  have ih := nodup_erase hn.2 h
  rw [List.eraseIdx_cons_succ, List.mem_cons]
  rintro (e | e)
  ·subst e; exact hn.1 (List.mem_of_getElem? h)
  ·exact ih e
theorem Sat.heapPut (H : Sat (HeapP E h S :: Z) w) {id : Int} {x : Nat × SI} (hx : S.sp id = some x) : ∃ R : List Pr, Sat (SpanP E x.1 x.2 :: R) w /\ ∀ {I : SI} {w'}, Sat (SpanP E x.1 I :: R) w' -> Sat (HeapP E h (S.put id (x.1, I)) :: Z) w' := by
 obtain ⟨g, hI, H⟩ := Sat.heap.1 H
 have hm : id ∈ g.ids := (hI.mem id).2 (by rw [hx]; exact fun h => by cases h)
 obtain ⟨i, hi⟩ := List.mem_iff_getElem?.1 hm
 have H1 := (H.front 6 rfl).manyGet hi
 have e : spR E S.sp id = SpanP E x.1 x.2 := by unfold spR; rw [hx]
 rw [e] at H1
 refine ⟨_, H1, fun {I w'} h' => Sat.heap.2 ⟨g, ⟨hI.nd, fun j => ?_⟩, ?_⟩⟩
 ·rw [hI.mem]
  show _ ↔ (if j = id then some (x.1, I) else S.sp j) ≠ none
  by_cases e : j = id
  ·rw [if_pos e, e, hx]; simp
  ·rw [if_neg e]
 ·have e1 : spR E (S.put id (x.1, I)).sp id = SpanP E x.1 I := by unfold spR; rw [HS.put_sp]
  have e2 : Many (spR E S.sp) (g.ids.eraseIdx i) = Many (spR E (S.put id (x.1, I)).sp) (g.ids.eraseIdx i) := Many.congr fun j hj => by
   have : j ≠ id := fun e => nodup_erase hI.nd hi (e ▸ hj)
   unfold spR; rw [HS.put_ne this]
  rw [<- e1, e2] at h'
  have h2 := Sat.manyBack h' hi
  have h3 := Sat.back (Ps := hres E h S g ++ Z) 6 h2 (by simp [hres])
  have e3 : spMap S.sp = spMap (S.put id (x.1, I)).sp := by
   funext j
   unfold spMap
   by_cases e : j = id
   ·rw [e, HS.put_sp, hx]; rfl
   ·rw [HS.put_ne e]
  have e4 : (hres E h S g ++ Z).set 6 (Many (spR E (S.put id (x.1, I)).sp) g.ids) = hres E h (S.put id (x.1, I)) g ++ Z := by
   show [Cells h E.t_mheap_Heap (hcells g S.hint S.pages), VmemP E g.m S.V, TreeV E g.t S.T, ArenaP E g.a S.ks S.own, FixP E g.f S.fx, MapF g.sm .i64 (spMap S.sp), _, _] ++ Z = _
   rw [e3]; rfl
  rw [e4] at h3
  exact h3
variable (hE : EnvA E)
include hE
end
end Go.Sh

set_option linter.all false
set_option maxRecDepth 8000
set_option maxHeartbeats 2000000
namespace Go.Sh
section
variable {E : Env} {h : Nat} {S : HS} {Z : List Pr} {w : World} {g : HG}
variable (hE : EnvA E)
include hE
end
end Go.Sh

set_option linter.all false
set_option maxRecDepth 8000
set_option maxHeartbeats 1000000
namespace Go.Sh
open Ieee
def rd (x : Nat) : Datum := double.read x
end Go.Sh

set_option linter.all false
set_option maxRecDepth 8000
set_option maxHeartbeats 1000000
namespace Go.Sh
open Ieee
end Go.Sh

set_option linter.all false
set_option maxRecDepth 8000
set_option maxHeartbeats 1000000
namespace Go.Sh
open Ieee
end Go.Sh

set_option linter.all false
set_option maxRecDepth 8000
namespace Go.Sh
open Ieee
end Go.Sh

set_option linter.all false
set_option maxRecDepth 8000
set_option maxHeartbeats 4000000
namespace Go.Sh
open Ieee
end Go.Sh
