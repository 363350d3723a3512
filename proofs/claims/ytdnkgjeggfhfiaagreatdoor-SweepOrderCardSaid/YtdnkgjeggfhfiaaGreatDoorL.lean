/- What the heap's laws share. No further condition. -/
import Derived.Test.YtdnkgjeggfhfiaaGreatDoorH
import Derived.Test.YtdnkgjeggfhfiaaGreatDoorX
import Derived.Test.YtdnkgjeggfhfiaaGreatDoorA
import Derived.Test.YtdnkgjeggfhfiaaGreatDoorC
import Derived.Test.YtdnkgjeggfhfiaaGreatDoorR
import Derived.Test.YtdnkgjeggfhfiaaGreatDoorM
set_option linter.all false
set_option maxRecDepth 8000
set_option maxHeartbeats 2000000
namespace Go.Sh
theorem Found.induct {P : HS -> Prop} {S S2 : HS} {p n page : Int} (hS : P S) (h1 : ∀ S i q, i < 64 -> P S -> P (S.fill i q)) (h2 : ∀ S i k n, P S -> P (S.calloc i k n)) (h3 : ∀ S page n, P S -> P (S.talloc page n))
  (h4 : ∀ S V at_ N, P S -> P (S.grown V at_ N)) (h5 : ∀ S V, P S -> P { S with V := V }) (h : Found S p n page S2) : P S2 := by
 have hf : ∀ {i S1}, i < 64 -> Filled S i S1 -> P S1 := fun {i S1} hi h => by
  rcases h with ⟨_, q, _, rfl⟩ | ⟨_, rfl⟩
  ·exact h1 _ _ _ hi hS
  ·exact hS
 have ht : ∀ {S1}, Tried S p n S1 -> P S1 := fun {S1} h => by
  rcases h with ⟨_, rfl⟩ | ⟨i, hi, _, _, h, _⟩
  ·exact hS
  ·exact hf hi h
 obtain ⟨S1, hk, hm⟩ := h
 have hP1 : P S1 := by
  rcases hk with (⟨S0, i, k, hi, _, _, hfl, _, _, _, _, rfl⟩ | ⟨S0, htr, _, rfl⟩) | ⟨S0, S0', htr, _, ⟨_, at_, _, rfl⟩, _, rfl⟩
  ·exact h2 _ _ _ _ (hf hi hfl)
  ·exact h3 _ _ _ (ht htr)
  ·exact h3 _ _ _ (h4 _ _ _ _ (ht htr))
 rcases hm with ⟨_, rfl⟩ | ⟨_, _, rfl⟩
 ·exact hP1
 ·exact h5 _ _ hP1
structure Same (S S2 : HS) : Prop where
 sp : S2.sp = S.sp
 own : S2.own = S.own
 fx : S2.fx = S.fx
 pages : S2.pages = S.pages
theorem Found.same {S S2 : HS} {p n page : Int} (h : Found S p n page S2) : Same S S2 :=
 h.induct (P := Same S) ⟨rfl, rfl, rfl, rfl⟩ (fun _ _ _ _ h => ⟨h.sp, h.own, h.fx, h.pages⟩) (fun _ _ _ _ h => ⟨h.sp, h.own, h.fx, h.pages⟩) (fun _ _ _ h => ⟨h.sp, h.own, h.fx, h.pages⟩) (fun _ _ _ _ h => ⟨h.sp, h.own, h.fx, h.pages⟩) fun _ _ h => ⟨h.sp, h.own, h.fx, h.pages⟩
structure Gn (S : HS) : Prop where
 rl : ∀ p, S.T.rl p = S.T.fr p
 re : ∀ i k, (S.ca i).rel k = (S.ca i).has k
theorem Gn.fill {S : HS} (h : Gn S) (i : Nat) (q : Int) : Gn (S.fill i q) := by
 refine ⟨fun p => ?_, fun j k => ?_⟩
 ·show (S.T.rl p && _) = (S.T.fr p && _)
  rw [h.rl]
 ·show (if j = i then filled S.T q else S.ca j).rel k = (if j = i then filled S.T q else S.ca j).has k
  by_cases e : j = i
  ·rw [if_pos e]
   show (decide _ && S.T.rl _) = (decide _ && S.T.fr _)
   rw [h.rl]
  ·rw [if_neg e]; exact h.re j k
theorem Gn.calloc {S : HS} (h : Gn S) (i k n : Nat) : Gn (S.calloc i k n) := by
 refine ⟨h.rl, fun j m => ?_⟩
 show (if j = i then (S.ca i).alloc k n else S.ca j).rel m = (if j = i then (S.ca i).alloc k n else S.ca j).has m
 by_cases e : j = i
 ·rw [if_pos e]
  show ((S.ca i).rel m && _) = ((S.ca i).has m && _)
  rw [h.re]
 ·rw [if_neg e]; exact h.re j m
theorem Gn.talloc {S : HS} (h : Gn S) (page n : Int) : Gn (S.talloc page n) := ⟨fun p => by show (S.T.rl p && _) = (S.T.fr p && _); rw [h.rl], h.re⟩
theorem Gn.grown {S : HS} (h : Gn S) (V : VS) (at_ N : Int) : Gn (S.grown V at_ N) := ⟨fun p => by show (S.T.rl p || _) = (S.T.fr p || _); rw [h.rl], h.re⟩
theorem Found.gn {S S2 : HS} {p n page : Int} (h : Found S p n page S2) (hS : Gn S) : Gn S2 :=
 h.induct (P := Gn) hS (fun _ i q _ h => h.fill i q) (fun _ i k n h => h.calloc i k n) (fun _ p n h => h.talloc p n) (fun _ V a N h => h.grown V a N) fun _ _ h => ⟨h.rl, h.re⟩
theorem Gn.keep {S : HS} (h : Gn S) (id : Int) (x : Nat × SI) (page n : Int) (X : FX) : Gn (S.keep id x page n X) := ⟨h.rl, h.re⟩
theorem Gn.new (V : VS) : Gn (HS.new V) := ⟨fun _ => rfl, fun _ _ => rfl⟩
structure LaidB (S : HS) (b : Int) : Prop where
 la : ∀ p, mem S.V.laid p ↔ 512 <= p /\ p < b
 b0 : 512 <= b
 b1 : b % 512 = 0
 h0 : 0 <= S.hint
 h1 : S.hint <= b
 pl : S.V.pl = []
 rf : S.V.rf = []
theorem LaidB.new (fl : List Int) : LaidB (HS.new (newV [] [] fl)) 512 := ⟨fun p => ⟨fun h => absurd h (mem_nil p), fun h => by omega⟩, Int.le_refl _, rfl, Int.le_refl _, by show (0 : Int) <= 512; decide, rfl, rfl⟩
section
variable {S S2 : HS} {b p n page : Int}
theorem upN_le (n : Int) : n <= upN n /\ upN n < n + 512 /\ upN n % 512 = 0 := by unfold upN; omega
theorem LaidB.placed (h : LaidB S b) {hint N at_ : Int} (hN : 0 < N) (hh : hint <= b) (hp : Placed S.V.laid hint N at_) : at_ = b := by
 have h1 := hp.low
 have h2 := hp.mul
 have b0 := h.b0
 have b1 := h.b1
 by_cases g : b < at_
 ·obtain ⟨m, m1, m2, m3⟩ := hp.first b b1 b0 hh g
  have := (h.la m).1 m3
  omega
 ·by_cases g2 : at_ < b
  ·exact absurd ((h.la at_).2 ⟨h1, g2⟩) (hp.free at_ (Int.le_refl _) (by omega))
  ·omega
theorem LaidB.chosen (h : LaidB S b) {N at_ : Int} (hN : 0 < N) (hc : Chosen S.V S.hint N at_) : at_ = b := by
 have := h.h0
 have := h.h1
 rcases hc with ⟨p, r, e, _⟩ | ⟨_, ⟨_, h1, _⟩ | ⟨_, _, h1, _⟩⟩
 ·rw [h.pl] at e; cases e
 ·exact h.placed hN (by omega) h1
 ·exact h.placed hN (by have := h.b0; omega) h1
theorem LaidB.unplaced (h : LaidB S b) {N : Int} (hN : 0 < N) (hb : b + N <= 34359738368) (hu : Unplaced S.V S.hint N) : False := by
 have := h.h1
 obtain ⟨_, g | ⟨a, g1, g2⟩, _⟩ := hu
 ·omega
 ·have := h.placed hN h.h1 g1
  omega
theorem LaidB.sameV (h : LaidB S b) (e1 : S2.V = S.V) (e2 : S2.hint = S.hint) : LaidB S2 b := ⟨by rw [e1]; exact h.la, h.b0, h.b1, by rw [e2]; exact h.h0, by rw [e2]; exact h.h1, by rw [e1]; exact h.pl, by rw [e1]; exact h.rf⟩
theorem Filled.V {i : Nat} (h : Filled S i S2) : S2.V = S.V /\ S2.hint = S.hint := by
 rcases h with ⟨_, q, _, rfl⟩ | ⟨_, rfl⟩ <;> exact ⟨rfl, rfl⟩
theorem Tried.V (h : Tried S p n S2) : S2.V = S.V /\ S2.hint = S.hint := by
 rcases h with ⟨_, rfl⟩ | ⟨i, _, _, _, h, _⟩
 ·exact ⟨rfl, rfl⟩
 ·exact h.V
theorem LaidB.made (h : LaidB S b) (hm : Made S page n S2) : LaidB S2 b := by
 rcases hm with ⟨_, rfl⟩ | ⟨_, _, rfl⟩
 ·exact h
 ·exact ⟨h.la, h.b0, h.b1, h.h0, h.h1, h.pl, by show S.V.rf.tail = []; rw [h.rf]; rfl⟩
theorem LaidB.grew' (h : LaidB S b) (hk : Ok S.V.laid) (hn : 1 <= n) (hg : Grew S n S2) (hb : b + upN n <= 34359738368) : LaidB S2 (b + upN n) /\ S2 = S.grown { S.V with rf := S.V.rf.tail, pl := S.V.pl.tail, laid := addL S.V.laid b (b + upN n) } b (upN n) := by
 obtain ⟨_, at_, hc, rfl⟩ := hg
 have hu := upN_le n
 have b0 := h.b0
 have b1 := h.b1
 have := h.chosen (by omega) hc
 subst this
 refine ⟨⟨fun q => ?_, by omega, by omega, by show 0 <= at_ + upN n; omega, Int.le_refl _, by show S.V.pl.tail = []; rw [h.pl]; rfl, by show S.V.rf.tail = []; rw [h.rf]; rfl⟩, rfl⟩
 refine (mem_addL hk (by omega) (by omega) (by omega) q).trans ?_
 rw [h.la]; omega
theorem LaidB.lost (hL : LaidB S b) (hn : 1 <= n) (hb : b + upN n <= 34359738368) (h : Lost S p n S2) : False := by
 have hu := upN_le n
 rcases h with ⟨S0, htr, _, ⟨r, hr, _⟩ | ⟨_, hup, _⟩⟩ | ⟨S1, page, r, hk, _, hr, _⟩
 ·rw [(hL.sameV htr.V.1 htr.V.2).rf] at hr; cases hr
 ·exact (hL.sameV htr.V.1 htr.V.2).unplaced (by omega) hb hup
 ·have e : S1.V.rf = [] := by
   rcases hk with (⟨S0, i, k, hi, _, _, hfl, _, _, _, _, rfl⟩ | ⟨S0, htr, _, rfl⟩) | ⟨S0, S0', htr, _, ⟨_, at_, hc, rfl⟩, _, rfl⟩
   ·show S0.V.rf = []
    rw [hfl.V.1]; exact hL.rf
   ·show S0.V.rf = []
    rw [htr.V.1]; exact hL.rf
   ·show S0.V.rf.tail = []
    rw [htr.V.1, hL.rf]; rfl
  rw [e] at hr; cases hr
theorem first1 {V : TV} {p : Int} (h : firstB V 1 p) : V.fr p = true := h.2.2.1 p (Int.le_refl _) (by omega)
def FrR (S : HS) (a b : Int) : Prop := ∀ p, S.T.fr p = true ↔ a <= p /\ p < b
theorem FrR.first {a : Int} (h : FrR S a b) (hn : 1 <= n) (hf : firstB S.T n page) : page = a /\ a + n <= b := by
 obtain ⟨_, _, h1, h2⟩ := hf
 have q1 := (h page).1 (h1 page (Int.le_refl _) (by omega))
 have q2 := (h (page + n - 1)).1 (h1 (page + n - 1) (by omega) (by omega))
 have := h2 a fun m m1 m2 => (h m).2 (by omega)
 omega
theorem FrR.none {a : Int} (h : FrR S a b) (hno : ∀ q, ¬ rowB S.T.fr q n) : b < a + n := by
 refine Classical.byContradiction fun g => hno a fun m m1 m2 => (h m).2 (by omega)
theorem FrR.taken {a : Int} (h : FrR S a b) (hn : 0 <= n) : FrR (S.talloc a n) (a + n) b := fun p => by
 refine take_fr.trans ?_
 rw [h p]; omega
theorem FrR.grown {a : Int} (h : FrR S a b) {V : VS} {N : Int} (h1 : b % 512 = 0) (h2 : N % 512 = 0) (h3 : 0 <= N) (hab : a <= b) : FrR (S.grown V b N) a (b + N) := fun p => by
 show (S.T.fr p || inr (b / 512 * 512) (N / 512 * 512) p) = true ↔ _
 rw [Bool.or_eq_true, h p, inr_iff]
 omega
theorem FrR.new (V : VS) : FrR (HS.new V) 512 512 := fun p => ⟨fun h => (by cases h), fun h => by omega⟩
theorem Found.row (h : Found S p n page S2) {a : Int} (hL : LaidB S b) (hk : HOk S) (hF : FrR S a b) (hab : a <= b) (hn : 1 <= n) (hb : b + upN n <= 34359738368) (hT : ∀ S0, Tried S p n S0 -> S0 = S) (hno : ∀ S0 page, Got S p n page S0 -> S0 = S.talloc page n /\ firstB S.T n page) :
  ∃ b', (b' = b ∨ b' = b + upN n) /\ page = a /\ a + n <= b' /\ LaidB S2 b' /\ FrR S2 (a + n) b' /\ S2.ca = S.ca /\ (b' = b -> ∀ V, { S2 with V := V } = { S.talloc a n with V := V }) /\ (a + n <= b -> b' = b) := by
 obtain ⟨S1, h, hm⟩ := h
 have hu := upN_le n
 have hs : ∀ {S1 S2 : HS}, Made S1 page n S2 -> S2.ca = S1.ca /\ S2.T = S1.T /\ ∀ V, { S2 with V := V } = { S1 with V := V } := fun h => by
  rcases h with ⟨_, rfl⟩ | ⟨_, _, rfl⟩ <;> exact ⟨rfl, rfl, fun _ => rfl⟩
 obtain ⟨s1, s2, s3⟩ := hs hm
 rcases h with h | ⟨S0, S0', htr, hnone, hg, hf, rfl⟩
 ·obtain ⟨rfl, hf⟩ := hno _ _ h
  obtain ⟨rfl, h1⟩ := hF.first hn hf
  refine ⟨b, .inl rfl, rfl, h1, (hL.sameV rfl rfl : LaidB (S.talloc page n) b).made hm, fun q => ?_, s1, fun _ => s3, fun _ => rfl⟩
  rw [s2]; exact hF.taken (by omega) q
 ·obtain rfl := hT _ htr
  obtain ⟨h1, e0⟩ := hL.grew' hk.vv.ok1 hn hg hb
  have hL2 : LaidB S2 (b + upN n) := (h1.sameV rfl rfl : LaidB (S0'.talloc page n) (b + upN n)).made hm
  subst e0
  have hF' : FrR (S0.grown { S0.V with rf := S0.V.rf.tail, pl := S0.V.pl.tail, laid := addL S0.V.laid b (b + upN n) } b (upN n)) a (b + upN n) := hF.grown hL.b1 hu.2.2 (by omega) hab
  obtain ⟨rfl, h2⟩ := hF'.first hn hf
  have hl := hF.none hnone
  refine ⟨b + upN n, .inr rfl, rfl, h2, hL2, fun q => ?_, s1, fun e => by omega, fun e => by omega⟩
  rw [s2]; exact hF'.taken (by omega) q
theorem tried_no (h : ¬ (0 <= p /\ p < 64 /\ n < 16)) {S0 : HS} (ht : Tried S p n S0) : S0 = S := by
 rcases ht with ⟨_, rfl⟩ | ⟨i, hi, rfl, hn, _⟩
 ·rfl
 ·omega
theorem got_no (h : ¬ (0 <= p /\ p < 64 /\ n < 16)) {S0 : HS} {page : Int} (ht : Got S p n page S0) : S0 = S.talloc page n /\ firstB S.T n page := by
 rcases ht with ⟨S0, i, k, hi, rfl, hn, _⟩ | ⟨S0, ht, hf, rfl⟩
 ·omega
 ·rw [tried_no h ht] at hf ⊢; exact ⟨rfl, hf⟩
theorem tried_nofree (hfr : ∀ q, S.T.fr q = false) {S0 : HS} (hn : 1 <= n) (ht : Tried S p n S0) : S0 = S := by
 rcases ht with ⟨_, rfl⟩ | ⟨i, hi, rfl, _, ⟨_, q, hq, _⟩ | ⟨_, rfl⟩, _⟩
 ·rfl
 ·have := first1 hq
  rw [hfr] at this; cases this
 ·rfl
theorem got_nofree (hfr : ∀ q, S.T.fr q = false) (hc : ∀ i, i < 64 -> (S.ca i).empty) {S0 : HS} {page : Int} (hn : 1 <= n) (ht : Got S p n page S0) : S0 = S.talloc page n /\ firstB S.T n page := by
 rcases ht with ⟨S1, i, k, hi, rfl, _, hfl, hr, _⟩ | ⟨S0, ht, hf, rfl⟩
 ·exfalso
  rcases hfl with ⟨_, q, hq, _⟩ | ⟨_, rfl⟩
  ·have := first1 hq
   rw [hfr] at this; cases this
  ·have := hr 0 (by omega)
   rw [hc i hi] at this; cases this
 ·rw [tried_nofree hfr hn ht] at hf ⊢; exact ⟨rfl, hf⟩
end
end Go.Sh

set_option linter.all false
set_option maxRecDepth 4000
set_option maxHeartbeats 4000000
namespace Go.Sh
section
variable {E : Env} {b c : Nat} {V : VS} {Z Rs : List Pr} {w : World}
end
end Go.Sh

set_option linter.all false
set_option maxRecDepth 8000
set_option maxHeartbeats 4000000
namespace Go.Sh
section
variable {E : Env} {w : World} {Rs Z : List Pr}
theorem HInv.newV (pl : List Int) (rf : List Bool) (fl : List Int) : HInv (HS.new (Go.Sh.newV pl rf fl)) no := HInv.new rfl rfl
variable (hE : EnvA E)
include hE
theorem halloc_ok {h : Nat} {S : HS} (hT : ∀ w', Sat Z w' -> TabAt E.g_math_bits_deBruijn64tab w') (H : Sat (HeapP E h S :: Z) w) (hI : HInv S no) {p n c b : Int} {np : Bool} (hL : LaidB S b) (hg : ¬ spBad 0 n c) (n0 : 0 <= n) (hb : b + upN n <= 34359738368) {K : Int -> Int -> World -> Prop}
  (hK : 1 <= n -> ∀ page S2 bl id X, Found S p n page S2 -> HOk S -> HInv S2 (inr page n) -> 0 <= page -> page + n <= 34359738368 -> Next S2 id X -> HInv (S2.keep id (bl, spOf page n c np) page n X) no -> ∀ w', Sat (HeapP E h (S2.keep id (bl, spOf page n c np) page n X) :: Z) w' -> K id 0 w') :
  F.mheap_Heap_Alloc E (some ⟨h, 0, none⟩) p n c np K w := by
 have hok := H.hok
 have hg' := hg
 unfold spBad at hg'
 have hn : 1 <= n /\ n <= 134217728 := by
  by_cases e : c = 0
  ·omega
  ·have hcb := cls_bnd (c := c) (by omega) (by omega)
   omega
 exact halloc_spec hE hT H hI n0 (by omega) (fun hb' => absurd hb' hg) (fun _ S2 hl => (hL.lost hn.1 hb hl).elim) fun _ page S2 bl id X hf hI2 q0 q1 hX hI3 w' H' => hK hn.1 page S2 bl id X hf hok hI2 q0 q1 hX hI3 w' H'
end
section
variable {S S2 : HS} {i k : Nat} {page : Int}
theorem LaidB.keep {b : Int} (h : LaidB S b) (id : Int) (x : Nat × SI) (pg n : Int) (X : FX) : LaidB (S.keep id x pg n X) b := ⟨h.la, h.b0, h.b1, h.h0, h.h1, h.pl, h.rf⟩
theorem Next.top {id : Int} {X : FX} (h : Next S id X) {n : Nat} (e : S.fx = ⟨n, []⟩) : id = (n : Int) + 1 /\ X = ⟨n + 1, []⟩ := by
 rcases h with ⟨_, h2, h3⟩ | ⟨a, r, h1, _⟩
 ·rw [e] at h2 h3; exact ⟨h2, h3⟩
 ·rw [e] at h1; cases h1
end
end Go.Sh

set_option linter.all false
set_option maxRecDepth 8000
set_option maxHeartbeats 4000000
namespace Go.Sh
theorem cls5 : (clsAt 5).2.1 = 1 := by decide +kernel
theorem spOk0 {n : Int} (h : 1 <= n) (h2 : n <= 134217728) : ¬ spBad 0 n 0 := by unfold spBad; omega
theorem own_keep {S : HS} {id : Int} {x : Nat × SI} {pg n : Int} {X : FX} (p : Int) : (S.keep id x pg n X).own p = if pg <= p /\ p < pg + n then id else S.own p := rfl
section
variable {E : Env} {w : World} {Rs Z : List Pr} (hE : EnvA E)
include hE
end
end Go.Sh

set_option linter.all false
set_option maxRecDepth 8000
set_option maxHeartbeats 4000000
namespace Go.Sh
def HS.clr (S : HS) : HS := { S with V := { S.V with rf := [] } }
section
variable {S S2 : HS} {n page : Int}
theorem tried_m1 {S0 : HS} (h : Tried S (-1) n S0) : S0 = S := tried_no (by omega) h
theorem got_m1 {S0 : HS} (h : Got S (-1) n page S0) : S0 = S.talloc page n /\ firstB S.T n page := got_no (by omega) h
theorem tried_clr : Tried S.clr (-1) n S.clr := .inl ⟨by omega, rfl⟩
theorem Found.clr (h : Found S (-1) n page S2) : Found S.clr (-1) n page S2.clr := by
 obtain ⟨S1, h, hm⟩ := h
 have hm' : Made S1.clr page n S2.clr := by
  rcases hm with ⟨h1, rfl⟩ | ⟨h1, _, rfl⟩
  ·exact .inl ⟨h1, rfl⟩
  ·exact .inr ⟨h1, (fun r (e : ([] : List Bool) = true :: r) => nomatch e), rfl⟩
 refine ⟨S1.clr, ?_, hm'⟩
 rcases h with h | ⟨S0, S0', htr, hno, ⟨_, at_, hc, rfl⟩, hf, rfl⟩
 ·obtain ⟨rfl, hf⟩ := got_m1 h
  exact .inl (.inr ⟨S.clr, tried_clr, hf, rfl⟩)
 ·obtain rfl := tried_m1 htr
  exact .inr ⟨S0.clr, _, tried_clr, hno, ⟨(fun r (e : ([] : List Bool) = true :: r) => nomatch e), at_, hc, rfl⟩, hf, rfl⟩
def asks (next b n : Int) : Nat := if next + n <= b then 1 else 2
def nextB (next b n : Int) : Int := if next + n <= b then b else b + upN n
structure RfSt (S : HS) (i : Nat) (next b : Int) (rf : List Bool) : Prop where
 inv : HInv S no
 la : LaidB S.clr b
 rf : S.V.rf = rf
 fr : FrR S next b
 lo : 512 <= next
 le : next <= b
 gn : Gn S
 pg : S.pages = next - 512
 rel : S.V.rel = []
 ow : ∀ p, 512 <= p -> p < next -> 0 < S.own p
 fx : S.fx = ⟨i, []⟩
theorem RfSt.new (rf : List Bool) : RfSt (HS.new (newV [] rf [])) 0 512 512 rf := ⟨HInv.newV [] rf [], LaidB.new [], rfl, FrR.new _, Int.le_refl _, Int.le_refl _, Gn.new _, rfl, rfl, fun p h1 h2 => by omega, rfl⟩
variable {i : Nat} {next b : Int} {rf : List Bool}
theorem RfSt.laid (h : RfSt S i next b []) : LaidB S b := ⟨h.la.la, h.la.b0, h.la.b1, h.la.h0, h.la.h1, h.la.pl, h.rf⟩
theorem RfSt.notReady (h : RfSt S i next b rf) (hk : HOk S) {q : Int} (hq : next <= q) : ¬ mem S.V.ready q := fun hr => by
 obtain ⟨r1, r2⟩ := (h.inv.rd q rfl).1 hr
 have r3 := (h.la.la q).1 ((h.inv.la q).2 r1)
 have r4 := (h.fr q).2 ⟨hq, r3.2⟩
 refine tf_not r2 (gone_iff.2 (.inl ?_))
 rw [h.gn.rl]; exact r4
theorem takenV (h : Taken S (-1) n page S2) : S2.V.wd = S.V.wd /\ S2.V.fl = S.V.fl /\ S2.V.ready = S.V.ready /\ S2.V.rel = S.V.rel := by
 rcases h with h | ⟨S0, S0', htr, _, ⟨_, at_, _, rfl⟩, _, rfl⟩
 ·obtain ⟨rfl, _⟩ := got_m1 h
  exact ⟨rfl, rfl, rfl, rfl⟩
 ·obtain rfl := tried_m1 htr
  exact ⟨rfl, rfl, rfl, rfl⟩
theorem RfSt.found (h : RfSt S i next b rf) (hk : HOk S) (hkc : HOk S.clr) (hn : 1 <= n) (hb : b + upN n <= 34359738368) (hf : Found S (-1) n page S2) :
  page = next /\ LaidB S2.clr (nextB next b n) /\ FrR S2 (next + n) (nextB next b n) /\ next + n <= nextB next b n /\ S2.V.wd = S.V.wd /\ S2.V.rel = [] /\ S2.V.rf = rf.drop (asks next b n) /\ (∀ r, rf ≠ true :: r) /\ (asks next b n = 2 -> ∀ r, rf.tail ≠ true :: r) := by
 have hu := upN_le n
 obtain ⟨b', k1, k2, k3, k4, k5, _, _, k8⟩ := hf.clr.row (a := next) h.la hkc h.fr h.le hn hb (fun S0 ht => tried_no (by omega) ht) fun S0 pg ht => got_no (by omega) ht
 subst k2
 have hbb : b' = nextB page b n := by
  unfold nextB
  by_cases g : page + n <= b
  ·rw [if_pos g]; exact k8 g
  ·rw [if_neg g]; omega
 subst hbb
 refine ⟨rfl, k4, k5, k3, ?_⟩
 obtain ⟨S1, ht, hm⟩ := hf
 obtain ⟨e1, e2, e3, e4⟩ := takenV ht
 have hnr : ¬ allReady S1 page n := fun hr => h.notReady hk (Int.le_refl page) (by rw [<- e3]; exact hr page (Int.le_refl _) (by omega))
 rcases hm with ⟨h1, _⟩ | ⟨_, hrf, rfl⟩
 ·exact absurd h1 hnr
 refine ⟨funext fun q => funext fun j => ?_, ?_, ?_⟩
 ·show (if page <= q /\ q < page + n /\ inL S1.V.rel q = true then fillAt S1.V page q else S1.V.wd q j) = _
  rw [e4, h.rel, if_neg (fun h => by cases h.2.2), e1]
 ·show cutL S1.V.rel page (page + n) = []
  rw [e4, h.rel]; rfl
 show S1.V.rf.tail = _ /\ _
 rcases ht with ht | ⟨S0, S0', htr, hno, ⟨hr0, at_, hc, rfl⟩, hff, rfl⟩
 ·obtain ⟨rfl, hff⟩ := got_m1 ht
  obtain ⟨_, hle⟩ := h.fr.first hn hff
  have ea : asks page b n = 1 := if_pos hle
  rw [ea]
  have hrf : ∀ r, S.V.rf ≠ true :: r := hrf
  have et : (S.talloc page n).V.rf = rf := h.rf
  rw [et]
  rw [h.rf] at hrf
  exact ⟨by simp, hrf, fun e => by cases e⟩
 ·obtain rfl := tried_m1 htr
  have hlt := h.fr.none hno
  have ea : asks page b n = 2 := if_neg (by omega)
  rw [ea]
  have hrf : ∀ r, S0.V.rf.tail ≠ true :: r := hrf
  have et : ((S0.grown { S0.V with rf := S0.V.rf.tail, pl := S0.V.pl.tail, laid := addL S0.V.laid at_ (at_ + upN n) } at_ (upN n)).talloc page n).V.rf = rf.tail := by
   show S0.V.rf.tail = _
   rw [h.rf]
  rw [et]
  rw [h.rf] at hrf hr0
  refine ⟨?_, hr0, fun _ => hrf⟩
  cases rf with
  | nil => rfl
  | cons x r => cases r <;> rfl
theorem RfSt.keep (h : RfSt S i next b rf) (hk : HOk S) (hkc : HOk S.clr) (hn : 1 <= n) (hb : b + upN n <= 34359738368) (hf : Found S (-1) n page S2) {id : Int} {X : FX} (hX : Next S2 id X) {x : Nat × SI} (hI : HInv (S2.keep id x page n X) no) :
  page = next /\ id = (i : Int) + 1 /\ X = ⟨i + 1, []⟩ /\ (S2.keep id x page n X).V.wd = S.V.wd /\ RfSt (S2.keep id x page n X) (i + 1) (next + n) (nextB next b n) (rf.drop (asks next b n)) /\ (∀ r, rf ≠ true :: r) := by
 obtain ⟨rfl, k1, k2, k3, k4, k5, k6, k7, _⟩ := h.found hk hkc hn hb hf
 have es := hf.same
 obtain ⟨rfl, rfl⟩ := hX.top (n := i) (by rw [es.fx]; exact h.fx)
 have hlo := h.lo
 refine ⟨rfl, rfl, rfl, k4, ⟨hI, k1.keep _ _ _ _ _, k6, k2, by omega, k3, (hf.gn h.gn).keep _ _ _ _ _, ?_, k5, fun p h1 h2 => ?_, rfl⟩, k7⟩
 ·show S2.pages + n = _
  rw [es.pages, h.pg]; omega
 ·show 0 < (if page <= p /\ p < page + n then ((i : Int) + 1) else S2.own p)
  split
  ·omega
  ·rw [es.own]; exact h.ow p h1 (by omega)
theorem HOk.clr (hk : HOk S) : HOk S.clr := ⟨hk.tv, ⟨hk.vv.ok1, hk.vv.ok2, hk.vv.ok3, hk.vv.rl, hk.vv.el, hk.vv.re, hk.vv.lim, hk.vv.clean, hk.vv.sums⟩, hk.ci, hk.ok, hk.fx⟩
end
theorem rf_bnd : ∀ (N : Nat) (l : List Int), l.Nodup -> (∀ n ∈ l, 0 < n /\ n <= N) -> l.length <= N
 | 0, [], _, _ => Nat.le_refl _
 | 0, n :: _, _, h => by have := h n List.mem_cons_self; omega
 | N + 1, l, hn, h => by
  by_cases hm : ((N + 1 : Nat) : Int) ∈ l
  ·have ih := rf_bnd N (l.erase ((N + 1 : Nat) : Int)) (hn.erase _) fun n hn' => by
    have h1 := (hn.mem_erase_iff).1 hn'
    have h2 := h n h1.2
    have h3 := h1.1
    omega
   rw [List.length_erase_of_mem hm] at ih
   omega
  ·have ih := rf_bnd N l hn fun n hn' => by
    have h2 := h n hn'
    have h3 : n ≠ ((N + 1 : Nat) : Int) := fun e => hm (e ▸ hn')
    omega
   omega
end Go.Sh

set_option linter.all false
set_option maxRecDepth 4000
set_option maxHeartbeats 2000000
namespace Go.Sh
theorem W_not (u : Nat -> Bool) : bitK .u64 2 18446744073709551615 (W u) = W fun i => !u i := by
 rw [<- W_ones]
 show IntKind.wrap .u64 ((BitVec.ofInt 64 (W fun _ => true) ^^^ BitVec.ofInt 64 (W u)).toNat : Int) = _
 rw [BitVec.toNat_xor, bvW, bvW]
 have e : wN (fun _ => true) 64 ^^^ wN u 64 = wN (fun i => !u i) 64 := by
  refine Nat.eq_of_testBit_eq fun i => ?_
  rw [Nat.testBit_xor, wN_bit, wN_bit, wN_bit]
  cases decide (i < 64) <;> cases u i <;> rfl
 rw [e, wrapW (wN_lt _ 64)]; rfl
theorem W_bit {n : Nat} (h : n < 64) : u64 (1 * 2 ^ (min (Int.toNat (n : Int)) (IntKind.bits .u64))) = W fun i => i == n := by
 have e := W_shl (fun i => i == 0) (n := (n : Int)) (by omega) (by omega)
 rw [W_one] at e
 rw [e]
 refine W_congr fun i hi => ?_
 rw [Int.toNat_natCast, Bool.eq_iff_iff, Bool.and_eq_true, decide_eq_true_eq, beq_iff_eq, beq_iff_eq]
 omega
theorem W_low_mask {n : Nat} (h : n < 64) : u64 ((u64 (1 * 2 ^ (min (Int.toNat (n : Int)) (IntKind.bits .u64)))) - 1) = W fun i => decide (i < n) := by
 have e : wN (fun i => i == n) 64 = 2 ^ n := by
  refine Nat.eq_of_testBit_eq fun i => ?_
  rw [wN_bit, Nat.testBit_two_pow]
  rw [Bool.eq_iff_iff, Bool.and_eq_true, decide_eq_true_eq, beq_iff_eq, decide_eq_true_eq]
  omega
 have e2 : wN (fun i => decide (i < n)) 64 = 2 ^ n - 1 := by
  refine Nat.eq_of_testBit_eq fun i => ?_
  rw [wN_bit, Nat.testBit_two_pow_sub_one]
  rw [Bool.eq_iff_iff, Bool.and_eq_true, decide_eq_true_eq, decide_eq_true_eq]
  omega
 rw [W_bit h]
 unfold W
 rw [e, e2]
 have h1 : 0 < 2 ^ n := Nat.pow_pos (by decide)
 have h2 : 2 ^ n <= 2 ^ 63 := Nat.pow_le_pow_right (by decide) (by omega)
 rw [u64_id (by omega) (by omega)]
 omega
theorem cN_set {u : Nat -> Bool} {i : Nat} (hu : u i = false) : ∀ n, cN (fun j => u j || j == i) n = cN u n + (if i < n then 1 else 0)
 | 0 => rfl
 | n + 1 => by
  simp only [cN, cN_set hu n]
  by_cases e : n = i
  ·subst e
   rw [hu, if_neg (by omega), if_pos (by omega)]; simp
  ·rw [show (n == i) = false by simpa using e, Bool.or_false]
   by_cases g : i < n
   ·rw [if_pos g, if_pos (by omega)]; omega
   ·rw [if_neg g, if_neg (by omega)]; omega
section
variable {E : Env} {w : World} {Z : List Pr} {s : SlV} {uw : List Int} {U : Nat -> Bool}
def SI.set (S : SI) (U : Nat -> Bool) (n : Nat) : SI := { S with uw := [W fun i => U i || i == n], used := S.used + 1, look := (n : Int) + 1 }
def SI.clr (S : SI) (U : Nat -> Bool) (n : Nat) : SI := { S with uw := [W fun i => U i && !(i == n)], used := S.used - 1, look := minI S.look n }
section
variable {b : Nat} {S : SI}
theorem spthere_spec (H : Sat (SpanP E b S :: Z) w) {i : Int} {K : Bool -> World -> Prop} (hK : K (decide (0 <= i /\ i < S.slots)) w) : F.span_Span_there E (some ⟨b, 0, none⟩) i K w := by
 obtain ⟨su, sm, H⟩ := Sat.span.1 H
 unfold F.span_Span_there
 simp only [NC_some]
 refine CND_dec (fun g => ⟨_, H.cell rfl, ?_⟩) fun g => ?_
 ·rw [show decide (i < S.slots) = decide (0 <= i /\ i < S.slots) from decide_eq_decide.2 (by omega)]; exact hK
 ·rw [decide_eq_false (by omega)] at hK; exact hK
theorem spslot_spec (H : Sat (SpanP E b S :: Z) w) {i : Int} (h0 : 0 <= i) (h1 : i < S.slots) {K : Int -> Int -> World -> Prop} (hK : ∀ w', Sat (SpanP E b S :: Z) w' -> K (u64 (S.base + u64 (u64 i * u64 S.elem))) 0 w') : F.span_Span_Slot E (some ⟨b, 0, none⟩) i K w := by
 unfold F.span_Span_Slot T0.span_Span_Slot
 refine spthere_spec H ?_
 rw [decide_eq_true ⟨h0, h1⟩]
 refine CND_f rfl ?_
 obtain ⟨su, sm, H⟩ := Sat.span.1 H
 simp only [NC_some]
 exact ⟨_, H.drew.cell0 rfl, _, H.drew.cell rfl, LET_intro fun t ht => by rw [ht]; exact hK _ (Sat.span.2 ⟨su, sm, H.drew⟩)⟩
end
end
end Go.Sh

set_option linter.all false
set_option maxRecDepth 8000
set_option maxHeartbeats 2000000
namespace Go.Sh
def HS.put (S : HS) (id : Int) (x : Nat × SI) : HS := { S with sp := fun i => if i = id then some x else S.sp i }
section
variable {S : HS} {fl : Int -> Bool} {id : Int} {x : Nat × SI} {I : SI}
theorem HInv.put (h : HInv S fl) (hx : S.sp id = some x) (h1 : I.base = x.2.base) (h2 : I.pages = x.2.pages) (h3 : I.state ≠ 0) : HInv (S.put id (x.1, I)) fl := by
 refine ⟨h.cr, h.cd, h.fn, fun p hp => ?_, h.o0, h.li, h.cv, h.ks, h.la, h.rd, fun i y hy => ?_, fun i => ?_, h.fb, h.pg, h.h0, h.h1⟩
 ·obtain ⟨a, b, c, y, hy, h4, h5⟩ := h.ow p hp
  refine ⟨a, b, c, ?_⟩
  by_cases e : S.own p = id
  ·refine ⟨(x.1, I), if_pos e, ?_⟩
   rw [e, hx] at hy
   cases hy
   rw [h1, h2]; exact ⟨h4, h5⟩
  ·exact ⟨y, (if_neg e).trans hy, h4, h5⟩
 ·have hy : (if i = id then some (x.1, I) else S.sp i) = some y := hy
  by_cases e : i = id
  ·rw [if_pos e] at hy
   cases hy
   obtain ⟨a, b, c, _, d⟩ := h.sp id x hx
   subst e
   refine ⟨a, by rw [h1]; exact b, by rw [h2]; exact c, h3, ?_⟩
   rw [h1, h2]; exact d
  ·rw [if_neg e] at hy
   exact h.sp i y hy
 ·show (if i = id then some (x.1, I) else S.sp i) ≠ none ↔ _
  refine Iff.trans ?_ (h.sf i)
  by_cases e : i = id
  ·rw [if_pos e, e, hx]; simp
  ·rw [if_neg e]
theorem HS.put_sp : (S.put id x).sp id = some x := if_pos rfl
theorem HS.put_ne {i : Int} (h : i ≠ id) : (S.put id x).sp i = S.sp i := if_neg h
end
section
variable {E : Env} {h : Nat} {S : HS} {Z : List Pr} {w : World}
theorem nodup_erase {α : Type} : ∀ {l : List α} {i : Nat} {x : α}, l.Nodup -> l[i]? = some x -> x ∉ l.eraseIdx i
 | [], i, x, _, h => by simp at h
 | y :: l, 0, x, hn, h => by
  simp at h; subst h
  simpa using (List.nodup_cons.1 hn).1
 | y :: l, i + 1, x, hn, h => by
  have hn := List.nodup_cons.1 hn
  have h : l[i]? = some x := by simpa using h
  have ih := nodup_erase hn.2 h
  rw [List.eraseIdx_cons_succ, List.mem_cons]
  rintro (e | e)
  ·subst e; exact hn.1 (List.mem_of_getElem? h)
  ·exact ih e
theorem Sat.heapPut (H : Sat (HeapP E h S :: Z) w) {id : Int} {x : Nat × SI} (hx : S.sp id = some x) : ∃ R : List Pr, Sat (SpanP E x.1 x.2 :: R) w /\ ∀ {I : SI} {w'}, Sat (SpanP E x.1 I :: R) w' -> Sat (HeapP E h (S.put id (x.1, I)) :: Z) w' := by
 obtain ⟨g, hI, H⟩ := Sat.heap.1 H
 have hm : id ∈ g.ids := (hI.mem id).2 (by rw [hx]; exact fun h => by cases h)
 obtain ⟨i, hi⟩ := List.mem_iff_getElem?.1 hm
 have H1 := (H.front 6 rfl).manyGet hi
 have e : spR E S.sp id = SpanP E x.1 x.2 := by unfold spR; rw [hx]
 rw [e] at H1
 refine ⟨_, H1, fun {I w'} h' => Sat.heap.2 ⟨g, ⟨hI.nd, fun j => ?_⟩, ?_⟩⟩
 ·rw [hI.mem]
  show _ ↔ (if j = id then some (x.1, I) else S.sp j) ≠ none
  by_cases e : j = id
  ·rw [if_pos e, e, hx]; simp
  ·rw [if_neg e]
 ·have e1 : spR E (S.put id (x.1, I)).sp id = SpanP E x.1 I := by unfold spR; rw [HS.put_sp]
  have e2 : Many (spR E S.sp) (g.ids.eraseIdx i) = Many (spR E (S.put id (x.1, I)).sp) (g.ids.eraseIdx i) := Many.congr fun j hj => by
   have : j ≠ id := fun e => nodup_erase hI.nd hi (e ▸ hj)
   unfold spR; rw [HS.put_ne this]
  rw [<- e1, e2] at h'
  have h2 := Sat.manyBack h' hi
  have h3 := Sat.back (Ps := hres E h S g ++ Z) 6 h2 (by simp [hres])
  have e3 : spMap S.sp = spMap (S.put id (x.1, I)).sp := by
   funext j
   unfold spMap
   by_cases e : j = id
   ·rw [e, HS.put_sp, hx]; rfl
   ·rw [HS.put_ne e]
  have e4 : (hres E h S g ++ Z).set 6 (Many (spR E (S.put id (x.1, I)).sp) g.ids) = hres E h (S.put id (x.1, I)) g ++ Z := by
   show [Cells h E.t_mheap_Heap (hcells g S.hint S.pages), VmemP E g.m S.V, TreeV E g.t S.T, ArenaP E g.a S.ks S.own, FixP E g.f S.fx, MapF g.sm .i64 (spMap S.sp), _, _] ++ Z = _
   rw [e3]; rfl
  rw [e4] at h3
  exact h3
variable (hE : EnvA E)
include hE
end
end Go.Sh

set_option linter.all false
set_option maxRecDepth 8000
set_option maxHeartbeats 2000000
namespace Go.Sh
section
variable {E : Env} {h : Nat} {S : HS} {Z : List Pr} {w : World} {g : HG}
variable (hE : EnvA E)
include hE
end
end Go.Sh

set_option linter.all false
set_option maxRecDepth 8000
set_option maxHeartbeats 1000000
namespace Go.Sh
open Ieee
def rd (x : Nat) : Datum := double.read x
end Go.Sh

set_option linter.all false
set_option maxRecDepth 8000
set_option maxHeartbeats 1000000
namespace Go.Sh
open Ieee
end Go.Sh

set_option linter.all false
set_option maxRecDepth 8000
set_option maxHeartbeats 1000000
namespace Go.Sh
open Ieee
end Go.Sh
