/- What the heap's laws share. No further condition. -/
import Derived.Test.YtnkphenomejbfaaDoorH
import Derived.Test.YtnkphenomejbfaaDoorV
import Derived.Test.YtnkphenomejbfaaDoorA
import Derived.Test.YtnkphenomejbfaaDoorM
set_option linter.all false
set_option maxRecDepth 8000
set_option maxHeartbeats 2000000
namespace Go.Sh

theorem Found.induct {P : HS → Prop} {S S2 : HS} {p n page : Int} (hS : P S) (h1 : ∀ S i q, i < 64 → P S → P (S.fill i q)) (h2 : ∀ S i k n, P S → P (S.calloc i k n)) (h3 : ∀ S page n, P S → P (S.talloc page n))
    (h4 : ∀ S V at_ N, P S → P (S.grown V at_ N)) (h5 : ∀ S V, P S → P { S with V := V }) (h : Found S p n page S2) : P S2 := by
  have hf : ∀ {i S1}, i < 64 → Filled S i S1 → P S1 := fun {i S1} hi h => by
    rcases h with ⟨_, q, _, rfl⟩ | ⟨_, rfl⟩
    · exact h1 _ _ _ hi hS
    · exact hS
  have ht : ∀ {S1}, Tried S p n S1 → P S1 := fun {S1} h => by
    rcases h with ⟨_, rfl⟩ | ⟨i, hi, _, _, h, _⟩
    · exact hS
    · exact hf hi h
  obtain ⟨S1, hk, hm⟩ := h
  have hP1 : P S1 := by
    rcases hk with (⟨S0, i, k, hi, _, _, hfl, _, _, _, _, rfl⟩ | ⟨S0, htr, _, rfl⟩) | ⟨S0, S0', htr, _, ⟨_, at_, _, rfl⟩, _, rfl⟩
    · exact h2 _ _ _ _ (hf hi hfl)
    · exact h3 _ _ _ (ht htr)
    · exact h3 _ _ _ (h4 _ _ _ _ (ht htr))
  rcases hm with ⟨_, rfl⟩ | ⟨_, _, rfl⟩
  · exact hP1
  · exact h5 _ _ hP1

structure Same (S S2 : HS) : Prop where
  sp : S2.sp = S.sp
  own : S2.own = S.own
  fx : S2.fx = S.fx
  pages : S2.pages = S.pages

theorem Found.same {S S2 : HS} {p n page : Int} (h : Found S p n page S2) : Same S S2 :=
  h.induct (P := Same S) ⟨rfl, rfl, rfl, rfl⟩ (fun _ _ _ _ h => ⟨h.sp, h.own, h.fx, h.pages⟩) (fun _ _ _ _ h => ⟨h.sp, h.own, h.fx, h.pages⟩) (fun _ _ _ h => ⟨h.sp, h.own, h.fx, h.pages⟩) (fun _ _ _ _ h => ⟨h.sp, h.own, h.fx, h.pages⟩) fun _ _ h => ⟨h.sp, h.own, h.fx, h.pages⟩

structure Gn (S : HS) : Prop where
  rl : ∀ p, S.T.rl p = S.T.fr p
  re : ∀ i k, (S.ca i).rel k = (S.ca i).has k

theorem Gn.fill {S : HS} (h : Gn S) (i : Nat) (q : Int) : Gn (S.fill i q) := by
  refine ⟨fun p => ?_, fun j k => ?_⟩
  · show (S.T.rl p && _) = (S.T.fr p && _)
    rw [h.rl]
  · show (if j = i then filled S.T q else S.ca j).rel k = (if j = i then filled S.T q else S.ca j).has k
    by_cases e : j = i
    · rw [if_pos e]
      show (decide _ && S.T.rl _) = (decide _ && S.T.fr _)
      rw [h.rl]
    · rw [if_neg e]; exact h.re j k
theorem Gn.calloc {S : HS} (h : Gn S) (i k n : Nat) : Gn (S.calloc i k n) := by
  refine ⟨h.rl, fun j m => ?_⟩
  show (if j = i then (S.ca i).alloc k n else S.ca j).rel m = (if j = i then (S.ca i).alloc k n else S.ca j).has m
  by_cases e : j = i
  · rw [if_pos e]
    show ((S.ca i).rel m && _) = ((S.ca i).has m && _)
    rw [h.re]
  · rw [if_neg e]; exact h.re j m
theorem Gn.talloc {S : HS} (h : Gn S) (page n : Int) : Gn (S.talloc page n) := ⟨fun p => by show (S.T.rl p && _) = (S.T.fr p && _); rw [h.rl], h.re⟩
theorem Gn.grown {S : HS} (h : Gn S) (V : VS) (at_ N : Int) : Gn (S.grown V at_ N) := ⟨fun p => by show (S.T.rl p || _) = (S.T.fr p || _); rw [h.rl], h.re⟩
theorem Found.gn {S S2 : HS} {p n page : Int} (h : Found S p n page S2) (hS : Gn S) : Gn S2 :=
  h.induct (P := Gn) hS (fun _ i q _ h => h.fill i q) (fun _ i k n h => h.calloc i k n) (fun _ p n h => h.talloc p n) (fun _ V a N h => h.grown V a N) fun _ _ h => ⟨h.rl, h.re⟩
theorem Gn.keep {S : HS} (h : Gn S) (id : Int) (x : Nat × SI) (page n : Int) (X : FX) : Gn (S.keep id x page n X) := ⟨h.rl, h.re⟩
theorem Gn.new (V : VS) : Gn (HS.new V) := ⟨fun _ => rfl, fun _ _ => rfl⟩

theorem Gn.gone {S : HS} {fl : Int → Bool} (h : Gn S) (hI : HInv S fl) (hk : HOk S) {p : Int} (hf : fl p = false) : S.gone p = true ↔ S.T.inn p = true ∧ S.own p = 0 := by
  rw [gone_iff]
  constructor
  · rintro (g | ⟨i, hi, g⟩)
    · rw [h.rl] at g
      exact ⟨hk.tv.fi p g, (hI.fn p g).1⟩
    · have := hI.cr i hi p (ownR_own (hk.ci i hi) g)
      exact ⟨this.1, this.2.2.1⟩
  · rintro ⟨g1, g2⟩
    rcases hI.cv p g1 with g | g | g | g
    · exact .inl (by rw [h.rl]; exact g)
    · obtain ⟨i, hi, g⟩ := cached_iff.1 g
      refine .inr ⟨i, hi, ?_⟩
      unfold CS.ownR
      unfold CS.own at g
      rw [h.re]; exact g
    · omega
    · rw [hf] at g; cases g

theorem Gn.count {S : HS} (h : Gn S) (hI : HInv S no) (hk : HOk S) : cP S.gone = cP S.T.inn - S.pages := by
  have : cP S.T.inn = cP S.gone + cP fun p => decide (0 < S.own p) := by
    refine cP_or (fun p => ?_) fun p a b => ?_
    · rw [Bool.eq_iff_iff, Bool.or_eq_true, decide_eq_true_eq, h.gone hI hk rfl]
      constructor
      · intro g
        have := hI.o0 p
        by_cases e : S.own p = 0
        · exact .inl ⟨g, e⟩
        · exact .inr (by omega)
      · rintro (g | g)
        · exact g.1
        · exact (hI.ow p g).1
    · have := ((h.gone hI hk rfl).1 a).2
      have := of_decide_eq_true b
      omega
  rw [this, hI.pg]; omega

structure LaidB (S : HS) (b : Int) : Prop where
  la : ∀ p, mem S.V.laid p ↔ 512 ≤ p ∧ p < b
  b0 : 512 ≤ b
  b1 : b % 512 = 0
  h0 : 0 ≤ S.hint
  h1 : S.hint ≤ b
  pl : S.V.pl = []
  rf : S.V.rf = []

theorem LaidB.new (fl : List Int) : LaidB (HS.new (newV [] [] fl)) 512 := ⟨fun p => ⟨fun h => absurd h (mem_nil p), fun h => by omega⟩, Int.le_refl _, rfl, Int.le_refl _, by show (0 : Int) ≤ 512; decide, rfl, rfl⟩

section
variable {S S2 : HS} {b p n page : Int}

theorem upN_le (n : Int) : n ≤ upN n ∧ upN n < n + 512 ∧ upN n % 512 = 0 := by unfold upN; omega

theorem LaidB.placed (h : LaidB S b) {hint N at_ : Int} (hN : 0 < N) (hh : hint ≤ b) (hp : Placed S.V.laid hint N at_) : at_ = b := by
  have h1 := hp.low
  have h2 := hp.mul
  have b0 := h.b0
  have b1 := h.b1
  by_cases g : b < at_
  · obtain ⟨m, m1, m2, m3⟩ := hp.first b b1 b0 hh g
    have := (h.la m).1 m3
    omega
  · by_cases g2 : at_ < b
    · exact absurd ((h.la at_).2 ⟨h1, g2⟩) (hp.free at_ (Int.le_refl _) (by omega))
    · omega

theorem LaidB.chosen (h : LaidB S b) {N at_ : Int} (hN : 0 < N) (hc : Chosen S.V S.hint N at_) : at_ = b := by
  have := h.h0
  have := h.h1
  rcases hc with ⟨p, r, e, _⟩ | ⟨_, ⟨_, h1, _⟩ | ⟨_, _, h1, _⟩⟩
  · rw [h.pl] at e; cases e
  · exact h.placed hN (by omega) h1
  · exact h.placed hN (by have := h.b0; omega) h1

theorem LaidB.unplaced (h : LaidB S b) {N : Int} (hN : 0 < N) (hb : b + N ≤ 34359738368) (hu : Unplaced S.V S.hint N) : False := by
  have := h.h1
  obtain ⟨_, g | ⟨a, g1, g2⟩, _⟩ := hu
  · omega
  · have := h.placed hN h.h1 g1
    omega

theorem LaidB.sameV (h : LaidB S b) (e1 : S2.V = S.V) (e2 : S2.hint = S.hint) : LaidB S2 b := ⟨by rw [e1]; exact h.la, h.b0, h.b1, by rw [e2]; exact h.h0, by rw [e2]; exact h.h1, by rw [e1]; exact h.pl, by rw [e1]; exact h.rf⟩

theorem Filled.V {i : Nat} (h : Filled S i S2) : S2.V = S.V ∧ S2.hint = S.hint := by
  rcases h with ⟨_, q, _, rfl⟩ | ⟨_, rfl⟩ <;> exact ⟨rfl, rfl⟩
theorem Tried.V (h : Tried S p n S2) : S2.V = S.V ∧ S2.hint = S.hint := by
  rcases h with ⟨_, rfl⟩ | ⟨i, _, _, _, h, _⟩
  · exact ⟨rfl, rfl⟩
  · exact h.V

theorem LaidB.grew (h : LaidB S b) (hk : HOk S) (hn : 1 ≤ n) (hg : Grew S n S2) (hb : b + upN n ≤ 34359738368) : LaidB S2 (b + upN n) ∧ S2 = S.grown { S.V with rf := S.V.rf.tail, pl := S.V.pl.tail, laid := addL S.V.laid b (b + upN n) } b (upN n) := by
  obtain ⟨_, at_, hc, rfl⟩ := hg
  have hu := upN_le n
  have b0 := h.b0
  have b1 := h.b1
  have := h.chosen (by omega) hc
  subst this
  refine ⟨⟨fun q => ?_, by omega, by omega, by show 0 ≤ at_ + upN n; omega, Int.le_refl _, by show S.V.pl.tail = []; rw [h.pl]; rfl, by show S.V.rf.tail = []; rw [h.rf]; rfl⟩, rfl⟩
  refine (mem_addL hk.vv.ok1 (by omega) (by omega) (by omega) q).trans ?_
  rw [h.la]; omega

theorem Taken.laid (h : Taken S p n page S2) (hL : LaidB S b) (hk : ∀ S0, Tried S p n S0 → HOk S0) (hn : 1 ≤ n) (hb : b + upN n ≤ 34359738368) : ∃ b', (b' = b ∨ b' = b + upN n) ∧ LaidB S2 b' := by
  rcases h with (⟨S0, i, k, hi, _, _, hfl, _, _, _, _, rfl⟩ | ⟨S0, htr, _, rfl⟩) | ⟨S0, S0', htr, _, hg, _, rfl⟩
  · exact ⟨b, .inl rfl, (hL.sameV hfl.V.1 hfl.V.2).sameV rfl rfl⟩
  · exact ⟨b, .inl rfl, (hL.sameV htr.V.1 htr.V.2).sameV rfl rfl⟩
  · obtain ⟨h1, _⟩ := (hL.sameV htr.V.1 htr.V.2).grew (hk _ htr) hn hg hb
    exact ⟨b + upN n, .inr rfl, h1.sameV rfl rfl⟩

theorem LaidB.made (h : LaidB S b) (hm : Made S page n S2) : LaidB S2 b := by
  rcases hm with ⟨_, rfl⟩ | ⟨_, _, rfl⟩
  · exact h
  · exact ⟨h.la, h.b0, h.b1, h.h0, h.h1, h.pl, by show S.V.rf.tail = []; rw [h.rf]; rfl⟩

theorem HOk.laidOnly (hk : HOk S) (h : Tried S p n S2) : Ok S2.V.laid := by rw [h.V.1]; exact hk.vv.ok1

theorem LaidB.grew' (h : LaidB S b) (hk : Ok S.V.laid) (hn : 1 ≤ n) (hg : Grew S n S2) (hb : b + upN n ≤ 34359738368) : LaidB S2 (b + upN n) ∧ S2 = S.grown { S.V with rf := S.V.rf.tail, pl := S.V.pl.tail, laid := addL S.V.laid b (b + upN n) } b (upN n) := by
  obtain ⟨_, at_, hc, rfl⟩ := hg
  have hu := upN_le n
  have b0 := h.b0
  have b1 := h.b1
  have := h.chosen (by omega) hc
  subst this
  refine ⟨⟨fun q => ?_, by omega, by omega, by show 0 ≤ at_ + upN n; omega, Int.le_refl _, by show S.V.pl.tail = []; rw [h.pl]; rfl, by show S.V.rf.tail = []; rw [h.rf]; rfl⟩, rfl⟩
  refine (mem_addL hk (by omega) (by omega) (by omega) q).trans ?_
  rw [h.la]; omega

theorem Found.laid (h : Found S p n page S2) (hL : LaidB S b) (hk : HOk S) (hn : 1 ≤ n) (hb : b + upN n ≤ 34359738368) : ∃ b', (b' = b ∨ b' = b + upN n) ∧ LaidB S2 b' := by
  obtain ⟨S1, h, hm⟩ := h
  rcases h with (⟨S0, i, k, hi, _, _, hfl, _, _, _, _, rfl⟩ | ⟨S0, htr, _, rfl⟩) | ⟨S0, S0', htr, _, hg, _, rfl⟩
  · exact ⟨b, .inl rfl, ((hL.sameV hfl.V.1 hfl.V.2).sameV rfl rfl : LaidB (S0.calloc i k n.toNat) b).made hm⟩
  · exact ⟨b, .inl rfl, ((hL.sameV htr.V.1 htr.V.2).sameV rfl rfl : LaidB (S0.talloc page n) b).made hm⟩
  · obtain ⟨h1, _⟩ := (hL.sameV htr.V.1 htr.V.2).grew' (hk.laidOnly htr) hn hg hb
    exact ⟨b + upN n, .inr rfl, (h1.sameV rfl rfl : LaidB (S0'.talloc page n) (b + upN n)).made hm⟩

theorem LaidB.lost (hL : LaidB S b) (hn : 1 ≤ n) (hb : b + upN n ≤ 34359738368) (h : Lost S p n S2) : False := by
  have hu := upN_le n
  rcases h with ⟨S0, htr, _, ⟨r, hr, _⟩ | ⟨_, hup, _⟩⟩ | ⟨S1, page, r, hk, _, hr, _⟩
  · rw [(hL.sameV htr.V.1 htr.V.2).rf] at hr; cases hr
  · exact (hL.sameV htr.V.1 htr.V.2).unplaced (by omega) hb hup
  · have e : S1.V.rf = [] := by
      rcases hk with (⟨S0, i, k, hi, _, _, hfl, _, _, _, _, rfl⟩ | ⟨S0, htr, _, rfl⟩) | ⟨S0, S0', htr, _, ⟨_, at_, hc, rfl⟩, _, rfl⟩
      · show S0.V.rf = []
        rw [hfl.V.1]; exact hL.rf
      · show S0.V.rf = []
        rw [htr.V.1]; exact hL.rf
      · show S0.V.rf.tail = []
        rw [htr.V.1, hL.rf]; rfl
    rw [e] at hr; cases hr

def FrR (S : HS) (a b : Int) : Prop := ∀ p, S.T.fr p = true ↔ a ≤ p ∧ p < b

theorem FrR.first {a : Int} (h : FrR S a b) (hn : 1 ≤ n) (hf : firstB S.T n page) : page = a ∧ a + n ≤ b := by
  obtain ⟨_, _, h1, h2⟩ := hf
  have q1 := (h page).1 (h1 page (Int.le_refl _) (by omega))
  have q2 := (h (page + n - 1)).1 (h1 (page + n - 1) (by omega) (by omega))
  have := h2 a fun m m1 m2 => (h m).2 (by omega)
  omega
theorem FrR.none {a : Int} (h : FrR S a b) (hno : ∀ q, ¬ rowB S.T.fr q n) : b < a + n := by
  refine Classical.byContradiction fun g => hno a fun m m1 m2 => (h m).2 (by omega)
theorem FrR.taken {a : Int} (h : FrR S a b) (hn : 0 ≤ n) : FrR (S.talloc a n) (a + n) b := fun p => by
  refine take_fr.trans ?_
  rw [h p]; omega
theorem FrR.grown {a : Int} (h : FrR S a b) {V : VS} {N : Int} (h1 : b % 512 = 0) (h2 : N % 512 = 0) (h3 : 0 ≤ N) (hab : a ≤ b) : FrR (S.grown V b N) a (b + N) := fun p => by
  show (S.T.fr p || inr (b / 512 * 512) (N / 512 * 512) p) = true ↔ _
  rw [Bool.or_eq_true, h p, inr_iff]
  omega
theorem FrR.new (V : VS) : FrR (HS.new V) 512 512 := fun p => ⟨fun h => (by cases h), fun h => by omega⟩

theorem Found.row (h : Found S p n page S2) {a : Int} (hL : LaidB S b) (hk : HOk S) (hF : FrR S a b) (hab : a ≤ b) (hn : 1 ≤ n) (hb : b + upN n ≤ 34359738368) (hT : ∀ S0, Tried S p n S0 → S0 = S) (hno : ∀ S0 page, Got S p n page S0 → S0 = S.talloc page n ∧ firstB S.T n page) :
    ∃ b', (b' = b ∨ b' = b + upN n) ∧ page = a ∧ a + n ≤ b' ∧ LaidB S2 b' ∧ FrR S2 (a + n) b' ∧ S2.ca = S.ca ∧ (b' = b → ∀ V, { S2 with V := V } = { S.talloc a n with V := V }) ∧ (a + n ≤ b → b' = b) := by
  obtain ⟨S1, h, hm⟩ := h
  have hu := upN_le n
  have hs : ∀ {S1 S2 : HS}, Made S1 page n S2 → S2.ca = S1.ca ∧ S2.T = S1.T ∧ ∀ V, { S2 with V := V } = { S1 with V := V } := fun h => by
    rcases h with ⟨_, rfl⟩ | ⟨_, _, rfl⟩ <;> exact ⟨rfl, rfl, fun _ => rfl⟩
  obtain ⟨s1, s2, s3⟩ := hs hm
  rcases h with h | ⟨S0, S0', htr, hnone, hg, hf, rfl⟩
  · obtain ⟨rfl, hf⟩ := hno _ _ h
    obtain ⟨rfl, h1⟩ := hF.first hn hf
    refine ⟨b, .inl rfl, rfl, h1, (hL.sameV rfl rfl : LaidB (S.talloc page n) b).made hm, fun q => ?_, s1, fun _ => s3, fun _ => rfl⟩
    rw [s2]; exact hF.taken (by omega) q
  · obtain rfl := hT _ htr
    obtain ⟨h1, e0⟩ := hL.grew' hk.vv.ok1 hn hg hb
    have hL2 : LaidB S2 (b + upN n) := (h1.sameV rfl rfl : LaidB (S0'.talloc page n) (b + upN n)).made hm
    subst e0
    have hF' : FrR (S0.grown { S0.V with rf := S0.V.rf.tail, pl := S0.V.pl.tail, laid := addL S0.V.laid b (b + upN n) } b (upN n)) a (b + upN n) := hF.grown hL.b1 hu.2.2 (by omega) hab
    obtain ⟨rfl, h2⟩ := hF'.first hn hf
    have hl := hF.none hnone
    refine ⟨b + upN n, .inr rfl, rfl, h2, hL2, fun q => ?_, s1, fun e => by omega, fun e => by omega⟩
    rw [s2]; exact hF'.taken (by omega) q

theorem tried_no (h : ¬ (0 ≤ p ∧ p < 64 ∧ n < 16)) {S0 : HS} (ht : Tried S p n S0) : S0 = S := by
  rcases ht with ⟨_, rfl⟩ | ⟨i, hi, rfl, hn, _⟩
  · rfl
  · omega
theorem got_no (h : ¬ (0 ≤ p ∧ p < 64 ∧ n < 16)) {S0 : HS} {page : Int} (ht : Got S p n page S0) : S0 = S.talloc page n ∧ firstB S.T n page := by
  rcases ht with ⟨S0, i, k, hi, rfl, hn, _⟩ | ⟨S0, ht, hf, rfl⟩
  · omega
  · rw [tried_no h ht] at hf ⊢; exact ⟨rfl, hf⟩

end
end Go.Sh


set_option linter.all false
set_option maxRecDepth 4000
set_option maxHeartbeats 4000000
namespace Go.Sh

theorem al_slotG (i : Nat) {t : Nat} {Ps : List Pr} {w : World} {K : Nat → World → Prop} (H : Sat Ps w) (hi : Ps[i]? = some Emp) (hK : ∀ b w', Sat (Ps.set i (Row t 1 ⟨some ⟨b, 0, none⟩, 0, 0⟩ [])) w' → K b w') : AL (.cells ⟨[]⟩ t) w K :=
  AL_rows (n := 0) (z := 1) (H.front i hi).tail rfl (by decide) fun b w' H' => hK b w' (Sat.back i H' (List.getElem?_eq_some_iff.1 hi).1)

theorem app_slotG (i : Nat) {t bytes b : Nat} {zs : Array Value} {a : SlV} {vs : List Value} {Ps : List Pr} {w : World} {K : SlV → World → Prop} (H : Sat Ps w) (hi : Ps[i]? = some (Row t 1 ⟨some ⟨b, 0, none⟩, 0, 0⟩ [])) (hz : zs.size = 1)
    (hrow : ∀ w', Sat (Ps.eraseIdx i) w' → rowAt w' a.base a.len vs) (hl : vs.length = a.len) (hlen : a.len ≤ 1099511627776) (hby : bytes ≤ 8) (ho : ∀ v ∈ vs, v.oneCell' = true) (hK : ∀ s' w', Sat (Ps.set i (Row t 1 s' vs)) w' → K s' w') :
    APP t 1 bytes zs ⟨some ⟨b, 0, none⟩, 0, 0⟩ a w K := by
  have hm : (0 + a.len) * bytes ≤ 1099511627776 * 8 := Nat.mul_le_mul (by omega) hby
  exact APP_row (H.front i hi) hz (by simpa using hrow w (H.front i hi).tail) (by simpa using hl) ho (by simp only; omega) (by simp only; omega) fun s' w' H' _ => hK s' w' (Sat.back i H' (List.getElem?_eq_some_iff.1 hi).1)

theorem oneIntsG (k : IntKind) (l : List Int) : ∀ v ∈ ints k l, v.oneCell' = true := by intro v hv; simp [ints] at hv; obtain ⟨x, _, rfl⟩ := hv; rfl
theorem oneBoolsG (l : List Bool) : ∀ v ∈ bools l, v.oneCell' = true := by intro v hv; simp [bools] at hv; rcases hv with ⟨_, rfl⟩ | ⟨_, rfl⟩ <;> rfl

section
variable {E : Env} {b c : Nat} {V : VS} {Z Rs : List Pr} {w : World}

end
end Go.Sh


set_option linter.all false
set_option maxRecDepth 8000
set_option maxHeartbeats 4000000
namespace Go.Sh

section
variable {E : Env} {w : World} {Rs Z : List Pr}

theorem HInv.newV (pl : List Int) (rf : List Bool) (fl : List Int) : HInv (HS.new (Go.Sh.newV pl rf fl)) no := HInv.new rfl rfl

variable (hE : EnvA E)
include hE

theorem halloc_ok {h : Nat} {S : HS} (hT : ∀ w', Sat Z w' → TabAt E.g_math_bits_deBruijn64tab w') (H : Sat (HeapP E h S :: Z) w) (hI : HInv S no) {p n c b : Int} {np : Bool} (hL : LaidB S b) (hg : ¬ spBad 0 n c) (n0 : 0 ≤ n) (hb : b + upN n ≤ 34359738368) {K : Int → Int → World → Prop}
    (hK : 1 ≤ n → ∀ page S2 bl id X, Found S p n page S2 → HOk S → HInv S2 (inr page n) → 0 ≤ page → page + n ≤ 34359738368 → Next S2 id X → HInv (S2.keep id (bl, spOf page n c np) page n X) no → ∀ w', Sat (HeapP E h (S2.keep id (bl, spOf page n c np) page n X) :: Z) w' → K id 0 w') :
    F.mheap_Heap_Alloc E (some ⟨h, 0, none⟩) p n c np K w := by
  have hok := H.hok
  have hg' := hg
  unfold spBad at hg'
  have hn : 1 ≤ n ∧ n ≤ 134217728 := by
    by_cases e : c = 0
    · omega
    · have hcb := cls_bnd (c := c) (by omega) (by omega)
      omega
  exact halloc_spec hE hT H hI n0 (by omega) (fun hb' => absurd hb' hg) (fun _ S2 hl => (hL.lost hn.1 hb hl).elim) fun _ page S2 bl id X hf hI2 q0 q1 hX hI3 w' H' => hK hn.1 page S2 bl id X hf hok hI2 q0 q1 hX hI3 w' H'
end

structure Cst (S : HS) (i k : Nat) : Prop where
  fr : FrR S 576 1024
  base : (S.ca i).base = 512
  has : ∀ m, (S.ca i).has m = true ↔ k ≤ m ∧ m < 64
  other : ∀ j, j ≠ i → (S.ca j).empty

section
variable {S S2 : HS} {i k : Nat} {page : Int}

theorem Cst.first (hF : FrR S 513 1024) (hc : ∀ j, (S.ca j).empty) {S1 : HS} (h : Filled S i S1) : Cst S1 i 1 ∧ S1.V = S.V ∧ S1.hint = S.hint := by
  rcases h with ⟨_, q, hq, rfl⟩ | ⟨h | h, rfl⟩
  · have := (hF.first (n := 1) (by decide) hq).1
    subst this
    refine ⟨⟨fun p => ?_, ?_, fun m => ?_, fun j hj => ?_⟩, rfl, rfl⟩
    · refine take_fr.trans ?_
      rw [hF p]; omega
    · show (if i = i then filled S.T 513 else S.ca i).base = 512
      rw [if_pos rfl]; rfl
    · show (if i = i then filled S.T 513 else S.ca i).has m = true ↔ _
      rw [if_pos rfl]
      show (decide (m < 64) && S.T.fr (513 / 64 * 64 + m)) = true ↔ _
      rw [Bool.and_eq_true, decide_eq_true_eq, hF]; omega
    · show (if j = i then filled S.T 513 else S.ca j).empty
      rw [if_neg hj]; exact hc j
  · exact absurd (hc i) h
  · have := (hF 513).2 (by decide)
    rw [h] at this; cases this

theorem Cst.again (hC : Cst S i k) (hk : k < 64) {S1 : HS} (h : Filled S i S1) : Cst S1 i k ∧ S1.V = S.V ∧ S1.hint = S.hint := by
  rcases h with ⟨he, _⟩ | ⟨_, rfl⟩
  · have := (hC.has k).2 ⟨Nat.le_refl _, hk⟩
    rw [he k] at this; cases this
  · exact ⟨hC, rfl, rfl⟩

theorem Cst.found (hfl : ∀ S1, Filled S i S1 → Cst S1 i k ∧ S1.V = S.V ∧ S1.hint = S.hint) (hi : i < 64) (hk : k < 64) {b : Int} (hL : LaidB S b) (h : Found S i 1 page S2) : page = 512 + k ∧ Cst S2 i (k + 1) ∧ LaidB S2 b := by
  obtain ⟨S1, h, hm⟩ := h
  have hno : ∀ {S0}, Tried S i 1 S0 → False := fun {S0} h => by
    rcases h with ⟨h, _⟩ | ⟨i', hi', e, _, hf, hno⟩
    · omega
    · obtain rfl : i' = i := by omega
      obtain ⟨hC, _⟩ := hfl _ hf
      refine hno k fun m hm => (hC.has _).2 ?_
      have : (1 : Int).toNat = 1 := rfl
      omega
  rcases h with (⟨S0, i', k', hi', e, _, hf, hr, hmin, h64, rfl, rfl⟩ | ⟨S0, ht, _⟩) | ⟨S0, S0', ht, _⟩
  · obtain rfl : i' = i := by omega
    obtain ⟨hC, e1, e2⟩ := hfl _ hf
    have e3 : (1 : Int).toNat = 1 := rfl
    rw [e3] at hr hmin h64 hm
    have q1 := (hC.has k').1 (by have := hr 0 (by decide); rwa [Nat.add_zero] at this)
    have q2 := hmin k fun m hm => (hC.has _).2 (by omega)
    obtain rfl : k' = k := by omega
    have hC2 : Cst (S0.calloc i' k' 1) i' (k' + 1) := by
      refine ⟨hC.fr, ?_, fun m => ?_, fun j hj => ?_⟩
      · show (if i' = i' then (S0.ca i').alloc k' 1 else S0.ca i').base = 512
        rw [if_pos rfl]; exact hC.base
      · show (if i' = i' then (S0.ca i').alloc k' 1 else S0.ca i').has m = true ↔ _
        rw [if_pos rfl]
        show ((S0.ca i').has m && !(decide (k' ≤ m) && decide (m < k' + 1))) = true ↔ _
        rw [Bool.and_eq_true, hC.has]
        by_cases g : m = k'
        · subst g; simp; omega
        · have : (decide (k' ≤ m) && decide (m < k' + 1)) = false := by
            by_cases g2 : k' ≤ m
            · rw [decide_eq_false (show ¬ m < k' + 1 by omega)]; simp
            · rw [decide_eq_false g2]; rfl
          rw [this]
          simp only [Bool.not_false, and_true]
          omega
      · show (if j = i' then (S0.ca i').alloc k' 1 else S0.ca j).empty
        rw [if_neg hj]; exact hC.other j hj
    refine ⟨by rw [hC.base], ?_, ((hL.sameV e1 e2).sameV rfl rfl : LaidB (S0.calloc i' k' 1) b).made hm⟩
    rcases hm with ⟨_, rfl⟩ | ⟨_, _, rfl⟩
    · exact hC2
    · exact ⟨hC2.fr, hC2.base, hC2.has, hC2.other⟩
  · exact (hno ht).elim
  · exact (hno ht).elim

theorem Cst.own (h : Cst S i k) {p : Int} : (S.ca i).own p = true ↔ 512 + (k : Int) ≤ p ∧ p < 576 := by
  rw [own_iff, h.base, h.has]; omega
theorem Cst.own' (h : Cst S i k) {j : Nat} (hj : j ≠ i) (p : Int) : (S.ca j).own p = false := own_emp (h.other j hj) p
theorem Cst.keep (h : Cst S i k) (id : Int) (x : Nat × SI) (pg n : Int) (X : FX) : Cst (S.keep id x pg n X) i k := ⟨h.fr, h.base, h.has, h.other⟩
theorem LaidB.keep {b : Int} (h : LaidB S b) (id : Int) (x : Nat × SI) (pg n : Int) (X : FX) : LaidB (S.keep id x pg n X) b := ⟨h.la, h.b0, h.b1, h.h0, h.h1, h.pl, h.rf⟩

theorem Next.top {id : Int} {X : FX} (h : Next S id X) {n : Nat} (e : S.fx = ⟨n, []⟩) : id = (n : Int) + 1 ∧ X = ⟨n + 1, []⟩ := by
  rcases h with ⟨_, h2, h3⟩ | ⟨a, r, h1, _⟩
  · rw [e] at h2 h3; exact ⟨h2, h3⟩
  · rw [e] at h1; cases h1
theorem Next.old {id : Int} {X : FX} (h : Next S id X) {n a : Nat} {r : List Nat} (e : S.fx = ⟨n, a :: r⟩) : id = (a : Int) + 1 ∧ X = ⟨n, r⟩ := by
  rcases h with ⟨h1, _⟩ | ⟨a', r', h1, h2, h3⟩
  · rw [e] at h1; cases h1
  · rw [e] at h1 h3; cases h1; exact ⟨h2, h3⟩
end
end Go.Sh


set_option linter.all false
set_option maxRecDepth 8000
set_option maxHeartbeats 4000000
namespace Go.Sh

theorem spOk0 {n : Int} (h : 1 ≤ n) (h2 : n ≤ 134217728) : ¬ spBad 0 n 0 := by unfold spBad; omega

section
variable {E : Env} {w : World} {Rs Z : List Pr} (hE : EnvA E)
include hE

end
end Go.Sh


set_option linter.all false
set_option maxRecDepth 8000
set_option maxHeartbeats 4000000
namespace Go.Sh

def HS.clr (S : HS) : HS := { S with V := { S.V with rf := [] } }

section
variable {S S2 : HS} {n page : Int}

theorem tried_m1 {S0 : HS} (h : Tried S (-1) n S0) : S0 = S := tried_no (by omega) h
theorem got_m1 {S0 : HS} (h : Got S (-1) n page S0) : S0 = S.talloc page n ∧ firstB S.T n page := got_no (by omega) h

theorem tried_clr : Tried S.clr (-1) n S.clr := .inl ⟨by omega, rfl⟩

theorem Found.clr (h : Found S (-1) n page S2) : Found S.clr (-1) n page S2.clr := by
  obtain ⟨S1, h, hm⟩ := h
  have hm' : Made S1.clr page n S2.clr := by
    rcases hm with ⟨h1, rfl⟩ | ⟨h1, _, rfl⟩
    · exact .inl ⟨h1, rfl⟩
    · exact .inr ⟨h1, (fun r (e : ([] : List Bool) = true :: r) => nomatch e), rfl⟩
  refine ⟨S1.clr, ?_, hm'⟩
  rcases h with h | ⟨S0, S0', htr, hno, ⟨_, at_, hc, rfl⟩, hf, rfl⟩
  · obtain ⟨rfl, hf⟩ := got_m1 h
    exact .inl (.inr ⟨S.clr, tried_clr, hf, rfl⟩)
  · obtain rfl := tried_m1 htr
    exact .inr ⟨S0.clr, _, tried_clr, hno, ⟨(fun r (e : ([] : List Bool) = true :: r) => nomatch e), at_, hc, rfl⟩, hf, rfl⟩

def asks (next b n : Int) : Nat := if next + n ≤ b then 1 else 2
def nextB (next b n : Int) : Int := if next + n ≤ b then b else b + upN n

structure RfSt (S : HS) (i : Nat) (next b : Int) (rf : List Bool) : Prop where
  inv : HInv S no
  la : LaidB S.clr b
  rf : S.V.rf = rf
  fr : FrR S next b
  lo : 512 ≤ next
  le : next ≤ b
  gn : Gn S
  pg : S.pages = next - 512
  rel : S.V.rel = []
  ow : ∀ p, 512 ≤ p → p < next → 0 < S.own p
  fx : S.fx = ⟨i, []⟩

theorem RfSt.new (rf : List Bool) : RfSt (HS.new (newV [] rf [])) 0 512 512 rf := ⟨HInv.newV [] rf [], LaidB.new [], rfl, FrR.new _, Int.le_refl _, Int.le_refl _, Gn.new _, rfl, rfl, fun p h1 h2 => by omega, rfl⟩

variable {i : Nat} {next b : Int} {rf : List Bool}

theorem RfSt.laid (h : RfSt S i next b []) : LaidB S b := ⟨h.la.la, h.la.b0, h.la.b1, h.la.h0, h.la.h1, h.la.pl, h.rf⟩

theorem RfSt.notReady (h : RfSt S i next b rf) (hk : HOk S) {q : Int} (hq : next ≤ q) : ¬ mem S.V.ready q := fun hr => by
  obtain ⟨r1, r2⟩ := (h.inv.rd q rfl).1 hr
  have r3 := (h.la.la q).1 ((h.inv.la q).2 r1)
  have r4 := (h.fr q).2 ⟨hq, r3.2⟩
  refine tf_not r2 (gone_iff.2 (.inl ?_))
  rw [h.gn.rl]; exact r4

theorem RfSt.inn (h : RfSt S i next b rf) (hb : b ≤ 34359738368) : cP S.T.inn = b - 512 := by
  have b0 := h.la.b0
  rw [← cP_row (x := 512) (n := b - 512) (by decide) (by omega) (by omega)]
  refine cP_congr fun p _ _ => ?_
  rw [Bool.eq_iff_iff, ← h.inv.la, inr_iff]
  refine (h.la.la p).trans ?_
  omega

theorem takenV (h : Taken S (-1) n page S2) : S2.V.wd = S.V.wd ∧ S2.V.fl = S.V.fl ∧ S2.V.ready = S.V.ready ∧ S2.V.rel = S.V.rel := by
  rcases h with h | ⟨S0, S0', htr, _, ⟨_, at_, _, rfl⟩, _, rfl⟩
  · obtain ⟨rfl, _⟩ := got_m1 h
    exact ⟨rfl, rfl, rfl, rfl⟩
  · obtain rfl := tried_m1 htr
    exact ⟨rfl, rfl, rfl, rfl⟩

theorem RfSt.found (h : RfSt S i next b rf) (hk : HOk S) (hkc : HOk S.clr) (hn : 1 ≤ n) (hb : b + upN n ≤ 34359738368) (hf : Found S (-1) n page S2) :
    page = next ∧ LaidB S2.clr (nextB next b n) ∧ FrR S2 (next + n) (nextB next b n) ∧ next + n ≤ nextB next b n ∧ S2.V.wd = S.V.wd ∧ S2.V.rel = [] ∧ S2.V.rf = rf.drop (asks next b n) ∧ (∀ r, rf ≠ true :: r) ∧ (asks next b n = 2 → ∀ r, rf.tail ≠ true :: r) := by
  have hu := upN_le n
  obtain ⟨b', k1, k2, k3, k4, k5, _, _, k8⟩ := hf.clr.row (a := next) h.la hkc h.fr h.le hn hb (fun S0 ht => tried_no (by omega) ht) fun S0 pg ht => got_no (by omega) ht
  subst k2
  have hbb : b' = nextB page b n := by
    unfold nextB
    by_cases g : page + n ≤ b
    · rw [if_pos g]; exact k8 g
    · rw [if_neg g]; omega
  subst hbb
  refine ⟨rfl, k4, k5, k3, ?_⟩
  obtain ⟨S1, ht, hm⟩ := hf
  obtain ⟨e1, e2, e3, e4⟩ := takenV ht
  have hnr : ¬ allReady S1 page n := fun hr => h.notReady hk (Int.le_refl page) (by rw [← e3]; exact hr page (Int.le_refl _) (by omega))
  rcases hm with ⟨h1, _⟩ | ⟨_, hrf, rfl⟩
  · exact absurd h1 hnr
  refine ⟨funext fun q => funext fun j => ?_, ?_, ?_⟩
  · show (if page ≤ q ∧ q < page + n ∧ inL S1.V.rel q = true then fillAt S1.V page q else S1.V.wd q j) = _
    rw [e4, h.rel, if_neg (fun h => by cases h.2.2), e1]
  · show cutL S1.V.rel page (page + n) = []
    rw [e4, h.rel]; rfl
  show S1.V.rf.tail = _ ∧ _
  rcases ht with ht | ⟨S0, S0', htr, hno, ⟨hr0, at_, hc, rfl⟩, hff, rfl⟩
  · obtain ⟨rfl, hff⟩ := got_m1 ht
    obtain ⟨_, hle⟩ := h.fr.first hn hff
    have ea : asks page b n = 1 := if_pos hle
    rw [ea]
    have hrf : ∀ r, S.V.rf ≠ true :: r := hrf
    have et : (S.talloc page n).V.rf = rf := h.rf
    rw [et]
    rw [h.rf] at hrf
    exact ⟨by simp, hrf, fun e => by cases e⟩
  · obtain rfl := tried_m1 htr
    have hlt := h.fr.none hno
    have ea : asks page b n = 2 := if_neg (by omega)
    rw [ea]
    have hrf : ∀ r, S0.V.rf.tail ≠ true :: r := hrf
    have et : ((S0.grown { S0.V with rf := S0.V.rf.tail, pl := S0.V.pl.tail, laid := addL S0.V.laid at_ (at_ + upN n) } at_ (upN n)).talloc page n).V.rf = rf.tail := by
      show S0.V.rf.tail = _
      rw [h.rf]
    rw [et]
    rw [h.rf] at hrf hr0
    refine ⟨?_, hr0, fun _ => hrf⟩
    cases rf with
    | nil => rfl
    | cons x r => cases r <;> rfl

theorem RfSt.keep (h : RfSt S i next b rf) (hk : HOk S) (hkc : HOk S.clr) (hn : 1 ≤ n) (hb : b + upN n ≤ 34359738368) (hf : Found S (-1) n page S2) {id : Int} {X : FX} (hX : Next S2 id X) {x : Nat × SI} (hI : HInv (S2.keep id x page n X) no) :
    page = next ∧ id = (i : Int) + 1 ∧ X = ⟨i + 1, []⟩ ∧ (S2.keep id x page n X).V.wd = S.V.wd ∧ RfSt (S2.keep id x page n X) (i + 1) (next + n) (nextB next b n) (rf.drop (asks next b n)) ∧ (∀ r, rf ≠ true :: r) := by
  obtain ⟨rfl, k1, k2, k3, k4, k5, k6, k7, _⟩ := h.found hk hkc hn hb hf
  have es := hf.same
  obtain ⟨rfl, rfl⟩ := hX.top (n := i) (by rw [es.fx]; exact h.fx)
  have hlo := h.lo
  refine ⟨rfl, rfl, rfl, k4, ⟨hI, k1.keep _ _ _ _ _, k6, k2, by omega, k3, (hf.gn h.gn).keep _ _ _ _ _, ?_, k5, fun p h1 h2 => ?_, rfl⟩, k7⟩
  · show S2.pages + n = _
    rw [es.pages, h.pg]; omega
  · show 0 < (if page ≤ p ∧ p < page + n then ((i : Int) + 1) else S2.own p)
    split
    · omega
    · rw [es.own]; exact h.ow p h1 (by omega)

theorem RfSt.lost (h : RfSt S i next b rf) (hk : HOk S) (hkc : HOk S.clr) (hn : 1 ≤ n) (hb : b + upN n ≤ 34359738368) (hf : Lost S (-1) n S2) (hI : HInv S2 no) :
    (∃ r, rf = true :: r ∧ RfSt S2 i next b r ∧ S2.V.wd = S.V.wd ∧ S2.sp = S.sp) ∨ (asks next b n = 2 ∧ (∀ r, rf ≠ true :: r) ∧ ∃ r, rf.tail = true :: r) := by
  have hu := upN_le n
  rcases hf with ⟨S0, htr, hno, hg⟩ | ⟨S1, page, r, ht, hnr, hr, rfl⟩
  · obtain rfl := tried_m1 htr
    rcases hg with ⟨r, hr, rfl⟩ | ⟨_, hup, _⟩
    · rw [h.rf] at hr
      exact .inl ⟨r, hr, ⟨hI, h.la, rfl, h.fr, h.lo, h.le, ⟨h.gn.rl, h.gn.re⟩, h.pg, h.rel, h.ow, h.fx⟩, rfl, rfl⟩
    · exact (h.la.unplaced (by omega) hb hup).elim
  · rcases ht with ht | ⟨S0, S0', htr, hno, ⟨hr0, at_, hc, rfl⟩, hff, rfl⟩
    · obtain ⟨rfl, hff⟩ := got_m1 ht
      obtain ⟨rfl, hle⟩ := h.fr.first hn hff
      have hr : S.V.rf = true :: r := hr
      rw [h.rf] at hr
      refine .inl ⟨r, hr, ⟨hI, h.la.sameV rfl rfl, rfl, fun p => ?_, h.lo, h.le, ⟨fun p => ?_, h.gn.re⟩, h.pg, h.rel, h.ow, h.fx⟩, rfl, rfl⟩
      · show ((S.T.fr p && !inr page n p) || inr page n p) = true ↔ _
        rw [← h.fr p]
        cases g : inr page n p
        · simp
        · simp
          exact (h.fr p).2 (by rw [inr_iff] at g; omega)
      · show ((S.T.rl p && !inr page n p) || (inr page n p && !inL S.V.ready p)) = ((S.T.fr p && !inr page n p) || inr page n p)
        rw [h.gn.rl]
        cases g : inr page n p
        · simp
        · rw [inr_iff] at g
          have : inL S.V.ready p = false := not_tf fun e => h.notReady hk g.1 (inL_iff.1 e)
          rw [this]; simp
    · obtain rfl := tried_m1 htr
      have hlt := h.fr.none hno
      have hr : S0.V.rf.tail = true :: r := hr
      rw [h.rf] at hr hr0
      exact .inr ⟨if_neg (by omega), hr0, r, hr⟩

theorem HOk.clr (hk : HOk S) : HOk S.clr := ⟨hk.tv, ⟨hk.vv.ok1, hk.vv.ok2, hk.vv.ok3, hk.vv.rl, hk.vv.el, hk.vv.re, hk.vv.lim, hk.vv.clean, hk.vv.sums⟩, hk.ci, hk.ok, hk.fx⟩
end

end Go.Sh


set_option linter.all false
set_option maxRecDepth 8000
set_option maxHeartbeats 2000000
namespace Go.Sh

inductive Scavd : HS → Int → HS → Int → Prop
  | stop {S : HS} {n : Int} (h : n = 0 ∨ ∀ p, S.T.idle p = false) : Scavd S n S 0
  | step {S S' : HS} {n p k m : Int} (h : ScavAt S.T n p k) (r : Scavd (S.scav p k) (n - k) S' m) : Scavd S n S' (k + m)

section
variable {E : Env} {h : Nat} {S : HS} {Z : List Pr} {w : World} {g : HG}
variable (hE : EnvA E)
include hE

theorem hscav_spec (H : Sat (HeapP E h S :: Z) w) (hI : HInv S no) {n : Int} (n0 : 0 ≤ n) (n1 : n < 18446744073709551616) {K : Int → World → Prop}
    (hK : ∀ S' m, Scavd S n S' m → 0 ≤ m → m ≤ n → HInv S' no → ∀ w', Sat (HeapP E h S' :: Z) w' → K m w') : F.mheap_Heap_Scavenge E (some ⟨h, 0, none⟩) n K w := by
  unfold F.mheap_Heap_Scavenge
  refine LOOP_intro (fun st w' => ∃ S1, 0 ≤ st.1 ∧ st.1 ≤ n ∧ HInv S1 no ∧ (∀ S' m, Scavd S1 st.1 S' m → Scavd S n S' (n - st.1 + m)) ∧ Sat (HeapP E h S1 :: Z) w') (fun st _ => st.1.toNat) ⟨S, n0, Int.le_refl _, hI, fun S' m hs => by show Scavd S n S' (n - n + m); rw [show n - n + m = m by omega]; exact hs, H⟩ ?_
  rintro ⟨left, v⟩ _ w2 ⟨S1, l0, l1, hI1, hst, H2⟩
  dsimp only at l0 l1 hst ⊢
  have hend : (left = 0 ∨ ∀ p, S1.T.idle p = false) → ∀ w', Sat (HeapP E h S1 :: Z) w' → K (u64 (n - left)) w' := fun hz w' H' => by
    rw [u64_id (n := n - left) (by omega) (by omega)]
    have := hst S1 0 (.stop hz)
    rw [Int.add_zero] at this
    exact hK S1 _ this (by omega) (by omega) hI1 w' H'
  refine CND_dec (fun hpos => ?_) fun hz => hend (.inl (by omega)) w2 H2
  have hok1 := H2.hok
  simp only [NC_some]
  obtain ⟨t, R, c1, ht, hb⟩ := H2.theTree2
  refine ⟨_, c1, vscav_sat hE.toEnvS ht (by omega) (by omega) (fun hz => CND_t rfl (hend hz w2 H2)) fun p k hs w8 H8 => CND_f (by have := hs.k0; simpa using (by omega : ¬ k = 0)) ?_⟩
  have k0 := hs.k0
  have kn := hs.kn
  have H9 := hb H8
  obtain ⟨m, R2, c0, hm, hb2⟩ := H9.theMem
  have hlim : ∀ q, p ≤ q → q < p + k → 0 ≤ q ∧ q < 34359738368 := fun q a b => hok1.tv.lim q (hok1.tv.fi q (hI1.idle hok1 (hs.row q a b)).1)
  have b0 := hlim p (Int.le_refl _) (by omega)
  have b1 := hlim (p + k - 1) (by omega) (by omega)
  refine ⟨_, c0, release_ok hE.toEnvS hm b0.1 k0 (by omega) (fun q a b => (hI1.idle hok1 (hs.row q a b)).2.2.1) fun w12 H12 => ?_⟩
  rw [u64_id (n := left - k) (by omega) (by omega)]
  refine ⟨⟨S1.scav p k, by show 0 ≤ left - k; omega, by show left - k ≤ n; omega, hI1.scav hok1 k0 hs.row, fun S' m' hs' => ?_, hb2 H12⟩, by show (left - k).toNat < left.toNat; omega⟩
  have := hst S' (k + m') (.step hs hs')
  rw [show n - (left - k) + m' = n - left + (k + m') by omega]
  exact this
end

structure ScavR (S S' : HS) (x y : Int) : Prop where
  inn : S'.T.inn = S.T.inn
  fr : S'.T.fr = S.T.fr
  rl : ∀ q, S'.T.rl q = true ↔ S.T.rl q = true ∨ (x ≤ q ∧ q < y)
  ca : S'.ca = S.ca
  ks : S'.ks = S.ks
  own : S'.own = S.own
  fx : S'.fx = S.fx
  sp : S'.sp = S.sp
  hint : S'.hint = S.hint
  pages : S'.pages = S.pages
  laid : S'.V.laid = S.V.laid
  pl : S'.V.pl = S.V.pl
  rf : S'.V.rf = S.V.rf
  fl : S'.V.fl = S.V.fl
  ready : ∀ q, mem S'.V.ready q ↔ mem S.V.ready q ∧ ¬ (x ≤ q ∧ q < y)
  rel : ∀ q, mem S'.V.rel q ↔ mem S.V.rel q ∨ (x ≤ q ∧ q < y)
  wd : ∀ q i, S'.V.wd q i = if x ≤ q ∧ q < y then 0 else S.V.wd q i

theorem Scavd.none {S S' : HS} {n m : Int} (h : Scavd S n S' m) (hi : ∀ q, S.T.idle q = false) : S' = S ∧ m = 0 := by
  cases h with
  | stop _ => exact ⟨rfl, rfl⟩
  | step hs _ =>
    have := hs.row _ (Int.le_refl _) (by have := hs.k0; omega)
    rw [hi] at this; cases this

theorem Scavd.row {S S' : HS} {n m : Int} (h : Scavd S n S' m) : ∀ {a b : Int}, (∀ q, S.T.idle q = true ↔ a ≤ q ∧ q < b) → a ≤ b → 0 ≤ a → b ≤ 34359738368 → 0 ≤ n → Ok S.V.rel → m = min n (b - a) ∧ ScavR S S' (b - m) b := by
  induction h with
  | @stop S n hz =>
    intro a b hi hab _ _ hn _
    have hm : (0 : Int) = min n (b - a) := by
      rcases hz with e | e
      · omega
      · by_cases g : a < b
        · have := (hi a).2 ⟨Int.le_refl _, g⟩
          rw [e] at this; cases this
        · omega
    have hno : ∀ q, ¬ (b - 0 ≤ q ∧ q < b) := fun q => by omega
    exact ⟨hm, ⟨rfl, rfl, fun q => ⟨.inl, fun h => h.elim (fun h => h) fun h => absurd h (hno q)⟩, rfl, rfl, rfl, rfl, rfl, rfl, rfl, rfl, rfl, rfl, rfl, fun q => ⟨fun h => ⟨h, hno q⟩, fun h => h.1⟩, fun q => ⟨.inl, fun h => h.elim (fun h => h) fun h => absurd h (hno q)⟩, fun q i => by rw [if_neg (hno q)]⟩⟩
  | @step S S' n p k m hs r ih =>
    intro a b hi hab ha hb hn hok
    have k0 := hs.k0
    have kn := hs.kn
    have e1 := (hi p).1 (hs.row p (Int.le_refl _) (by omega))
    have e2 := (hi (p + k - 1)).1 (hs.row (p + k - 1) (by omega) (by omega))
    have e3 := hs.last (b - 1) ((hi (b - 1)).2 ⟨by omega, by omega⟩)
    have e4 : p + k = b := by omega
    have hrow := hs.row
    have hrl : ∀ q, (S.scav p k).T.rl q = true ↔ S.T.rl q = true ∨ (p ≤ q ∧ q < p + k) := fun q => by
      show (S.T.rl q || inr p k q) = true ↔ _
      rw [Bool.or_eq_true, inr_iff]
    have hi' : ∀ q, (S.scav p k).T.idle q = true ↔ a ≤ q ∧ q < p := fun q => by
      have h0 := hi q
      have h1 : S.T.idle q = true ↔ S.T.fr q = true ∧ ¬ S.T.rl q = true := by
        unfold TV.idle
        cases S.T.fr q <;> cases S.T.rl q <;> simp
      have h2 : (S.scav p k).T.idle q = true ↔ S.T.fr q = true ∧ ¬ (S.scav p k).T.rl q = true := by
        unfold TV.idle
        show (S.T.fr q && !(S.scav p k).T.rl q) = true ↔ _
        cases S.T.fr q <;> cases (S.scav p k).T.rl q <;> simp
      rw [h2, hrl]
      constructor
      · rintro ⟨q1, q2⟩
        have := h0.1 (h1.2 ⟨q1, fun h => q2 (.inl h)⟩)
        have : ¬ (p ≤ q ∧ q < p + k) := fun h => q2 (.inr h)
        omega
      · intro q1
        have := h1.1 (h0.2 ⟨q1.1, by omega⟩)
        exact ⟨this.1, fun h => h.elim this.2 fun h => by omega⟩
    have hm := mem_addL hok (a := p) (b := p + k) (by omega) (by omega) (by omega)
    have hok' : Ok (addL S.V.rel p (p + k)) := (addL_spec hok (by omega) (by omega) (by omega)).1
    obtain ⟨g1, g2⟩ := ih hi' e1.1 ha (by omega) (by omega) hok'
    have hmm : 0 ≤ m ∧ m ≤ p - a := by omega
    refine ⟨by omega, ⟨g2.inn, g2.fr, fun q => ?_, g2.ca, g2.ks, g2.own, g2.fx, g2.sp, g2.hint, g2.pages, g2.laid, g2.pl, g2.rf, g2.fl, fun q => ?_, fun q => ?_, fun q i => ?_⟩⟩
    · rw [g2.rl, hrl]
      constructor
      · rintro ((h | h) | h)
        · exact .inl h
        · exact .inr (by omega)
        · exact .inr (by omega)
      · rintro (h | h)
        · exact .inl (.inl h)
        · by_cases e : q < p
          · exact .inr ⟨by omega, e⟩
          · exact .inl (.inr (by omega))
    · rw [g2.ready]
      have : mem (S.scav p k).V.ready q ↔ mem S.V.ready q ∧ ¬ (p ≤ q ∧ q < p + k) := mem_cutL (by omega)
      rw [this]
      constructor
      · rintro ⟨⟨h1, h2⟩, h3⟩
        exact ⟨h1, by omega⟩
      · rintro ⟨h1, h2⟩
        exact ⟨⟨h1, by omega⟩, by omega⟩
    · rw [g2.rel]
      have : mem (S.scav p k).V.rel q ↔ mem S.V.rel q ∨ (p ≤ q ∧ q < p + k) := hm q
      rw [this]
      constructor
      · rintro ((h | h) | h)
        · exact .inl h
        · exact .inr (by omega)
        · exact .inr (by omega)
      · rintro (h | h)
        · exact .inl (.inl h)
        · by_cases e : q < p
          · exact .inr ⟨by omega, e⟩
          · exact .inl (.inr (by omega))
    · rw [g2.wd]
      show (if p - m ≤ q ∧ q < p then 0 else if p ≤ q ∧ q < p + k then 0 else S.V.wd q i) = _
      by_cases e1 : p - m ≤ q ∧ q < p
      · rw [if_pos e1, if_pos (by omega)]
      · rw [if_neg e1]
        by_cases e2 : p ≤ q ∧ q < p + k
        · rw [if_pos e2, if_pos (by omega)]
        · rw [if_neg e2, if_neg (by omega)]
end Go.Sh


set_option linter.all false
set_option maxRecDepth 8000
set_option maxHeartbeats 1000000
namespace Go.Sh
open Ieee

def rd (x : Nat) : Datum := double.read x

noncomputable def timesV (n r : Int) : Int := match fArith .mul (fNear n) r.toNat with
  | none => 0
  | some x => bif (fOrd x 4895412794951729152 == some .gt || fOrd x 4895412794951729152 == some .eq) then 18446744073709551615 else bif (fOrd x 4607182418800017408 == some .gt || fOrd x 4607182418800017408 == some .eq) then (fInt x).getD 0 else 0

theorem rd64 : rd 4895412794951729152 = .number false 4503599627370496 12 := by decide +kernel
theorem rd1 : rd 4607182418800017408 = .number false 4503599627370496 (-52) := by decide +kernel
theorem fOrd_eq (x c : Nat) : fOrd x c = (rd x).order (rd c) := hid_eq _
theorem fInt_eq (x : Nat) : fInt x = (rd x).toInt .zero := hid_eq _

theorem cmp_ge {a b : Int} (h : ((some (compare a b) == some Ordering.gt) || (some (compare a b) == some Ordering.eq)) = true) : b ≤ a := by
  refine Classical.byContradiction fun g => ?_
  have : compare a b = .lt := Int.compare_eq_lt.2 (by omega)
  rw [this] at h; simp at h
theorem cmp_lt {a b : Int} (h : ¬ ((some (compare a b) == some Ordering.gt) || (some (compare a b) == some Ordering.eq)) = true) : a < b := by
  refine Classical.byContradiction fun g => h ?_
  by_cases e : a = b
  · have : compare a b = .eq := Int.compare_eq_eq.2 e
    rw [this]; rfl
  · have : compare a b = .gt := Int.compare_eq_gt.2 (by omega)
    rw [this]; rfl
theorem cmp_nge {a b : Int} (h : a < b) : ((some (compare a b) == some Ordering.gt) || (some (compare a b) == some Ordering.eq)) = false := by
  have : compare a b = .lt := Int.compare_eq_lt.2 h
  rw [this]; rfl

theorem signed_f (m u : Nat) : signed false m u = ((m * 2 ^ u : Nat) : Int) := by unfold signed; rw [Nat.shiftLeft_eq]; rfl
theorem signed_t (m u : Nat) : signed true m u = -((m * 2 ^ u : Nat) : Int) := by unfold signed; rw [Nat.shiftLeft_eq]; rfl

theorem cut_zero (s : Bool) (n d : Nat) : Toward.zero.cut s n d = n / 2 ^ (min d (n.log2 + 2)) := by
  unfold Toward.cut
  simp only [Nat.shiftLeft_eq, Nat.one_mul, Bool.toNat_false, Nat.add_zero]

theorem cut_le {s : Bool} {n d B : Nat} (h : n < B * 2 ^ d) (hB : 0 < B) : Toward.zero.cut s n d < B := by
  rw [cut_zero]
  by_cases e : d ≤ n.log2 + 2
  · rw [Nat.min_eq_left e]
    exact (Nat.div_lt_iff_lt_mul (Nat.pow_pos (by decide))).2 h
  · rw [Nat.min_eq_right (by omega)]
    have : n < 2 ^ (n.log2 + 2) := Nat.lt_of_lt_of_le Nat.lt_log2_self (Nat.pow_le_pow_right (by decide) (by omega))
    rw [Nat.div_eq_of_lt this]; exact hB

theorem toInt_num (m : Nat) (i : Int) : (Datum.number false m i).toInt .zero = some ((Toward.zero.cut false (m * 2 ^ i.toNat) (-i).toNat : Nat) : Int) := by
  unfold Datum.toInt Datum.integral
  simp only [signed_f, Nat.shiftLeft_eq, Nat.pow_zero, Nat.mul_one]

theorem fint_ok {x : Nat} (h1 : ((fOrd x 4607182418800017408 == some .gt) || (fOrd x 4607182418800017408 == some .eq)) = true) (h2 : ¬ ((fOrd x 4895412794951729152 == some .gt) || (fOrd x 4895412794951729152 == some .eq)) = true) :
    ∃ k : Nat, fInt x = some (k : Int) ∧ k < 18446744073709551616 := by
  rw [fOrd_eq, rd1] at h1
  rw [fOrd_eq, rd64] at h2
  rw [fInt_eq]
  generalize rd x = d at *
  cases d with
  | nan s t => simp [Datum.order] at h1
  | infinity s =>
    cases s
    · simp [Datum.order] at h2
    · simp [Datum.order] at h1
  | number s m i =>
    simp only [Datum.order] at h1 h2
    have q1 := cmp_ge h1
    have q2 := cmp_lt h2
    rw [signed_f] at q1 q2
    cases s with
    | true =>
      rw [signed_t] at q1
      have : 0 < 4503599627370496 * 2 ^ (-52 - min i (-52)).toNat := Nat.mul_pos (by decide) (Nat.pow_pos (by decide))
      omega
    | false =>
      rw [signed_f] at q2
      have q2 : m * 2 ^ (i - min i 12).toNat < 4503599627370496 * 2 ^ (12 - min i 12).toNat := by exact_mod_cast q2
      refine ⟨_, toInt_num m i, cut_le (B := 18446744073709551616) ?_ (by decide)⟩
      by_cases hi : 0 ≤ i
      · rw [show (-i).toNat = 0 by omega, Nat.pow_zero, Nat.mul_one]
        by_cases h12 : i ≤ 12
        · rw [Int.min_eq_left h12, show (i - i).toNat = 0 by omega, Nat.pow_zero, Nat.mul_one] at q2
          have e : 2 ^ (12 - i).toNat * 2 ^ i.toNat = 2 ^ 12 := by rw [← Nat.pow_add]; congr 1; omega
          calc m * 2 ^ i.toNat < 4503599627370496 * 2 ^ (12 - i).toNat * 2 ^ i.toNat := Nat.mul_lt_mul_of_pos_right q2 (Nat.pow_pos (by decide))
            _ = 18446744073709551616 := by rw [Nat.mul_assoc, e]
        · rw [Int.min_eq_right (by omega), show (12 - 12 : Int).toNat = 0 by decide, Nat.pow_zero, Nat.mul_one] at q2
          have e : 2 ^ i.toNat = 2 ^ (i - 12).toNat * 2 ^ 12 := by rw [← Nat.pow_add]; congr 1; omega
          rw [e, ← Nat.mul_assoc]
          calc m * 2 ^ (i - 12).toNat * 2 ^ 12 < 4503599627370496 * 2 ^ 12 := Nat.mul_lt_mul_of_pos_right q2 (by decide)
            _ = 18446744073709551616 := by decide
      · rw [show i.toNat = 0 by omega, Nat.pow_zero, Nat.mul_one]
        rw [Int.min_eq_left (by omega), show (i - i).toNat = 0 by omega, Nat.pow_zero, Nat.mul_one, show (12 - i).toNat = 12 + (-i).toNat by omega, Nat.pow_add, ← Nat.mul_assoc] at q2
        exact q2

theorem times_bnd (n r : Int) : 0 ≤ timesV n r ∧ timesV n r < 18446744073709551616 := by
  unfold timesV
  cases fArith .mul (fNear n) r.toNat with
  | none => exact ⟨Int.le_refl _, by show (0 : Int) < _; decide⟩
  | some x =>
    simp only
    cases h2 : (fOrd x 4895412794951729152 == some .gt || fOrd x 4895412794951729152 == some .eq) with
    | true => exact ⟨(by decide : (0 : Int) ≤ 18446744073709551615), (by decide : (18446744073709551615 : Int) < 18446744073709551616)⟩
    | false =>
      cases h1 : (fOrd x 4607182418800017408 == some .gt || fOrd x 4607182418800017408 == some .eq) with
      | false => exact ⟨(by decide : (0 : Int) ≤ 0), (by decide : (0 : Int) < 18446744073709551616)⟩
      | true =>
        obtain ⟨k, hk, hk2⟩ := fint_ok h1 (by rw [h2]; decide)
        simp only [cond_false, cond_true]
        rw [hk]
        exact ⟨by show (0 : Int) ≤ (k : Int); omega, by show (k : Int) < _; omega⟩

theorem rd_nan (t : Nat) : ∃ s f, rd (nanP t) = .nan s f := by
  have h1 : t % 2 < 2 := Nat.mod_lt _ (by decide)
  have h2 : (t / 2) % (2 ^ 52 - 1) < 2 ^ 52 - 1 := Nat.mod_lt _ (by decide)
  unfold rd nanP Format.read
  have e1 : double.signWeight = 9223372036854775808 := by decide
  have e2 : double.binade = 4503599627370496 := by decide
  have e3 : double.infRung = 9218868437227405312 := by decide +kernel
  simp only [e1, e2, e3]
  generalize t % 2 = a at *
  generalize (t / 2) % (2 ^ 52 - 1) = b at *
  rw [if_neg (by omega), if_neg (by omega), if_neg (by omega)]
  exact ⟨_, _, rfl⟩
theorem nan_ord (t c : Nat) : fOrd (nanP t) c = none := by
  rw [fOrd_eq]
  obtain ⟨s, f, h⟩ := rd_nan t
  rw [h]
  cases rd c <;> rfl
end Go.Sh


set_option linter.all false
set_option maxRecDepth 8000
set_option maxHeartbeats 1000000
namespace Go.Sh
open Ieee

theorem dsw : double.signWeight = 9223372036854775808 := by decide
theorem dbi : double.binade = 4503599627370496 := by decide
theorem dir : double.infRung = 9218868437227405312 := by decide +kernel
theorem dlp : double.leastPlace = -1074 := by decide
theorem dfr : double.fractionBits = 52 := rfl

theorem fArith_mul (a b : Nat) : fArith .mul a b = ((rd a).product (rd b)).map double.write := hid_eq _

theorem near_eq (n : Int) : fNear n = FloatKind.f64.nearest n := hid_eq _
def times0 (n r : Int) : Int := match fArith0 .mul (FloatKind.f64.nearest n) r.toNat with
  | none => 0
  | some x => bif (FloatKind.f64.format.order x 4895412794951729152 == some .gt || FloatKind.f64.format.order x 4895412794951729152 == some .eq) then 18446744073709551615 else bif (FloatKind.f64.format.order x 4607182418800017408 == some .gt || FloatKind.f64.format.order x 4607182418800017408 == some .eq) then ((FloatKind.f64.decode x).toInt .zero).getD 0 else 0
theorem times0_eq (n r : Int) : timesV n r = times0 n r := by
  unfold timesV times0
  simp only [fArith, fNear, fOrd, fInt, hid_eq]
  try (cases fArith0 .mul (FloatKind.f64.nearest n) r.toNat <;> rfl)

theorem near_all : ((List.range 301).all fun n => n == 0 || match rd (FloatKind.f64.nearest (n : Int)) with
  | .number false M E => decide (E ≤ 0) && decide (M = n * 2 ^ (-E).toNat) && decide (0 < M)
  | _ => false) = true := by decide +kernel
theorem near_at {n : Nat} (h0 : 0 < n) (h1 : n ≤ 300) : ∃ e : Nat, rd (fNear (n : Int)) = .number false (n * 2 ^ e) (-(e : Int)) := by
  rw [near_eq]
  have h := List.all_eq_true.1 near_all n (List.mem_range.2 (by omega))
  rw [Bool.or_eq_true] at h
  rcases h with h | h
  · rw [beq_iff_eq] at h; omega
  · split at h
    · rename_i M E hr
      simp only [Bool.and_eq_true, decide_eq_true_eq] at h
      refine ⟨(-E).toNat, ?_⟩
      rw [hr, h.1.2, show (-(((-E).toNat : Nat) : Int)) = E by omega]
    · cases h

theorem times_two : ((List.range 301).all fun n => n == 0 || times0 (n : Int) 4611686018427387904 == 2 * (n : Int)) = true := by decide +kernel
theorem times_inf : ((List.range 301).all fun n => n == 0 || times0 (n : Int) 9218868437227405312 == 18446744073709551615) = true := by decide +kernel
theorem times_2 {n : Int} (h0 : 1 ≤ n) (h1 : n ≤ 300) : timesV n 4611686018427387904 = 2 * n := by
  obtain ⟨k, rfl⟩ := Int.eq_ofNat_of_zero_le (show 0 ≤ n by omega)
  rw [times0_eq]
  have h := List.all_eq_true.1 times_two k (List.mem_range.2 (by omega))
  rw [Bool.or_eq_true, beq_iff_eq, beq_iff_eq] at h
  omega
theorem times_i {n : Int} (h0 : 1 ≤ n) (h1 : n ≤ 300) : timesV n 9218868437227405312 = 18446744073709551615 := by
  obtain ⟨k, rfl⟩ := Int.eq_ofNat_of_zero_le (show 0 ≤ n by omega)
  rw [times0_eq]
  have h := List.all_eq_true.1 times_inf k (List.mem_range.2 (by omega))
  rw [Bool.or_eq_true, beq_iff_eq, beq_iff_eq] at h
  omega
theorem times_11 : timesV 1 4607632778762754458 = 1 := (times0_eq _ _).trans (by decide +kernel)

theorem rd_word (x : Nat) : rd x = if x % 9223372036854775808 < 4503599627370496 then .number (x / 9223372036854775808 % 2 == 1) (x % 9223372036854775808) (-1074) else
    if x % 9223372036854775808 < 9218868437227405312 then .number (x / 9223372036854775808 % 2 == 1) (4503599627370496 + x % 9223372036854775808 % 4503599627370496) (-1074 + ((x % 9223372036854775808 / 4503599627370496 - 1 : Nat) : Int)) else
    if x % 9223372036854775808 = 9218868437227405312 then .infinity (x / 9223372036854775808 % 2 == 1) else .nan (x / 9223372036854775808 % 2 == 1) (x % 9223372036854775808 - 9218868437227405312) := by
  unfold rd Format.read
  simp only [dsw, dbi, dir, dlp]

theorem timesV_none {n r : Int} (h : fArith .mul (fNear n) r.toNat = none) : timesV n r = 0 := by unfold timesV; rw [h]
theorem timesV_low {n r : Int} {x : Nat} (h : fArith .mul (fNear n) r.toNat = some x) (h2 : (fOrd x 4895412794951729152 == some .gt || fOrd x 4895412794951729152 == some .eq) = false) (h1 : (fOrd x 4607182418800017408 == some .gt || fOrd x 4607182418800017408 == some .eq) = false) : timesV n r = 0 := by
  unfold timesV; rw [h]; simp only [h1, h2, cond_false]

theorem neg_low {x : Nat} (hn : (∃ m i, rd x = .number true m i) ∨ rd x = .infinity true) (c : Nat) (hc : ∃ m i, 0 < m ∧ rd c = .number false m i) : (fOrd x c == some .gt || fOrd x c == some .eq) = false := by
  obtain ⟨k, j, hk, hc⟩ := hc
  rw [fOrd_eq, hc]
  rcases hn with ⟨m, i, h⟩ | h
  · rw [h]
    refine cmp_nge ?_
    rw [signed_f, signed_t]
    have : 0 < k * 2 ^ (j - min i j).toNat := Nat.mul_pos hk (Nat.pow_pos (by decide))
    have h0 : 0 ≤ m * 2 ^ (i - min i j).toNat := Nat.zero_le _
    omega
  · rw [h]; rfl

theorem word_neg (R : Nat) (h : R ≤ 9218868437227405312) : (∃ m i, rd (double.word true R) = .number true m i) ∨ rd (double.word true R) = .infinity true := by
  have e : double.word true R = 9223372036854775808 + R := by unfold Format.word; rw [dsw]; rfl
  rw [e, rd_word, show (9223372036854775808 + R) % 9223372036854775808 = R by omega, show (9223372036854775808 + R) / 9223372036854775808 % 2 = 1 by omega]
  by_cases h1 : R < 4503599627370496
  · rw [if_pos h1]; exact .inl ⟨_, _, rfl⟩
  · rw [if_neg h1]
    by_cases h2 : R < 9218868437227405312
    · rw [if_pos h2]; exact .inl ⟨_, _, rfl⟩
    · rw [if_neg h2, if_pos (by omega)]; exact .inr rfl

theorem near_neg (m : Nat) (i : Int) : ∃ R, R ≤ 9218868437227405312 ∧ double.nearest true m i = double.word true R := by
  unfold Format.nearest
  by_cases e : m = 0
  · rw [if_pos e]; exact ⟨0, by decide, rfl⟩
  · rw [if_neg e]
    refine ⟨_, ?_, rfl⟩
    rw [dir]
    exact Nat.min_le_right _ _

theorem pos1 : ∃ m i, 0 < m ∧ rd 4607182418800017408 = .number false m i := ⟨_, _, by decide, rd1⟩
theorem pos64 : ∃ m i, 0 < m ∧ rd 4895412794951729152 = .number false m i := ⟨_, _, by decide, rd64⟩

theorem times_neg {n r : Int} (h0 : 1 ≤ n) (h1 : n ≤ 300) (hr : 9223372036854775808 < r) (hr2 : r < 18446744073709551616) : timesV n r = 0 := by
  obtain ⟨k, rfl⟩ := Int.eq_ofNat_of_zero_le (show 0 ≤ n by omega)
  obtain ⟨e, he⟩ := near_at (n := k) (by omega) (by omega)
  obtain ⟨R, rfl⟩ := Int.eq_ofNat_of_zero_le (show 0 ≤ r by omega)
  have hs : R / 9223372036854775808 % 2 = 1 := by omega
  have hrd := rd_word R
  rw [hs] at hrd
  have hk0 : 0 < k * 2 ^ e := Nat.mul_pos (by omega) (Nat.pow_pos (by decide))
  cases hp : (rd (fNear (k : Int))).product (rd R) with
  | none => exact timesV_none (by rw [fArith_mul, Int.toNat_natCast, hp]; rfl)
  | some d =>
    have hx : fArith .mul (fNear (k : Int)) ((R : Int)).toNat = some (double.write d) := by rw [fArith_mul, Int.toNat_natCast, hp]; rfl
    have hneg : (∃ m i, rd (double.write d) = .number true m i) ∨ rd (double.write d) = .infinity true := by
      rw [he] at hp
      have num : ∀ m i, d = .number true m i → (∃ m i, rd (double.write d) = .number true m i) ∨ rd (double.write d) = .infinity true := fun m i e => by
        subst e
        obtain ⟨Q, q1, q2⟩ := near_neg m i
        show (∃ m' i', rd (double.nearest true m i) = .number true m' i') ∨ rd (double.nearest true m i) = .infinity true
        rw [q2]; exact word_neg Q q1
      have inf : d = .infinity true → (∃ m i, rd (double.write d) = .number true m i) ∨ rd (double.write d) = .infinity true := fun e => by
        subst e
        exact word_neg _ (by rw [dir]; exact Nat.le_refl _)
      rw [hrd] at hp
      split at hp
      · exact num _ _ (Option.some.inj hp).symm
      · split at hp
        · exact num _ _ (Option.some.inj hp).symm
        · split at hp
          · simp only [Datum.product] at hp
            rw [if_neg (by omega)] at hp
            exact inf (Option.some.inj hp).symm
          · cases hp
    exact timesV_low hx (neg_low hneg _ pos64) (neg_low hneg _ pos1)

theorem times_nan {n r : Int} (hr : 9218868437227405312 < r) (hr2 : r < 9223372036854775808) : timesV n r = 0 := by
  obtain ⟨R, rfl⟩ := Int.eq_ofNat_of_zero_le (show 0 ≤ r by omega)
  refine timesV_none ?_
  rw [fArith_mul, Int.toNat_natCast, rd_word R, show R % 9223372036854775808 = R by omega, if_neg (by omega), if_neg (by omega), if_neg (by omega)]
  cases rd (fNear n) <;> rfl
end Go.Sh


set_option linter.all false
set_option maxRecDepth 8000
set_option maxHeartbeats 1000000
namespace Go.Sh
open Ieee

theorem pw (n : Nat) : 0 < 2 ^ n := Nat.pow_pos (by decide)

theorem rd_unit {R : Nat} (h : R ≤ 4607182418800017408) : ∃ m e1 : Nat, rd R = .number false m (-(e1 : Int)) ∧ m ≤ 2 ^ e1 ∧ 52 ≤ e1 := by
  rw [rd_word R, show R % 9223372036854775808 = R by omega, show R / 9223372036854775808 % 2 = 0 by omega]
  by_cases h1 : R < 4503599627370496
  · rw [if_pos h1]
    obtain ⟨t, ht⟩ : ∃ t : Nat, t = 1074 := ⟨_, rfl⟩
    refine ⟨R, t, by rw [ht]; rfl, ?_, by omega⟩
    have h2 : (2 : Nat) ^ 52 ≤ 2 ^ t := Nat.pow_le_pow_right (by decide) (by omega)
    have h3 : (2 : Nat) ^ 52 = 4503599627370496 := by decide
    rw [h3] at h2
    exact Nat.le_trans (Nat.le_of_lt h1) h2
  · rw [if_neg h1, if_pos (by omega)]
    have hq : 1 ≤ R / 4503599627370496 ∧ R / 4503599627370496 ≤ 1023 := by omega
    refine ⟨4503599627370496 + R % 4503599627370496, 1075 - R / 4503599627370496, ?_, ?_, by omega⟩
    · show Datum.number false (4503599627370496 + R % 4503599627370496) (-1074 + ((R / 4503599627370496 - 1 : Nat) : Int)) = _
      congr 1
      omega
    · by_cases g : R / 4503599627370496 = 1023
      · rw [g, show 1075 - 1023 = 52 from rfl, show (2 : Nat) ^ 52 = 4503599627370496 by decide]
        omega
      · have : (2 : Nat) ^ 53 ≤ 2 ^ (1075 - R / 4503599627370496) := Nat.pow_le_pow_right (by decide) (by omega)
        have : (2 : Nat) ^ 53 = 9007199254740992 := by decide
        omega

theorem div_min (n d : Nat) : n / 2 ^ (min d (n.log2 + 2)) = n / 2 ^ d := by
  by_cases e : d ≤ n.log2 + 2
  · rw [Nat.min_eq_left e]
  · rw [Nat.min_eq_right (by omega)]
    have h1 : n < 2 ^ (n.log2 + 2) := Nat.lt_of_lt_of_le Nat.lt_log2_self (Nat.pow_le_pow_right (by decide) (by omega))
    have h2 : n < 2 ^ d := Nat.lt_of_lt_of_le h1 (Nat.pow_le_pow_right (by decide) (by omega))
    rw [Nat.div_eq_of_lt h1, Nat.div_eq_of_lt h2]

theorem cut_even (n d : Nat) : ∃ c, Toward.even.cut false n d = n / 2 ^ d + c ∧ c ≤ 1 ∧ (d = 0 → c = 0) := by
  unfold Toward.cut
  simp only [Nat.shiftLeft_eq, Nat.one_mul]
  rw [div_min]
  refine ⟨_, rfl, Bool.toNat_le _, fun e => ?_⟩
  subst e
  simp
  rw [Nat.mod_one]
  omega

theorem nearest_le {mag D n : Nat} (hm : mag ≤ n * 2 ^ D) (n0 : 0 < n) (n1 : n ≤ 300) : ∃ k s : Nat, rd (double.nearest false mag (-(D : Int))) = .number false k (-(s : Int)) ∧ k ≤ n * 2 ^ s + 1 ∧ 1 ≤ s := by
  unfold Format.nearest
  by_cases e0 : mag = 0
  · rw [if_pos e0]
    refine ⟨0, 1074, by decide +kernel, Nat.zero_le _, by decide⟩
  rw [if_neg e0]
  have hl1 : 2 ^ mag.log2 ≤ mag := Nat.log2_self_le e0
  have hl2 : mag < 2 ^ (mag.log2 + 1) := Nat.lt_log2_self
  generalize mag.log2 = l at *
  have hl : l < D + 9 := by
    refine (Nat.pow_lt_pow_iff_right (a := 2) (by decide)).1 ?_
    have h1 : n * 2 ^ D ≤ 300 * 2 ^ D := Nat.mul_le_mul_right _ n1
    have h2 : 300 * 2 ^ D < 512 * 2 ^ D := Nat.mul_lt_mul_of_pos_right (by decide) (pw D)
    have h3 : (2 : Nat) ^ (D + 9) = 512 * 2 ^ D := by rw [Nat.pow_add, Nat.mul_comm]
    omega
  obtain ⟨t, ht, ht1, ht2, ht3⟩ : ∃ t : Nat, max (-(D : Int) + (l : Int) - ((double.fractionBits : Nat) : Int)) double.leastPlace = -(t : Int) ∧ t ≤ 1074 ∧ 44 ≤ t ∧ t + l ≤ D + 52 ∧ (t < 1074 → t + l = D + 52) := by
    rw [dlp, dfr]
    refine ⟨(-(max (-(D : Int) + (l : Int) - ((52 : Nat) : Int)) (-1074))).toNat, ?_, ?_, ?_, ?_, ?_⟩ <;> omega
  obtain ⟨ht3, ht4⟩ := ht3
  simp only [ht]
  rw [show (-(D : Int) - -(t : Int)).toNat = t - D by omega, show (-(t : Int) - -(D : Int)).toNat = D - t by omega, dlp, show (-(t : Int) - -1074).toNat = 1074 - t by omega, dbi, dir, Nat.shiftLeft_eq]
  obtain ⟨c, hc, hc1, hc0⟩ := cut_even (mag * 2 ^ (t - D)) (D - t)
  rw [hc]
  have hQ : ∃ Q, mag * 2 ^ (t - D) / 2 ^ (D - t) = Q ∧ Q ≤ n * 2 ^ t ∧ Q < 9007199254740992 ∧ (t < 1074 → 4503599627370496 ≤ Q) := by
    refine ⟨_, rfl, ?_⟩
    have e53 : (2 : Nat) ^ 53 = 9007199254740992 := by decide
    have e52 : (2 : Nat) ^ 52 = 4503599627370496 := by decide
    by_cases g : t ≤ D
    · rw [show t - D = 0 by omega, Nat.pow_zero, Nat.mul_one]
      have eD : 2 ^ D = 2 ^ t * 2 ^ (D - t) := by rw [← Nat.pow_add]; congr 1; omega
      refine ⟨?_, ?_, fun h => ?_⟩
      · refine (Nat.div_le_iff_le_mul_add_pred (pw _)).2 ?_
        have : n * 2 ^ D = 2 ^ (D - t) * (n * 2 ^ t) := by rw [eD, Nat.mul_comm (2 ^ (D - t)), Nat.mul_assoc]
        omega
      · refine (Nat.div_lt_iff_lt_mul (pw _)).2 ?_
        rw [← e53, ← Nat.pow_add]
        exact Nat.lt_of_lt_of_le hl2 (Nat.pow_le_pow_right (by decide) (by omega))
      · refine (Nat.le_div_iff_mul_le (pw _)).2 ?_
        rw [← e52, ← Nat.pow_add]
        refine Nat.le_trans (Nat.pow_le_pow_right (by decide) ?_) hl1
        have := ht4 h
        omega
    · rw [show D - t = 0 by omega, Nat.pow_zero, Nat.div_one]
      have eD : 2 ^ t = 2 ^ D * 2 ^ (t - D) := by rw [← Nat.pow_add]; congr 1; omega
      refine ⟨?_, ?_, fun h => ?_⟩
      · rw [eD, ← Nat.mul_assoc]
        exact Nat.mul_le_mul_right _ hm
      · refine Nat.lt_of_lt_of_le (Nat.mul_lt_mul_of_pos_right hl2 (pw _)) ?_
        rw [← Nat.pow_add, ← e53]
        exact Nat.pow_le_pow_right (by decide) (by omega)
      · refine Nat.le_trans ?_ (Nat.mul_le_mul_right _ hl1)
        rw [← Nat.pow_add, ← e52]
        have := ht4 h
        exact Nat.pow_le_pow_right (by decide) (by omega)
  obtain ⟨Q, eQ, q1, q2, q3⟩ := hQ
  rw [eQ]
  have hkn : Q + c ≤ n * 2 ^ t + 1 := by omega
  have hk1 : Q + c ≤ 9007199254740992 := by omega
  have hk2 : t < 1074 → 4503599627370496 ≤ Q + c := fun h => by have := q3 h; omega
  generalize Q + c = k at *
  clear hc hc1 hc0 eQ q1 q2 q3 hm hl1 hl2 ht ht3 ht4 hl
  have hW : (1074 - t) * 4503599627370496 + k < 9218868437227405312 := by omega
  rw [Nat.min_eq_left (Nat.le_of_lt hW)]
  show ∃ k' s : Nat, rd ((1074 - t) * 4503599627370496 + k) = _ ∧ _
  rw [rd_word, show ((1074 - t) * 4503599627370496 + k) % 9223372036854775808 = (1074 - t) * 4503599627370496 + k by omega, show ((1074 - t) * 4503599627370496 + k) / 9223372036854775808 % 2 = 0 by omega]
  by_cases h1 : (1074 - t) * 4503599627370496 + k < 4503599627370496
  · rw [if_pos h1]
    obtain rfl : t = 1074 := by omega
    refine ⟨k, 1074, ?_, hkn, by decide⟩
    show Datum.number false ((1074 - 1074) * 4503599627370496 + k) (-1074) = _
    rw [show (1074 - 1074) * 4503599627370496 + k = k by omega]; rfl
  · rw [if_neg h1, if_pos hW]
    have hk3 : 4503599627370496 ≤ k := by
      by_cases g : t < 1074
      · exact hk2 g
      · omega
    by_cases g : k = 9007199254740992
    · refine ⟨4503599627370496, t - 1, ?_, ?_, by omega⟩
      · show Datum.number false (4503599627370496 + ((1074 - t) * 4503599627370496 + k) % 4503599627370496) (-1074 + ((((1074 - t) * 4503599627370496 + k) / 4503599627370496 - 1 : Nat) : Int)) = _
        rw [show ((1074 - t) * 4503599627370496 + k) % 4503599627370496 = 0 by omega, show ((1074 - t) * 4503599627370496 + k) / 4503599627370496 = 1074 - t + 2 by omega]
        congr 1
        omega
      · have e : 2 ^ t = 2 ^ (t - 1) * 2 := by rw [← Nat.pow_succ]; congr 1; omega
        rw [e, ← Nat.mul_assoc] at hkn
        omega
    · refine ⟨k, t, ?_, hkn, by omega⟩
      show Datum.number false (4503599627370496 + ((1074 - t) * 4503599627370496 + k) % 4503599627370496) (-1074 + ((((1074 - t) * 4503599627370496 + k) / 4503599627370496 - 1 : Nat) : Int)) = _
      rw [show ((1074 - t) * 4503599627370496 + k) % 4503599627370496 = k - 4503599627370496 by omega, show ((1074 - t) * 4503599627370496 + k) / 4503599627370496 = 1074 - t + 1 by omega, show 4503599627370496 + (k - 4503599627370496) = k by omega]
      congr 1
      omega

theorem times_le {n r : Int} (h0 : 1 ≤ n) (h1 : n ≤ 300) (r0 : 0 ≤ r) (r1 : r ≤ 4607182418800017408) : timesV n r ≤ n := by
  obtain ⟨k, rfl⟩ := Int.eq_ofNat_of_zero_le (show 0 ≤ n by omega)
  obtain ⟨e, he⟩ := near_at (n := k) (by omega) (by omega)
  obtain ⟨R, rfl⟩ := Int.eq_ofNat_of_zero_le r0
  obtain ⟨m, e1, hr, hm, _⟩ := rd_unit (R := R) (by omega)
  have hmag : k * 2 ^ e * m ≤ k * 2 ^ (e + e1) := by
    rw [Nat.pow_add, ← Nat.mul_assoc]
    exact Nat.mul_le_mul_left _ hm
  obtain ⟨q, s, hq, hq1, hs⟩ := nearest_le hmag (by omega) (by omega)
  have hx : fArith .mul (fNear (k : Int)) ((R : Int)).toNat = some (double.nearest false (k * 2 ^ e * m) (-((e + e1 : Nat) : Int))) := by
    rw [fArith_mul, Int.toNat_natCast, he, hr]
    show some (double.nearest (false ^^ false) (k * 2 ^ e * m) (-(e : Int) + -(e1 : Int))) = _
    rw [show -(e : Int) + -(e1 : Int) = -((e + e1 : Nat) : Int) by omega]; rfl
  generalize double.nearest false (k * 2 ^ e * m) (-((e + e1 : Nat) : Int)) = x at *
  have h64 : (fOrd x 4895412794951729152 == some .gt || fOrd x 4895412794951729152 == some .eq) = false := by
    rw [fOrd_eq, hq, rd64]
    refine cmp_nge ?_
    rw [signed_f, signed_f, Int.min_eq_left (by omega), show (-(s : Int) - -(s : Int)).toNat = 0 by omega, show (12 - -(s : Int)).toNat = 12 + s by omega, Nat.pow_zero, Nat.mul_one, Nat.pow_add]
    have h2 : k * 2 ^ s ≤ 300 * 2 ^ s := Nat.mul_le_mul_right _ (by omega)
    have h3 := pw s
    have h4 : 4503599627370496 * (2 ^ 12 * 2 ^ s) = 18446744073709551616 * 2 ^ s := by rw [← Nat.mul_assoc]
    rw [h4]
    omega
  unfold timesV
  rw [hx]
  simp only [h64, cond_false]
  cases (fOrd x 4607182418800017408 == some .gt || fOrd x 4607182418800017408 == some .eq) with
  | false => show (0 : Int) ≤ k; omega
  | true =>
    simp only [cond_true]
    rw [fInt_eq, hq, toInt_num, show (-(s : Int)).toNat = 0 by omega, show (- -(s : Int)).toNat = s by omega, Nat.pow_zero, Nat.mul_one, cut_zero, div_min]
    have : q / 2 ^ s ≤ k := by
      refine (Nat.div_le_iff_le_mul_add_pred (pw _)).2 ?_
      have h2 : 2 ≤ 2 ^ s := by
        have := Nat.pow_le_pow_right (n := 2) (by decide) hs
        simpa using this
      rw [Nat.mul_comm (2 ^ s)]
      omega
    show ((q / 2 ^ s : Nat) : Int) ≤ k
    omega
end Go.Sh


set_option linter.all false
set_option maxRecDepth 8000
set_option maxHeartbeats 4000000
namespace Go.Sh

section
variable {E : Env} {w : World} {Rs Z : List Pr}

theorem times_spec (H : Sat Z w) {n r : Int} {K : Int → World → Prop} (hK : ∀ w', Sat Z w' → K (timesV n r) w') : F.ratio_Times E n r K w := by
  unfold F.ratio_Times F.math_Float64frombits
  have main : ∀ (x : Nat) w', Sat Z w' → (bif (fOrd x 4895412794951729152 == some .gt || fOrd x 4895412794951729152 == some .eq) then (18446744073709551615 : Int) else bif (fOrd x 4607182418800017408 == some .gt || fOrd x 4607182418800017408 == some .eq) then (fInt x).getD 0 else 0) = timesV n r →
      CND ((fOrd x 4895412794951729152 == some .gt || fOrd x 4895412794951729152 == some .eq)) (K 18446744073709551615 w')
        (CND ((fOrd x 4607182418800017408 == some .gt || fOrd x 4607182418800017408 == some .eq)) (∃ n5 : Int, fInt x = some n5 ∧ (IntKind.min .u64 ≤ n5 ∧ n5 ≤ IntKind.max .u64) ∧ K n5 w') (K 0 w')) := by
    intro x w' H' e
    have hk := hK w' H'
    refine CND_intro (fun h2 => ?_) fun h2 => CND_intro (fun h1 => ?_) fun h1 => ?_
    · rw [h2] at e
      rw [← e] at hk; exact hk
    · obtain ⟨k, hk1, hk2⟩ := fint_ok h1 (by rw [h2]; decide)
      refine ⟨k, hk1, ⟨by show (0 : Int) ≤ k; omega, by show (k : Int) ≤ 18446744073709551615; omega⟩, ?_⟩
      rw [h2, h1, cond_false, cond_true, hk1] at e
      rw [← e] at hk; exact hk
    · rw [h2, h1, cond_false, cond_false] at e
      rw [← e] at hk; exact hk
  have key : FRES (fArith .mul (fNear n) r.toNat) w fun x3 w4 =>
      CND ((fOrd x3 4895412794951729152 == some .gt || fOrd x3 4895412794951729152 == some .eq)) (K 18446744073709551615 w4)
        (CND ((fOrd x3 4607182418800017408 == some .gt || fOrd x3 4607182418800017408 == some .eq)) (∃ n5 : Int, fInt x3 = some n5 ∧ (IntKind.min .u64 ≤ n5 ∧ n5 ≤ IntKind.max .u64) ∧ K n5 w4) (K 0 w4)) := by
    cases hx : fArith .mul (fNear n) r.toNat with
    | some x =>
      refine main x w H ?_
      unfold timesV; rw [hx]
    | none =>
      intro t
      refine main (nanP t) w.drew H.drew ?_
      rw [nan_ord, nan_ord, timesV_none hx]; rfl
  exact key

theorem newfin22 {b1 t1 : Nat} {us : List Value} {s0 s1 s2 : SlV} {pl : List Int} {rf : List Bool} {fl : List Int} (hpl : ∀ x ∈ pl, 0 ≤ x ∧ x < 18446744073709551616)
    (k0 : pl.length ≤ 1099511627776) (k1 : rf.length ≤ 1099511627776) (k2 : fl.length ≤ 1099511627776)
    {K : Option Addr → World → Prop} (hK : ∀ b w', Sat (VmemP E b (newV pl rf fl) :: Rs) w' → K (some ⟨b, 0, none⟩) w')
    (H : Sat (Cells b1 t1 us :: Row E.t_uint64 1 s0 (ints .u64 pl) :: Row E.t_bool 1 s1 (bools rf) :: Row E.t_uint64 1 s2 (ints .u64 fl) :: Rs) w) : F.vmem_New E s0 s1 s2 K w := by
  have e0 : pl.length = s0.len := by have := (H.front 1 rfl).rowLen; rw [ints, List.length_map] at this; omega
  have e1 : rf.length = s1.len := by have := (H.front 2 rfl).rowLen; rw [bools, List.length_map] at this; omega
  have e2 : fl.length = s2.len := by have := (H.front 3 rfl).rowLen; rw [ints, List.length_map] at this; omega
  refine vnew_spec H hpl (fun w' h => by simpa using (h.front 1 rfl).rowAll) e0 (by omega) (fun w' h => by simpa using (h.front 2 rfl).rowAll) e1 (by omega) (fun w' h => by simpa using (h.front 3 rfl).rowAll) e2 (by omega) fun b w11 H11 => hK b w11 ?_
  exact ((((H11.front 1 rfl).tail.front 1 rfl).tail.front 1 rfl).tail.front 1 rfl).tail

theorem fresh22_spec (H : Sat Rs w) {a0 a1 a2 : SlV} {pl : List Int} {rf : List Bool} {fl : List Int} (hpl : ∀ x ∈ pl, 0 ≤ x ∧ x < 18446744073709551616)
    (h0 : ∀ w', Sat Rs w' → rowAt w' a0.base a0.len (ints .u64 pl)) (l0 : pl.length = a0.len) (k0 : a0.len ≤ 1099511627776)
    (h1 : ∀ w', Sat Rs w' → rowAt w' a1.base a1.len (bools rf)) (l1 : rf.length = a1.len) (k1 : a1.len ≤ 1099511627776)
    (h2 : ∀ w', Sat Rs w' → rowAt w' a2.base a2.len (ints .u64 fl)) (l2 : fl.length = a2.len) (k2 : a2.len ≤ 1099511627776)
    {K : Option Addr → World → Prop} (hK : ∀ h w', Sat (HeapP E h (HS.new (newV pl rf fl)) :: Rs) w' → K (some ⟨h, 0, none⟩) w') : F.mallowlaw22_fresh E a0 a1 a2 K w := by
  unfold F.mallowlaw22_fresh
  have l0' : (ints IntKind.u64 pl).length = a0.len := by rw [ints, List.length_map]; exact l0
  have l1' : (bools rf).length = a1.len := by rw [bools, List.length_map]; exact l1
  have l2' : (ints IntKind.u64 fl).length = a2.len := by rw [ints, List.length_map]; exact l2
  refine AL_cells (vs := [slV a0, slV a1, slV a2]) H fun b1 w2 H2 _ => ?_
  refine JOIN_intro (fun st w' => ∃ b, st.1 = some ⟨b, 0, none⟩ ∧ Sat (VmemP E b (newV pl rf fl) :: Rs) w') ?_ ?_
  · have Hd : Sat (Cells b1 E.t_api_Answers [slV a0, slV a1, slV a2] :: Emp :: Emp :: Emp :: Rs) w2.drew := (H2.drew.emp.emp.emp).front 3 rfl
    clear H2
    have t4 : ∀ {P0 P1 P2 : Pr} {w'}, Sat (P0 :: P1 :: P2 :: Rs) w' → Sat Rs w' := fun h => h.tail.tail.tail
    refine ⟨a0, Hd.cell0 rfl, a1, Hd.cell rfl, a2, Hd.cell rfl, ?_⟩
    repeat' first
      | (exact Sat.cell (by assumption) (by rfl))
      | (exact Sat.cell0 (by assumption) (by rfl))
      | (refine app_slotG 1 (a := a0) (vs := ints .u64 pl) (by assumption) (by rfl) rfl (by intro w' h; exact h0 w' (t4 h)) l0' k0 (by decide) (oneIntsG _ _) fun s' w' H' => ?_)
      | (refine app_slotG 1 (a := a2) (vs := ints .u64 fl) (by assumption) (by rfl) rfl (by intro w' h; exact h2 w' (t4 h)) l2' k2 (by decide) (oneIntsG _ _) fun s' w' H' => ?_)
      | (refine app_slotG 2 (a := a1) (vs := bools rf) (by assumption) (by rfl) rfl (by intro w' h; exact h1 w' (t4 h)) l1' k1 (by decide) (oneBoolsG _) fun s' w' H' => ?_)
      | (refine app_slotG 3 (a := a0) (vs := ints .u64 pl) (by assumption) (by rfl) rfl (by intro w' h; exact h0 w' (t4 h)) l0' k0 (by decide) (oneIntsG _ _) fun s' w' H' => ?_)
      | (refine app_slotG 3 (a := a2) (vs := ints .u64 fl) (by assumption) (by rfl) rfl (by intro w' h; exact h2 w' (t4 h)) l2' k2 (by decide) (oneIntsG _ _) fun s' w' H' => ?_)
      | (refine al_slotG 2 (t := E.t_bool) (by assumption) (by rfl) fun b' w' H' => ?_)
      | (refine al_slotG 1 (t := E.t_uint64) (by assumption) (by rfl) fun b' w' H' => ?_)
      | (refine al_slotG 3 (t := E.t_uint64) (by assumption) (by rfl) fun b' w' H' => ?_)
      | (exact newfin22 hpl (by omega) (by omega) (by omega) (fun b w' h => ⟨b, rfl, h⟩) (by assumption))
      | (exact newfin22 hpl (by omega) (by omega) (by omega) (fun b w' h => ⟨b, rfl, h⟩) (Sat.perm (by assumption) (.cons _ (((List.Perm.swap _ _ _).trans (.cons _ (.swap _ _ _))).trans (.swap _ _ _)))))
      | (refine And.intro ?_ ?_)
  · rintro ⟨r, u⟩ _ w5 ⟨b, rfl, H5⟩
    exact CND_f rfl (hnew_spec H5 fun h w13 H13 => hK h w13 H13)

theorem fresh22_nil (H : Sat Rs w) {K : Option Addr → World → Prop} (hK : ∀ h w', Sat (HeapP E h (HS.new (newV [] [] [])) :: Rs) w' → K (some ⟨h, 0, none⟩) w') : F.mallowlaw22_fresh E ⟨none, 0, 0⟩ ⟨none, 0, 0⟩ ⟨none, 0, 0⟩ K w :=
  fresh22_spec (a0 := ⟨none, 0, 0⟩) (a1 := ⟨none, 0, 0⟩) (a2 := ⟨none, 0, 0⟩) H (pl := []) (rf := []) (fl := []) (by simp) (fun _ _ => show ([] : List Value) = [] from rfl) rfl (by decide) (fun _ _ => show ([] : List Value) = [] from rfl) rfl (by decide) (fun _ _ => show ([] : List Value) = [] from rfl) rfl (by decide) hK
end

structure Sc (S : HS) (x y b : Int) : Prop where
  inv : HInv S no
  la : LaidB S b
  id : ∀ q, S.T.idle q = true ↔ x ≤ q ∧ q < y
  x0 : 512 ≤ x
  xy : x ≤ y
  yb : y ≤ 1048576
  ce : ∀ j, (S.ca j).empty

structure RfC (S : HS) (i : Nat) (next b : Int) : Prop where
  st : RfSt S i next b []
  ce : ∀ j, (S.ca j).empty

section
variable {S S2 S' : HS} {n page x y b next : Int} {i : Nat}

theorem RfC.new : RfC (HS.new (newV [] [] [])) 0 512 512 := ⟨RfSt.new [], fun j k => rfl⟩

theorem RfC.keep (h : RfC S i next b) (hk : HOk S) (hn : 1 ≤ n) (hb : b + upN n ≤ 34359738368) (hf : Found S (-1) n page S2) {id : Int} {X : FX} (hX : Next S2 id X) {z : Nat × SI} (hI : HInv (S2.keep id z page n X) no) :
    page = next ∧ id = (i : Int) + 1 ∧ X = ⟨i + 1, []⟩ ∧ RfC (S2.keep id z page n X) (i + 1) (next + n) (nextB next b n) := by
  obtain ⟨rfl, h1, h2, _, h4, _⟩ := h.st.keep hk hk.clr hn hb hf hX hI
  rw [List.drop_nil] at h4
  obtain ⟨_, _, _, _, _, _, k6, _, _⟩ := hf.clr.row (a := page) h.st.la hk.clr h.st.fr h.st.le hn hb (fun S0 ht => tried_no (by omega) ht) fun S0 pg ht => got_no (by omega) ht
  have k6 : S2.ca = S.ca := k6
  refine ⟨rfl, h1, h2, h4, fun j => ?_⟩
  show (S2.ca j).empty
  rw [k6]; exact h.ce j

theorem idle_iff {T : TV} {q : Int} : T.idle q = true ↔ T.fr q = true ∧ ¬ T.rl q = true := by
  unfold TV.idle
  cases T.fr q <;> cases T.rl q <;> simp

theorem RfC.sc (h : RfC S i next b) (hb : next ≤ 1048576) : Sc S next next b :=
  ⟨h.st.inv, h.st.laid, fun q => by rw [idle_iff, h.st.gn.rl]; exact ⟨fun h => absurd h.1 h.2, fun h => by omega⟩, h.st.lo, Int.le_refl _, hb, h.ce⟩

theorem RfC.free (h : RfC S i next b) {a : Nat} (hI : HInv (S.free a page n) no) (h0 : 512 ≤ page) (hn : 0 ≤ n) (h1 : page + n ≤ next) (hb : next ≤ 1048576) : Sc (S.free a page n) page (page + n) b := by
  refine ⟨hI, h.st.laid.sameV rfl rfl, fun q => ?_, h0, by omega, by omega, h.ce⟩
  rw [idle_iff]
  show (S.T.fr q || inr page n q) = true ∧ ¬ S.T.rl q = true ↔ _
  rw [h.st.gn.rl, Bool.or_eq_true, inr_iff]
  have := h.st.fr q
  constructor
  · rintro ⟨h1 | h1, h2⟩
    · exact absurd h1 h2
    · exact h1
  · intro h2
    exact ⟨.inr h2, fun h3 => by have := this.1 h3; omega⟩

theorem Sc.count (h : Sc S x y b) (hk : HOk S) : cP S.T.inn - cP S.gone = S.pages + (y - x) := by
  have hI := h.inv
  have x0 := h.x0
  have xy := h.xy
  have yb := h.yb
  have hg : ∀ p, S.gone p = true ↔ S.T.rl p = true := fun p => by
    rw [gone_iff]
    refine ⟨fun g => g.elim (fun g => g) fun ⟨i, hi, g⟩ => ?_, .inl⟩
    have := ownR_own (hk.ci i hi) g
    rw [own_emp (h.ce i)] at this; cases this
  have hc : ∀ p, ¬ S.cached p = true := fun p g => by
    obtain ⟨i, hi, g⟩ := cached_iff.1 g
    rw [own_emp (h.ce i)] at g; cases g
  have e1 : cP S.T.inn = cP S.gone + cP fun p => decide (0 < S.own p) || S.T.idle p := by
    refine cP_or (fun p => ?_) fun p a b => ?_
    · rw [Bool.eq_iff_iff, Bool.or_eq_true, Bool.or_eq_true, decide_eq_true_eq, hg, idle_iff]
      constructor
      · intro g
        rcases hI.cv p g with g | g | g | g
        · by_cases e : S.T.rl p = true
          · exact .inl e
          · exact .inr (.inr ⟨g, e⟩)
        · exact absurd g (hc p)
        · exact .inr (.inl g)
        · cases g
      · rintro (g | g | g)
        · exact hk.tv.fi p (hk.tv.rf p g)
        · exact (hI.ow p g).1
        · exact hk.tv.fi p g.1
    · have a' := hk.tv.rf p ((hg p).1 a)
      have := (hI.fn p a').1
      rw [Bool.or_eq_true, decide_eq_true_eq, idle_iff] at b
      rcases b with b | b
      · omega
      · exact b.2 ((hg p).1 a)
  have e2 : (cP fun p => decide (0 < S.own p) || S.T.idle p) = (cP fun p => decide (0 < S.own p)) + cP fun p => S.T.idle p := by
    refine cP_or (fun p => rfl) fun p a b => ?_
    have a := of_decide_eq_true a
    have := (hI.fn p (idle_iff.1 b).1).1
    omega
  have e3 : (cP fun p => S.T.idle p) = y - x := by
    rw [← cP_row (x := x) (n := y - x) (by omega) (by omega) (by omega)]
    refine cP_congr fun p _ _ => ?_
    rw [Bool.eq_iff_iff, h.id, inr_iff]; omega
  rw [e1, e2, e3, hI.pg]
  omega

theorem Sc.scav (h : Sc S x y b) (hk : HOk S) {m : Int} (n0 : 0 ≤ n) (hs : Scavd S n S' m) (hI' : HInv S' no) : m = min n (y - x) ∧ Sc S' x (y - m) b ∧ ScavR S S' (y - m) y := by
  have x0 := h.x0
  have xy := h.xy
  have yb := h.yb
  obtain ⟨d1, d2⟩ := hs.row h.id h.xy (by omega) (by omega) n0 hk.vv.ok3
  refine ⟨d1, ⟨hI', ⟨fun q => by rw [d2.laid]; exact h.la.la q, h.la.b0, h.la.b1, by rw [d2.hint]; exact h.la.h0, by rw [d2.hint]; exact h.la.h1, by rw [d2.pl]; exact h.la.pl, by rw [d2.rf]; exact h.la.rf⟩, fun q => ?_, x0, by omega, by omega, fun j => by rw [d2.ca]; exact h.ce j⟩, d2⟩
  have h0 := h.id q
  rw [idle_iff] at h0
  rw [idle_iff, d2.fr, d2.rl]
  constructor
  · rintro ⟨q1, q2⟩
    have := h0.1 ⟨q1, fun h => q2 (.inl h)⟩
    have : ¬ (y - m ≤ q ∧ q < y) := fun h => q2 (.inr h)
    omega
  · intro q1
    have := h0.2 (by omega)
    exact ⟨this.1, fun h => h.elim this.2 fun h => by omega⟩
end

noncomputable def wantV (u d r : Int) : Int := if u + d ≤ maxI u (timesV u r) then 0 else u + d - maxI u (timesV u r)

theorem maxI_le (a b : Int) : a ≤ maxI a b ∧ b ≤ maxI a b ∧ (maxI a b = a ∨ maxI a b = b) := by unfold maxI; split <;> omega
theorem wantV_bnd {u d : Int} (r : Int) (hd : 0 ≤ d) : 0 ≤ wantV u d r ∧ wantV u d r ≤ d := by
  unfold wantV
  have := maxI_le u (timesV u r)
  split <;> omega

section
variable {E : Env} {w : World} {Z : List Pr} {h pb tp : Nat} {S : HS} {x y b r : Int}

theorem pwant_spec (H : Sat (HeapP E h S :: Cells pb tp [.pointer (some ⟨h, 0, none⟩), .int .u64 r] :: Z) w) (hS : Sc S x y b) {K : Int → World → Prop}
    (hK : ∀ w', Sat (HeapP E h S :: Cells pb tp [.pointer (some ⟨h, 0, none⟩), .int .u64 r] :: Z) w' → K (wantV S.pages (y - x) r) w') : F.scav_Pacer_Want E (some ⟨pb, 0, none⟩) K w := by
  unfold F.scav_Pacer_Want
  simp only [NC_some]
  refine ⟨_, (H.front 1 rfl).cell0 rfl, hpages_spec H hS.inv fun w6 H6 => ⟨_, (H6.front 1 rfl).cell rfl, ?_⟩⟩
  have hc := hS.count H6.hok
  have hp : 0 ≤ S.pages ∧ S.pages ≤ 34359738368 := by rw [hS.inv.pg]; exact cP_bnd _
  have xy := hS.xy
  have yb := hS.yb
  have x0 := hS.x0
  have hb := times_bnd S.pages r
  rw [hc]
  clear hc
  have hm := maxI_le S.pages (timesV S.pages r)
  refine times_spec H6 fun w10 H10 => ?_
  have hk := hK w10 H10
  unfold wantV at hk
  rw [u64_id (n := S.pages + (y - x)) (by omega) (by omega)]
  refine CND_dec (fun g => ?_) fun g => ?_
  · rw [if_pos g] at hk; exact hk
  · rw [if_neg g] at hk
    show K (u64 (S.pages + (y - x) - maxI S.pages (timesV S.pages r))) w10
    rw [u64_id (by omega) (by omega)]; exact hk

variable (hE : EnvA E)
include hE

theorem pstep_spec (H : Sat (HeapP E h S :: Cells pb tp [.pointer (some ⟨h, 0, none⟩), .int .u64 r] :: Z) w) (hS : Sc S x y b) {most : Int} (m0 : 0 ≤ most) {K : Int → World → Prop}
    (hK : ∀ S' m w', m = min (min (wantV S.pages (y - x) r) most) (y - x) → Sc S' x (y - m) b → ScavR S S' (y - m) y → Sat (HeapP E h S' :: Cells pb tp [.pointer (some ⟨h, 0, none⟩), .int .u64 r] :: Z) w' → K m w') : F.scav_Pacer_Step E (some ⟨pb, 0, none⟩) most K w := by
  unfold F.scav_Pacer_Step
  simp only [NC_some]
  refine ⟨_, (H.drew.front 1 rfl).cell0 rfl, pwant_spec H.drew hS fun w4 H4 => ⟨(H4.front 1 rfl).cell0 rfl, ?_⟩⟩
  have xy := hS.xy
  have yb := hS.yb
  have x0 := hS.x0
  have hw := wantV_bnd (u := S.pages) (d := y - x) r (by omega)
  have e : minI (wantV S.pages (y - x) r) most = min (wantV S.pages (y - x) r) most := by unfold minI; split <;> omega
  rw [e]
  refine hscav_spec hE H4 hS.inv (by omega) (by omega) fun S' m hs _ _ hI' w6 H6 => ?_
  obtain ⟨d1, d2, d3⟩ := hS.scav H4.hok (by omega) hs hI'
  exact hK S' m w6 d1 d2 d3 H6

theorem plimit_spec (H : Sat (HeapP E h S :: Cells pb tp [.pointer (some ⟨h, 0, none⟩), .int .u64 r] :: Z) w) (hS : Sc S x y b) {bytes : Int} (m0 : 0 ≤ bytes) (m1 : bytes < 18446744073709551616) {K : Int → World → Prop}
    (hK0 : (S.pages + (y - x)) * 8192 ≤ bytes → ∀ w', Sat (HeapP E h S :: Cells pb tp [.pointer (some ⟨h, 0, none⟩), .int .u64 r] :: Z) w' → K 0 w')
    (hK : bytes < (S.pages + (y - x)) * 8192 → ∀ S' m w', m = min (((S.pages + (y - x)) * 8192 - bytes + 8191) / 8192) (y - x) → Sc S' x (y - m) b → ScavR S S' (y - m) y → Sat (HeapP E h S' :: Cells pb tp [.pointer (some ⟨h, 0, none⟩), .int .u64 r] :: Z) w' → K m w') : F.scav_Pacer_Limit E (some ⟨pb, 0, none⟩) bytes K w := by
  unfold F.scav_Pacer_Limit
  simp only [NC_some]
  refine ⟨_, (H.front 1 rfl).cell0 rfl, hpages_spec H hS.inv fun w6 H6 => ?_⟩
  have hc := hS.count H6.hok
  have hp : 0 ≤ S.pages ∧ S.pages ≤ 34359738368 := by rw [hS.inv.pg]; exact cP_bnd _
  have xy := hS.xy
  have yb := hS.yb
  have x0 := hS.x0
  rw [hc]
  clear hc
  refine LET_intro fun t ht => ?_
  rw [u64_id (n := S.pages + (y - x)) (by omega) (by omega), u64_id (n := (S.pages + (y - x)) * 8192) (by omega) (by omega)] at ht
  subst ht
  refine CND_dec (fun g => hK0 g w6 H6) fun g => ⟨_, (H6.front 1 rfl).cell0 rfl, by decide, ?_⟩
  rw [u64_id (n := (S.pages + (y - x)) * 8192 - bytes) (by omega) (by omega), u64_id (n := (S.pages + (y - x)) * 8192 - bytes + 8192) (by omega) (by omega), u64_id (n := (S.pages + (y - x)) * 8192 - bytes + 8192 - 1) (by omega) (by omega), Int.tdiv_eq_ediv_of_nonneg (by omega), u64_id (by omega) (by omega)]
  refine hscav_spec hE H6 hS.inv (by omega) (by omega) fun S' m hs _ _ hI' w11 H11 => ?_
  obtain ⟨d1, d2, d3⟩ := hS.scav H6.hok (by omega) hs hI'
  exact hK (by omega) S' m w11 (by rw [d1]; congr 2; omega) d2 d3 H11
end
end Go.Sh

