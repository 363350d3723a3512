/- What the heap's laws share. No further condition. -/
import Derived.Test.YthhljkidhpnccaaGreatDoorH
import Derived.Test.YthhljkidhpnccaaGreatDoorY
import Derived.Test.YthhljkidhpnccaaGreatDoorA
import Derived.Test.YthhljkidhpnccaaGreatDoorC
import Derived.Test.YthhljkidhpnccaaGreatDoorR
set_option linter.all false
set_option maxRecDepth 8000
set_option maxHeartbeats 2000000
namespace Go.Sh
theorem Found.induct {P : HS -> Prop} {S S2 : HS} {p n page : Int} (hS : P S) (h1 : ∀ S i q, i < 64 -> P S -> P (S.fill i q)) (h2 : ∀ S i k n, P S -> P (S.calloc i k n)) (h3 : ∀ S page n, P S -> P (S.talloc page n))
    (h4 : ∀ S V at_ N, P S -> P (S.grown V at_ N)) (h5 : ∀ S V, P S -> P { S with V := V }) (h : Found S p n page S2) : P S2 := by
  have hf : ∀ {i S1}, i < 64 -> Filled S i S1 -> P S1 := fun {i S1} hi h => by
    rcases h with ⟨_, q, _, rfl⟩ | ⟨_, rfl⟩
    · exact h1 _ _ _ hi hS
    · exact hS
  have ht : ∀ {S1}, Tried S p n S1 -> P S1 := fun {S1} h => by
    rcases h with ⟨_, rfl⟩ | ⟨i, hi, _, _, h, _⟩
    · exact hS
    · exact hf hi h
  obtain ⟨S1, hk, hm⟩ := h
  have hP1 : P S1 := by
    rcases hk with (⟨S0, i, k, hi, _, _, hfl, _, _, _, _, rfl⟩ | ⟨S0, htr, _, rfl⟩) | ⟨S0, S0', htr, _, ⟨_, at_, _, rfl⟩, _, rfl⟩
    · exact h2 _ _ _ _ (hf hi hfl)
    · exact h3 _ _ _ (ht htr)
    · exact h3 _ _ _ (h4 _ _ _ _ (ht htr))
  rcases hm with ⟨_, rfl⟩ | ⟨_, _, rfl⟩
  · exact hP1
  · exact h5 _ _ hP1
structure Same (S S2 : HS) : Prop where
  sp : S2.sp = S.sp
  own : S2.own = S.own
  fx : S2.fx = S.fx
  pages : S2.pages = S.pages
theorem Found.same {S S2 : HS} {p n page : Int} (h : Found S p n page S2) : Same S S2 :=
  h.induct (P := Same S) ⟨rfl, rfl, rfl, rfl⟩ (fun _ _ _ _ h => ⟨h.sp, h.own, h.fx, h.pages⟩) (fun _ _ _ _ h => ⟨h.sp, h.own, h.fx, h.pages⟩) (fun _ _ _ h => ⟨h.sp, h.own, h.fx, h.pages⟩) (fun _ _ _ _ h => ⟨h.sp, h.own, h.fx, h.pages⟩) fun _ _ h => ⟨h.sp, h.own, h.fx, h.pages⟩
structure Gn (S : HS) : Prop where
  rl : ∀ p, S.T.rl p = S.T.fr p
  re : ∀ i k, (S.ca i).rel k = (S.ca i).has k
theorem Gn.fill {S : HS} (h : Gn S) (i : Nat) (q : Int) : Gn (S.fill i q) := by
  refine ⟨fun p => ?_, fun j k => ?_⟩
  · show (S.T.rl p && _) = (S.T.fr p && _)
    rw [h.rl]
  · show (if j = i then filled S.T q else S.ca j).rel k = (if j = i then filled S.T q else S.ca j).has k
    by_cases e : j = i
    · rw [if_pos e]
      show (decide _ && S.T.rl _) = (decide _ && S.T.fr _)
      rw [h.rl]
    · rw [if_neg e]; exact h.re j k
theorem Gn.calloc {S : HS} (h : Gn S) (i k n : Nat) : Gn (S.calloc i k n) := by
  refine ⟨h.rl, fun j m => ?_⟩
  show (if j = i then (S.ca i).alloc k n else S.ca j).rel m = (if j = i then (S.ca i).alloc k n else S.ca j).has m
  by_cases e : j = i
  · rw [if_pos e]
    show ((S.ca i).rel m && _) = ((S.ca i).has m && _)
    rw [h.re]
  · rw [if_neg e]; exact h.re j m
theorem Gn.talloc {S : HS} (h : Gn S) (page n : Int) : Gn (S.talloc page n) := ⟨fun p => by show (S.T.rl p && _) = (S.T.fr p && _); rw [h.rl], h.re⟩
theorem Gn.grown {S : HS} (h : Gn S) (V : VS) (at_ N : Int) : Gn (S.grown V at_ N) := ⟨fun p => by show (S.T.rl p || _) = (S.T.fr p || _); rw [h.rl], h.re⟩
theorem Found.gn {S S2 : HS} {p n page : Int} (h : Found S p n page S2) (hS : Gn S) : Gn S2 :=
  h.induct (P := Gn) hS (fun _ i q _ h => h.fill i q) (fun _ i k n h => h.calloc i k n) (fun _ p n h => h.talloc p n) (fun _ V a N h => h.grown V a N) fun _ _ h => ⟨h.rl, h.re⟩
theorem Gn.keep {S : HS} (h : Gn S) (id : Int) (x : Nat × SI) (page n : Int) (X : FX) : Gn (S.keep id x page n X) := ⟨h.rl, h.re⟩
theorem Gn.new (V : VS) : Gn (HS.new V) := ⟨fun _ => rfl, fun _ _ => rfl⟩
structure LaidB (S : HS) (b : Int) : Prop where
  la : ∀ p, mem S.V.laid p ↔ 512 <= p /\ p < b
  b0 : 512 <= b
  b1 : b % 512 = 0
  h0 : 0 <= S.hint
  h1 : S.hint <= b
  pl : S.V.pl = []
  rf : S.V.rf = []
theorem LaidB.new (fl : List Int) : LaidB (HS.new (newV [] [] fl)) 512 := ⟨fun p => ⟨fun h => absurd h (mem_nil p), fun h => by omega⟩, Int.le_refl _, rfl, Int.le_refl _, by show (0 : Int) <= 512; decide, rfl, rfl⟩
section
variable {S S2 : HS} {b p n page : Int}
theorem upN_le (n : Int) : n <= upN n /\ upN n < n + 512 /\ upN n % 512 = 0 := by unfold upN; omega
theorem LaidB.placed (h : LaidB S b) {hint N at_ : Int} (hN : 0 < N) (hh : hint <= b) (hp : Placed S.V.laid hint N at_) : at_ = b := by
  have h1 := hp.low
  have h2 := hp.mul
  have b0 := h.b0
  have b1 := h.b1
  by_cases g : b < at_
  · obtain ⟨m, m1, m2, m3⟩ := hp.first b b1 b0 hh g
    have := (h.la m).1 m3
    omega
  · by_cases g2 : at_ < b
    · exact absurd ((h.la at_).2 ⟨h1, g2⟩) (hp.free at_ (Int.le_refl _) (by omega))
    · omega
theorem LaidB.chosen (h : LaidB S b) {N at_ : Int} (hN : 0 < N) (hc : Chosen S.V S.hint N at_) : at_ = b := by
  have := h.h0
  have := h.h1
  rcases hc with ⟨p, r, e, _⟩ | ⟨_, ⟨_, h1, _⟩ | ⟨_, _, h1, _⟩⟩
  · rw [h.pl] at e; cases e
  · exact h.placed hN (by omega) h1
  · exact h.placed hN (by have := h.b0; omega) h1
theorem LaidB.unplaced (h : LaidB S b) {N : Int} (hN : 0 < N) (hb : b + N <= 34359738368) (hu : Unplaced S.V S.hint N) : False := by
  have := h.h1
  obtain ⟨_, g | ⟨a, g1, g2⟩, _⟩ := hu
  · omega
  · have := h.placed hN h.h1 g1
    omega
theorem LaidB.sameV (h : LaidB S b) (e1 : S2.V = S.V) (e2 : S2.hint = S.hint) : LaidB S2 b := ⟨by rw [e1]; exact h.la, h.b0, h.b1, by rw [e2]; exact h.h0, by rw [e2]; exact h.h1, by rw [e1]; exact h.pl, by rw [e1]; exact h.rf⟩
theorem Filled.V {i : Nat} (h : Filled S i S2) : S2.V = S.V /\ S2.hint = S.hint := by
  rcases h with ⟨_, q, _, rfl⟩ | ⟨_, rfl⟩ <;> exact ⟨rfl, rfl⟩
theorem Tried.V (h : Tried S p n S2) : S2.V = S.V /\ S2.hint = S.hint := by
  rcases h with ⟨_, rfl⟩ | ⟨i, _, _, _, h, _⟩
  · exact ⟨rfl, rfl⟩
  · exact h.V
theorem LaidB.made (h : LaidB S b) (hm : Made S page n S2) : LaidB S2 b := by
  rcases hm with ⟨_, rfl⟩ | ⟨_, _, rfl⟩
  · exact h
  · exact ⟨h.la, h.b0, h.b1, h.h0, h.h1, h.pl, by show S.V.rf.tail = []; rw [h.rf]; rfl⟩
theorem HOk.laidOnly (hk : HOk S) (h : Tried S p n S2) : Ok S2.V.laid := by rw [h.V.1]; exact hk.vv.ok1
theorem LaidB.grew' (h : LaidB S b) (hk : Ok S.V.laid) (hn : 1 <= n) (hg : Grew S n S2) (hb : b + upN n <= 34359738368) : LaidB S2 (b + upN n) /\ S2 = S.grown { S.V with rf := S.V.rf.tail, pl := S.V.pl.tail, laid := addL S.V.laid b (b + upN n) } b (upN n) := by
  obtain ⟨_, at_, hc, rfl⟩ := hg
  have hu := upN_le n
  have b0 := h.b0
  have b1 := h.b1
  have := h.chosen (by omega) hc
  subst this
  refine ⟨⟨fun q => ?_, by omega, by omega, by show 0 <= at_ + upN n; omega, Int.le_refl _, by show S.V.pl.tail = []; rw [h.pl]; rfl, by show S.V.rf.tail = []; rw [h.rf]; rfl⟩, rfl⟩
  refine (mem_addL hk (by omega) (by omega) (by omega) q).trans ?_
  rw [h.la]; omega
theorem Found.laid (h : Found S p n page S2) (hL : LaidB S b) (hk : HOk S) (hn : 1 <= n) (hb : b + upN n <= 34359738368) : ∃ b', (b' = b ∨ b' = b + upN n) /\ LaidB S2 b' := by
  obtain ⟨S1, h, hm⟩ := h
  rcases h with (⟨S0, i, k, hi, _, _, hfl, _, _, _, _, rfl⟩ | ⟨S0, htr, _, rfl⟩) | ⟨S0, S0', htr, _, hg, _, rfl⟩
  · exact ⟨b, .inl rfl, ((hL.sameV hfl.V.1 hfl.V.2).sameV rfl rfl : LaidB (S0.calloc i k n.toNat) b).made hm⟩
  · exact ⟨b, .inl rfl, ((hL.sameV htr.V.1 htr.V.2).sameV rfl rfl : LaidB (S0.talloc page n) b).made hm⟩
  · obtain ⟨h1, _⟩ := (hL.sameV htr.V.1 htr.V.2).grew' (hk.laidOnly htr) hn hg hb
    exact ⟨b + upN n, .inr rfl, (h1.sameV rfl rfl : LaidB (S0'.talloc page n) (b + upN n)).made hm⟩
theorem LaidB.lost (hL : LaidB S b) (hn : 1 <= n) (hb : b + upN n <= 34359738368) (h : Lost S p n S2) : False := by
  have hu := upN_le n
  rcases h with ⟨S0, htr, _, ⟨r, hr, _⟩ | ⟨_, hup, _⟩⟩ | ⟨S1, page, r, hk, _, hr, _⟩
  · rw [(hL.sameV htr.V.1 htr.V.2).rf] at hr; cases hr
  · exact (hL.sameV htr.V.1 htr.V.2).unplaced (by omega) hb hup
  · have e : S1.V.rf = [] := by
      rcases hk with (⟨S0, i, k, hi, _, _, hfl, _, _, _, _, rfl⟩ | ⟨S0, htr, _, rfl⟩) | ⟨S0, S0', htr, _, ⟨_, at_, hc, rfl⟩, _, rfl⟩
      · show S0.V.rf = []
        rw [hfl.V.1]; exact hL.rf
      · show S0.V.rf = []
        rw [htr.V.1]; exact hL.rf
      · show S0.V.rf.tail = []
        rw [htr.V.1, hL.rf]; rfl
    rw [e] at hr; cases hr
def FrR (S : HS) (a b : Int) : Prop := ∀ p, S.T.fr p = true ↔ a <= p /\ p < b
theorem FrR.first {a : Int} (h : FrR S a b) (hn : 1 <= n) (hf : firstB S.T n page) : page = a /\ a + n <= b := by
  obtain ⟨_, _, h1, h2⟩ := hf
  have q1 := (h page).1 (h1 page (Int.le_refl _) (by omega))
  have q2 := (h (page + n - 1)).1 (h1 (page + n - 1) (by omega) (by omega))
  have := h2 a fun m m1 m2 => (h m).2 (by omega)
  omega
theorem FrR.none {a : Int} (h : FrR S a b) (hno : ∀ q, ¬ rowB S.T.fr q n) : b < a + n := by
  refine Classical.byContradiction fun g => hno a fun m m1 m2 => (h m).2 (by omega)
theorem FrR.taken {a : Int} (h : FrR S a b) (hn : 0 <= n) : FrR (S.talloc a n) (a + n) b := fun p => by
  refine take_fr.trans ?_
  rw [h p]; omega
theorem FrR.grown {a : Int} (h : FrR S a b) {V : VS} {N : Int} (h1 : b % 512 = 0) (h2 : N % 512 = 0) (h3 : 0 <= N) (hab : a <= b) : FrR (S.grown V b N) a (b + N) := fun p => by
  show (S.T.fr p || inr (b / 512 * 512) (N / 512 * 512) p) = true ↔ _
  rw [Bool.or_eq_true, h p, inr_iff]
  omega
theorem FrR.new (V : VS) : FrR (HS.new V) 512 512 := fun p => ⟨fun h => (by cases h), fun h => by omega⟩
theorem Found.row (h : Found S p n page S2) {a : Int} (hL : LaidB S b) (hk : HOk S) (hF : FrR S a b) (hab : a <= b) (hn : 1 <= n) (hb : b + upN n <= 34359738368) (hT : ∀ S0, Tried S p n S0 -> S0 = S) (hno : ∀ S0 page, Got S p n page S0 -> S0 = S.talloc page n /\ firstB S.T n page) :
    ∃ b', (b' = b ∨ b' = b + upN n) /\ page = a /\ a + n <= b' /\ LaidB S2 b' /\ FrR S2 (a + n) b' /\ S2.ca = S.ca /\ (b' = b -> ∀ V, { S2 with V := V } = { S.talloc a n with V := V }) /\ (a + n <= b -> b' = b) := by
  obtain ⟨S1, h, hm⟩ := h
  have hu := upN_le n
  have hs : ∀ {S1 S2 : HS}, Made S1 page n S2 -> S2.ca = S1.ca /\ S2.T = S1.T /\ ∀ V, { S2 with V := V } = { S1 with V := V } := fun h => by
    rcases h with ⟨_, rfl⟩ | ⟨_, _, rfl⟩ <;> exact ⟨rfl, rfl, fun _ => rfl⟩
  obtain ⟨s1, s2, s3⟩ := hs hm
  rcases h with h | ⟨S0, S0', htr, hnone, hg, hf, rfl⟩
  · obtain ⟨rfl, hf⟩ := hno _ _ h
    obtain ⟨rfl, h1⟩ := hF.first hn hf
    refine ⟨b, .inl rfl, rfl, h1, (hL.sameV rfl rfl : LaidB (S.talloc page n) b).made hm, fun q => ?_, s1, fun _ => s3, fun _ => rfl⟩
    rw [s2]; exact hF.taken (by omega) q
  · obtain rfl := hT _ htr
    obtain ⟨h1, e0⟩ := hL.grew' hk.vv.ok1 hn hg hb
    have hL2 : LaidB S2 (b + upN n) := (h1.sameV rfl rfl : LaidB (S0'.talloc page n) (b + upN n)).made hm
    subst e0
    have hF' : FrR (S0.grown { S0.V with rf := S0.V.rf.tail, pl := S0.V.pl.tail, laid := addL S0.V.laid b (b + upN n) } b (upN n)) a (b + upN n) := hF.grown hL.b1 hu.2.2 (by omega) hab
    obtain ⟨rfl, h2⟩ := hF'.first hn hf
    have hl := hF.none hnone
    refine ⟨b + upN n, .inr rfl, rfl, h2, hL2, fun q => ?_, s1, fun e => by omega, fun e => by omega⟩
    rw [s2]; exact hF'.taken (by omega) q
theorem tried_no (h : ¬ (0 <= p /\ p < 64 /\ n < 16)) {S0 : HS} (ht : Tried S p n S0) : S0 = S := by
  rcases ht with ⟨_, rfl⟩ | ⟨i, hi, rfl, hn, _⟩
  · rfl
  · omega
theorem got_no (h : ¬ (0 <= p /\ p < 64 /\ n < 16)) {S0 : HS} {page : Int} (ht : Got S p n page S0) : S0 = S.talloc page n /\ firstB S.T n page := by
  rcases ht with ⟨S0, i, k, hi, rfl, hn, _⟩ | ⟨S0, ht, hf, rfl⟩
  · omega
  · rw [tried_no h ht] at hf ⊢; exact ⟨rfl, hf⟩
end
end Go.Sh

set_option linter.all false
set_option maxRecDepth 4000
set_option maxHeartbeats 4000000
namespace Go.Sh
theorem al_slotG (i : Nat) {t : Nat} {Ps : List Pr} {w : World} {K : Nat -> World -> Prop} (H : Sat Ps w) (hi : Ps[i]? = some Emp) (hK : ∀ b w', Sat (Ps.set i (Row t 1 ⟨some ⟨b, 0, none⟩, 0, 0⟩ [])) w' -> K b w') : AL (.cells ⟨[]⟩ t) w K :=
  AL_rows (n := 0) (z := 1) (H.front i hi).tail rfl (by decide) fun b w' H' => hK b w' (Sat.back i H' (List.getElem?_eq_some_iff.1 hi).1)
theorem app_slotG (i : Nat) {t bytes b : Nat} {zs : Array Value} {a : SlV} {vs : List Value} {Ps : List Pr} {w : World} {K : SlV -> World -> Prop} (H : Sat Ps w) (hi : Ps[i]? = some (Row t 1 ⟨some ⟨b, 0, none⟩, 0, 0⟩ [])) (hz : zs.size = 1)
    (hrow : ∀ w', Sat (Ps.eraseIdx i) w' -> rowAt w' a.base a.len vs) (hl : vs.length = a.len) (hlen : a.len <= 1099511627776) (hby : bytes <= 8) (ho : ∀ v ∈ vs, v.oneCell' = true) (hK : ∀ s' w', Sat (Ps.set i (Row t 1 s' vs)) w' -> K s' w') :
    APP t 1 bytes zs ⟨some ⟨b, 0, none⟩, 0, 0⟩ a w K := by
  have hm : (0 + a.len) * bytes <= 1099511627776 * 8 := Nat.mul_le_mul (by omega) hby
  exact APP_row (H.front i hi) hz (by simpa using hrow w (H.front i hi).tail) (by simpa using hl) ho (by simp only; omega) (by simp only; omega) fun s' w' H' _ => hK s' w' (Sat.back i H' (List.getElem?_eq_some_iff.1 hi).1)
theorem oneIntsG (k : IntKind) (l : List Int) : ∀ v ∈ ints k l, v.oneCell' = true := by intro v hv; simp [ints] at hv; obtain ⟨x, _, rfl⟩ := hv; rfl
theorem oneBoolsG (l : List Bool) : ∀ v ∈ bools l, v.oneCell' = true := by intro v hv; simp [bools] at hv; rcases hv with ⟨_, rfl⟩ | ⟨_, rfl⟩ <;> rfl
section
variable {E : Env} {b c : Nat} {V : VS} {Z Rs : List Pr} {w : World}
end
end Go.Sh

set_option linter.all false
set_option maxRecDepth 8000
set_option maxHeartbeats 4000000
namespace Go.Sh
section
variable {E : Env} {w : World} {Rs Z : List Pr}
theorem HInv.newV (pl : List Int) (rf : List Bool) (fl : List Int) : HInv (HS.new (Go.Sh.newV pl rf fl)) no := HInv.new rfl rfl
variable (hE : EnvA E)
include hE
end
section
variable {S S2 : HS} {i k : Nat} {page : Int}
theorem LaidB.keep {b : Int} (h : LaidB S b) (id : Int) (x : Nat × SI) (pg n : Int) (X : FX) : LaidB (S.keep id x pg n X) b := ⟨h.la, h.b0, h.b1, h.h0, h.h1, h.pl, h.rf⟩
theorem Next.top {id : Int} {X : FX} (h : Next S id X) {n : Nat} (e : S.fx = ⟨n, []⟩) : id = (n : Int) + 1 /\ X = ⟨n + 1, []⟩ := by
  rcases h with ⟨_, h2, h3⟩ | ⟨a, r, h1, _⟩
  · rw [e] at h2 h3; exact ⟨h2, h3⟩
  · rw [e] at h1; cases h1
end
end Go.Sh

set_option linter.all false
set_option maxRecDepth 8000
set_option maxHeartbeats 4000000
namespace Go.Sh
section
variable {E : Env} {w : World} {Rs Z : List Pr} (hE : EnvA E)
include hE
end
end Go.Sh

set_option linter.all false
set_option maxRecDepth 8000
set_option maxHeartbeats 4000000
namespace Go.Sh
def HS.clr (S : HS) : HS := { S with V := { S.V with rf := [] } }
section
variable {S S2 : HS} {n page : Int}
theorem tried_m1 {S0 : HS} (h : Tried S (-1) n S0) : S0 = S := tried_no (by omega) h
theorem got_m1 {S0 : HS} (h : Got S (-1) n page S0) : S0 = S.talloc page n /\ firstB S.T n page := got_no (by omega) h
theorem tried_clr : Tried S.clr (-1) n S.clr := .inl ⟨by omega, rfl⟩
theorem Found.clr (h : Found S (-1) n page S2) : Found S.clr (-1) n page S2.clr := by
  obtain ⟨S1, h, hm⟩ := h
  have hm' : Made S1.clr page n S2.clr := by
    rcases hm with ⟨h1, rfl⟩ | ⟨h1, _, rfl⟩
    · exact .inl ⟨h1, rfl⟩
    · exact .inr ⟨h1, (fun r (e : ([] : List Bool) = true :: r) => nomatch e), rfl⟩
  refine ⟨S1.clr, ?_, hm'⟩
  rcases h with h | ⟨S0, S0', htr, hno, ⟨_, at_, hc, rfl⟩, hf, rfl⟩
  · obtain ⟨rfl, hf⟩ := got_m1 h
    exact .inl (.inr ⟨S.clr, tried_clr, hf, rfl⟩)
  · obtain rfl := tried_m1 htr
    exact .inr ⟨S0.clr, _, tried_clr, hno, ⟨(fun r (e : ([] : List Bool) = true :: r) => nomatch e), at_, hc, rfl⟩, hf, rfl⟩
def asks (next b n : Int) : Nat := if next + n <= b then 1 else 2
def nextB (next b n : Int) : Int := if next + n <= b then b else b + upN n
structure RfSt (S : HS) (i : Nat) (next b : Int) (rf : List Bool) : Prop where
  inv : HInv S no
  la : LaidB S.clr b
  rf : S.V.rf = rf
  fr : FrR S next b
  lo : 512 <= next
  le : next <= b
  gn : Gn S
  pg : S.pages = next - 512
  rel : S.V.rel = []
  ow : ∀ p, 512 <= p -> p < next -> 0 < S.own p
  fx : S.fx = ⟨i, []⟩
theorem RfSt.new (rf : List Bool) : RfSt (HS.new (newV [] rf [])) 0 512 512 rf := ⟨HInv.newV [] rf [], LaidB.new [], rfl, FrR.new _, Int.le_refl _, Int.le_refl _, Gn.new _, rfl, rfl, fun p h1 h2 => by omega, rfl⟩
variable {i : Nat} {next b : Int} {rf : List Bool}
theorem RfSt.laid (h : RfSt S i next b []) : LaidB S b := ⟨h.la.la, h.la.b0, h.la.b1, h.la.h0, h.la.h1, h.la.pl, h.rf⟩
theorem RfSt.notReady (h : RfSt S i next b rf) (hk : HOk S) {q : Int} (hq : next <= q) : ¬ mem S.V.ready q := fun hr => by
  obtain ⟨r1, r2⟩ := (h.inv.rd q rfl).1 hr
  have r3 := (h.la.la q).1 ((h.inv.la q).2 r1)
  have r4 := (h.fr q).2 ⟨hq, r3.2⟩
  refine tf_not r2 (gone_iff.2 (.inl ?_))
  rw [h.gn.rl]; exact r4
theorem takenV (h : Taken S (-1) n page S2) : S2.V.wd = S.V.wd /\ S2.V.fl = S.V.fl /\ S2.V.ready = S.V.ready /\ S2.V.rel = S.V.rel := by
  rcases h with h | ⟨S0, S0', htr, _, ⟨_, at_, _, rfl⟩, _, rfl⟩
  · obtain ⟨rfl, _⟩ := got_m1 h
    exact ⟨rfl, rfl, rfl, rfl⟩
  · obtain rfl := tried_m1 htr
    exact ⟨rfl, rfl, rfl, rfl⟩
theorem RfSt.found (h : RfSt S i next b rf) (hk : HOk S) (hkc : HOk S.clr) (hn : 1 <= n) (hb : b + upN n <= 34359738368) (hf : Found S (-1) n page S2) :
    page = next /\ LaidB S2.clr (nextB next b n) /\ FrR S2 (next + n) (nextB next b n) /\ next + n <= nextB next b n /\ S2.V.wd = S.V.wd /\ S2.V.rel = [] /\ S2.V.rf = rf.drop (asks next b n) /\ (∀ r, rf ≠ true :: r) /\ (asks next b n = 2 -> ∀ r, rf.tail ≠ true :: r) := by
  have hu := upN_le n
  obtain ⟨b', k1, k2, k3, k4, k5, _, _, k8⟩ := hf.clr.row (a := next) h.la hkc h.fr h.le hn hb (fun S0 ht => tried_no (by omega) ht) fun S0 pg ht => got_no (by omega) ht
  subst k2
  have hbb : b' = nextB page b n := by
    unfold nextB
    by_cases g : page + n <= b
    · rw [if_pos g]; exact k8 g
    · rw [if_neg g]; omega
  subst hbb
  refine ⟨rfl, k4, k5, k3, ?_⟩
  obtain ⟨S1, ht, hm⟩ := hf
  obtain ⟨e1, e2, e3, e4⟩ := takenV ht
  have hnr : ¬ allReady S1 page n := fun hr => h.notReady hk (Int.le_refl page) (by rw [<- e3]; exact hr page (Int.le_refl _) (by omega))
  rcases hm with ⟨h1, _⟩ | ⟨_, hrf, rfl⟩
  · exact absurd h1 hnr
  refine ⟨funext fun q => funext fun j => ?_, ?_, ?_⟩
  · show (if page <= q /\ q < page + n /\ inL S1.V.rel q = true then fillAt S1.V page q else S1.V.wd q j) = _
    rw [e4, h.rel, if_neg (fun h => by cases h.2.2), e1]
  · show cutL S1.V.rel page (page + n) = []
    rw [e4, h.rel]; rfl
  show S1.V.rf.tail = _ /\ _
  rcases ht with ht | ⟨S0, S0', htr, hno, ⟨hr0, at_, hc, rfl⟩, hff, rfl⟩
  · obtain ⟨rfl, hff⟩ := got_m1 ht
    obtain ⟨_, hle⟩ := h.fr.first hn hff
    have ea : asks page b n = 1 := if_pos hle
    rw [ea]
    have hrf : ∀ r, S.V.rf ≠ true :: r := hrf
    have et : (S.talloc page n).V.rf = rf := h.rf
    rw [et]
    rw [h.rf] at hrf
    exact ⟨by simp, hrf, fun e => by cases e⟩
  · obtain rfl := tried_m1 htr
    have hlt := h.fr.none hno
    have ea : asks page b n = 2 := if_neg (by omega)
    rw [ea]
    have hrf : ∀ r, S0.V.rf.tail ≠ true :: r := hrf
    have et : ((S0.grown { S0.V with rf := S0.V.rf.tail, pl := S0.V.pl.tail, laid := addL S0.V.laid at_ (at_ + upN n) } at_ (upN n)).talloc page n).V.rf = rf.tail := by
      show S0.V.rf.tail = _
      rw [h.rf]
    rw [et]
    rw [h.rf] at hrf hr0
    refine ⟨?_, hr0, fun _ => hrf⟩
    cases rf with
    | nil => rfl
    | cons x r => cases r <;> rfl
theorem RfSt.keep (h : RfSt S i next b rf) (hk : HOk S) (hkc : HOk S.clr) (hn : 1 <= n) (hb : b + upN n <= 34359738368) (hf : Found S (-1) n page S2) {id : Int} {X : FX} (hX : Next S2 id X) {x : Nat × SI} (hI : HInv (S2.keep id x page n X) no) :
    page = next /\ id = (i : Int) + 1 /\ X = ⟨i + 1, []⟩ /\ (S2.keep id x page n X).V.wd = S.V.wd /\ RfSt (S2.keep id x page n X) (i + 1) (next + n) (nextB next b n) (rf.drop (asks next b n)) /\ (∀ r, rf ≠ true :: r) := by
  obtain ⟨rfl, k1, k2, k3, k4, k5, k6, k7, _⟩ := h.found hk hkc hn hb hf
  have es := hf.same
  obtain ⟨rfl, rfl⟩ := hX.top (n := i) (by rw [es.fx]; exact h.fx)
  have hlo := h.lo
  refine ⟨rfl, rfl, rfl, k4, ⟨hI, k1.keep _ _ _ _ _, k6, k2, by omega, k3, (hf.gn h.gn).keep _ _ _ _ _, ?_, k5, fun p h1 h2 => ?_, rfl⟩, k7⟩
  · show S2.pages + n = _
    rw [es.pages, h.pg]; omega
  · show 0 < (if page <= p /\ p < page + n then ((i : Int) + 1) else S2.own p)
    split
    · omega
    · rw [es.own]; exact h.ow p h1 (by omega)
theorem HOk.clr (hk : HOk S) : HOk S.clr := ⟨hk.tv, ⟨hk.vv.ok1, hk.vv.ok2, hk.vv.ok3, hk.vv.rl, hk.vv.el, hk.vv.re, hk.vv.lim, hk.vv.clean, hk.vv.sums⟩, hk.ci, hk.ok, hk.fx⟩
end
theorem rf_bnd : ∀ (N : Nat) (l : List Int), l.Nodup -> (∀ n ∈ l, 0 < n /\ n <= N) -> l.length <= N
  | 0, [], _, _ => Nat.le_refl _
  | 0, n :: _, _, h => by have := h n List.mem_cons_self; omega
  | N + 1, l, hn, h => by
    by_cases hm : ((N + 1 : Nat) : Int) ∈ l
    · have ih := rf_bnd N (l.erase ((N + 1 : Nat) : Int)) (hn.erase _) fun n hn' => by
        have h1 := (hn.mem_erase_iff).1 hn'
        have h2 := h n h1.2
        have h3 := h1.1
        omega
      rw [List.length_erase_of_mem hm] at ih
      omega
    · have ih := rf_bnd N l hn fun n hn' => by
        have h2 := h n hn'
        have h3 : n ≠ ((N + 1 : Nat) : Int) := fun e => hm (e ▸ hn')
        omega
      omega
end Go.Sh

set_option linter.all false
set_option maxRecDepth 4000
set_option maxHeartbeats 2000000
namespace Go.Sh
theorem W_not (u : Nat -> Bool) : bitK .u64 2 18446744073709551615 (W u) = W fun i => !u i := by
  rw [<- W_ones]
  show IntKind.wrap .u64 ((BitVec.ofInt 64 (W fun _ => true) ^^^ BitVec.ofInt 64 (W u)).toNat : Int) = _
  rw [BitVec.toNat_xor, bvW, bvW]
  have e : wN (fun _ => true) 64 ^^^ wN u 64 = wN (fun i => !u i) 64 := by
    refine Nat.eq_of_testBit_eq fun i => ?_
    rw [Nat.testBit_xor, wN_bit, wN_bit, wN_bit]
    cases decide (i < 64) <;> cases u i <;> rfl
  rw [e, wrapW (wN_lt _ 64)]; rfl
theorem W_bit {n : Nat} (h : n < 64) : u64 (1 * 2 ^ (min (Int.toNat (n : Int)) (IntKind.bits .u64))) = W fun i => i == n := by
  have e := W_shl (fun i => i == 0) (n := (n : Int)) (by omega) (by omega)
  rw [W_one] at e
  rw [e]
  refine W_congr fun i hi => ?_
  rw [Int.toNat_natCast, Bool.eq_iff_iff, Bool.and_eq_true, decide_eq_true_eq, beq_iff_eq, beq_iff_eq]
  omega
theorem W_low_mask {n : Nat} (h : n < 64) : u64 ((u64 (1 * 2 ^ (min (Int.toNat (n : Int)) (IntKind.bits .u64)))) - 1) = W fun i => decide (i < n) := by
  have e : wN (fun i => i == n) 64 = 2 ^ n := by
    refine Nat.eq_of_testBit_eq fun i => ?_
    rw [wN_bit, Nat.testBit_two_pow]
    rw [Bool.eq_iff_iff, Bool.and_eq_true, decide_eq_true_eq, beq_iff_eq, decide_eq_true_eq]
    omega
  have e2 : wN (fun i => decide (i < n)) 64 = 2 ^ n - 1 := by
    refine Nat.eq_of_testBit_eq fun i => ?_
    rw [wN_bit, Nat.testBit_two_pow_sub_one]
    rw [Bool.eq_iff_iff, Bool.and_eq_true, decide_eq_true_eq, decide_eq_true_eq]
    omega
  rw [W_bit h]
  unfold W
  rw [e, e2]
  have h1 : 0 < 2 ^ n := Nat.pow_pos (by decide)
  have h2 : 2 ^ n <= 2 ^ 63 := Nat.pow_le_pow_right (by decide) (by omega)
  rw [u64_id (by omega) (by omega)]
  omega
theorem cN_set {u : Nat -> Bool} {i : Nat} (hu : u i = false) : ∀ n, cN (fun j => u j || j == i) n = cN u n + (if i < n then 1 else 0)
  | 0 => rfl
  | n + 1 => by
    simp only [cN, cN_set hu n]
    by_cases e : n = i
    · subst e
      rw [hu, if_neg (by omega), if_pos (by omega)]; simp
    · rw [show (n == i) = false by simpa using e, Bool.or_false]
      by_cases g : i < n
      · rw [if_pos g, if_pos (by omega)]; omega
      · rw [if_neg g, if_neg (by omega)]; omega
theorem cN_clear {u : Nat -> Bool} {i : Nat} (hu : u i = true) : ∀ n, cN (fun j => u j && !(j == i)) n + (if i < n then 1 else 0) = cN u n
  | 0 => rfl
  | n + 1 => by
    have ih := cN_clear hu n
    simp only [cN]
    by_cases e : n = i
    · subst e
      rw [if_neg (by omega)] at ih
      rw [hu, if_pos (by omega)]; simp; omega
    · rw [show (n == i) = false by simpa using e, Bool.not_false, Bool.and_true]
      by_cases g : i < n
      · rw [if_pos g] at ih; rw [if_pos (by omega)]; omega
      · rw [if_neg g] at ih; rw [if_neg (by omega)]; omega
theorem cN_full {u : Nat -> Bool} {m : Nat} (h : ∀ i, u i = true ↔ i < m) : ∀ n, cN u n = min n m
  | 0 => by simp [cN]
  | n + 1 => by
    simp only [cN, cN_full h n]
    by_cases g : n < m
    · rw [(h n).2 g]; simp; omega
    · rw [show u n = false by cases e : u n; rfl; exact absurd ((h n).1 e) g]; simp; omega
theorem idx6 {n : Nat} (h : n < 64) : Int.fdiv (n : Int) (2 ^ (min (Int.toNat 6) (IntKind.bits .i64))) = 0 := by
  rw [show (2 : Int) ^ (min (Int.toNat 6) (IntKind.bits .i64)) = 64 by decide, Int.fdiv_eq_ediv_of_nonneg _ (by decide)]; omega
theorem idx63a : ((List.range 64).all fun n => bitK .i64 0 (n : Int) 63 == (n : Int)) = true := by decide +kernel
theorem idx63 {n : Nat} (h : n < 64) : bitK .i64 0 (n : Int) 63 = (n : Int) := by
  have := List.all_eq_true.1 idx63a n (List.mem_range.2 h)
  simpa using this
def rowU (uw : List Int) (U : Nat -> Bool) : Prop := (uw = [] /\ ∀ i, U i = false) ∨ uw = [W U]
section
variable {E : Env} {w : World} {Z : List Pr} {s : SlV} {uw : List Int} {U : Nat -> Bool}
theorem row_get_spec (H : Sat (Row E.t_uint64 1 s (ints .u64 uw) :: Z) w) (hU : rowU uw U) {n : Nat} (hn : n < 64) {K : Bool -> World -> Prop} (hK : K (U n) w) : F._span_row_get E s n K w := by
  unfold F._span_row_get
  have hl := H.rowLen
  simp only [ints, List.length_map] at hl
  rw [idx6 hn, idx63 hn]
  rcases hU with ⟨rfl, h0⟩ | rfl
  · refine ⟨by decide, CND_dec (fun g => ?_) fun _ => ?_⟩
    · simp at hl; omega
    · rw [<- h0 n]; exact hK
  · simp at hl
    refine ⟨by decide, CND_dec (fun g => ⟨by decide, ?_⟩) fun g => absurd (by omega) g⟩
    refine H.rowCell (j := 0) (v := .int .u64 (W U)) rfl fun a ha hc => ⟨⟨by decide, by omega⟩, W U, hc, by omega, ?_⟩
    rw [W_get U (by omega) (by omega), Int.toNat_natCast]
    cases hu : U n
    · rw [hu] at hK; exact hK
    · rw [hu] at hK; exact hK
theorem row_free_spec (hT : TabAt E.g_math_bits_deBruijn64tab w) (H : Sat (Row E.t_uint64 1 s (ints .u64 uw) :: Z) w) (hU : rowU uw U) {n : Nat} (hn : n < 64) {K : Int -> World -> Prop}
    (hK : ∀ r : Nat, n <= r -> r <= 64 -> (r < 64 -> U r = false) -> (∀ i, n <= i -> i < r -> U i = true) -> K r w) : F._span_row_free E s n K w := by
  unfold F._span_row_free T0._span_row_free
  have hl := H.rowLen
  simp only [ints, List.length_map] at hl
  rw [idx6 hn, idx63 hn, W_low_mask hn]
  refine ⟨by decide, LET_intro fun k hk => ?_⟩
  subst hk
  rcases hU with ⟨rfl, h0⟩ | rfl
  · refine LOOP_intro (fun st w' => st.1 = 0 /\ w' = w) (fun _ _ => 0) ⟨rfl, rfl⟩ ?_
    rintro ⟨k, u⟩ _ w3 ⟨hk, rfl⟩
    dsimp only at hk ⊢
    subst hk
    refine CND_dec (fun g => ?_) fun _ => ⟨by decide, LET_intro fun t ht => ?_⟩
    · simp at hl; omega
    · have e : s.len = 0 := by simpa using hl.symm
      rw [e] at ht
      have : t = (n : Int) := by
        rw [ht]; unfold maxI
        rw [show i64 (((0 : Nat) : Int) * 2 ^ (min (Int.toNat 6) (IntKind.bits .i64))) = 0 by decide, if_neg (by omega)]
      rw [this]
      exact hK n (Nat.le_refl _) (by omega) (fun _ => h0 n) fun i h1 h2 => by omega
  · have hl1 : s.len = 1 := by simp at hl; omega
    refine LOOP_intro (fun st w' => w' = w /\ (st.1 = 0 ∨ (st.1 = 1 /\ ∀ i, n <= i -> i < 64 -> U i = true))) (fun st _ => (1 - st.1).toNat) ⟨rfl, .inl rfl⟩ ?_
    rintro ⟨k, u⟩ _ w3 ⟨rfl, hk⟩
    dsimp only at hk ⊢
    refine CND_dec (fun g => ?_) fun g => ⟨by decide, LET_intro fun t ht => ?_⟩
    · have hk0 : k = 0 := by omega
      subst hk0
      refine H.rowCell (j := 0) (v := .int .u64 (W U)) rfl fun a ha hc => ⟨⟨by decide, by omega⟩, W U, hc, JOIN_in ⟨by decide, CND_eq (fun _ => ⟨by omega, LET_intro fun t ht j => ?_⟩) fun e => absurd rfl e⟩⟩
      rw [W_or] at ht
      subst ht
      refine CND_ne (fun hne => ⟨by decide, ?_⟩) fun he => ?_
      · dsimp only
        rw [W_not]
        refine tz64_spec hT (fun hall => ?_) fun r hr h1 h2 => LET_intro fun t ht => ?_
        · exfalso
          refine hne ?_
          rw [<- W_ones]
          refine W_congr fun i hi => ?_
          have := hall i hi
          cases hu : U i
          · rw [hu] at this; simpa using this
          · simp
        · have : t = (r : Int) := by
            rw [ht, show i64 ((0 : Int) * 2 ^ (min (Int.toNat 6) (IntKind.bits .i64))) = 0 by decide, i64_id (by omega) (by omega)]; omega
          rw [this]
          simp only [Bool.not_eq_true', Bool.or_eq_false_iff, decide_eq_false_iff_not, Bool.not_eq_false', Bool.or_eq_true, decide_eq_true_eq] at h1 h2
          refine hK r (by omega) (by omega) (fun _ => h1.1) fun i i1 i2 => ?_
          rcases h2 i i2 with q | q
          · exact q
          · omega
      · rw [show i64 ((0 : Int) + 1) = 1 by decide]
        refine ⟨⟨rfl, .inr ⟨rfl, fun i i1 i2 => ?_⟩⟩, by decide⟩
        dsimp only at he
        rw [<- W_ones] at he
        have := W_inj he i2
        simp only [Bool.or_eq_true, decide_eq_true_eq] at this
        rcases this with q | q
        · exact q
        · omega
    · have hk1 : k = 1 /\ ∀ i, n <= i -> i < 64 -> U i = true := by
        rcases hk with rfl | h
        · omega
        · exact h
      rw [hl1] at ht
      have : t = ((64 : Nat) : Int) := by
        rw [ht]; unfold maxI
        rw [show i64 (((1 : Nat) : Int) * 2 ^ (min (Int.toNat 6) (IntKind.bits .i64))) = 64 by decide, if_pos (by omega)]; rfl
      rw [this]
      exact hK 64 (by omega) (Nat.le_refl _) (fun h => by omega) fun i i1 i2 => hk1.2 i i1 i2
theorem row_set_spec {b t : Nat} {cs : List Value} {o : Nat} (hcs : o < cs.length) (H : Sat (Cells b t (cs.set o (slV s)) :: Row E.t_uint64 1 s (ints .u64 uw) :: Z) w) (hU : rowU uw U) {n : Nat} (hn : n < 64) {K : World -> Prop}
    (hK : ∀ s' w', Sat (Cells b t (cs.set o (slV s')) :: Row E.t_uint64 1 s' (ints .u64 [W fun i => U i || i == n]) :: Z) w' -> K w') : F.span_row_set E (some ((Addr.mk b 0 none).add o)) n K w := by
  unfold F.span_row_set
  rw [idx6 hn, idx63 hn, W_bit hn]
  refine LOOP_intro (fun _ w' => ∃ s uw, rowU uw U /\ Sat (Cells b t (cs.set o (slV s)) :: Row E.t_uint64 1 s (ints .u64 uw) :: Z) w') (fun _ w' => match w'.cell? ((Addr.mk b 0 none).add o) with | some (.slice _ l _) => 1 - l | _ => 0) ⟨s, uw, hU, H⟩ ?_
  rintro u _ w2 ⟨s, uw, hU, H2⟩
  have hc : ∀ {s : SlV}, (cs.set o (slV s))[0 + o]? = some (slV s) := fun {s} => by rw [Nat.zero_add, List.getElem?_set_self hcs]
  have hcell : ∀ {s : SlV} {w'} {Y}, Sat (Cells b t (cs.set o (slV s)) :: Y) w' -> w'.cell? ((Addr.mk b 0 none).add o) = some (.slice s.base s.len s.cap) := fun h => h.cell hc
  have hl := (H2.front 1 rfl).rowLen
  simp only [ints, List.length_map] at hl
  have hm : ∀ {s : SlV} {w'} {Y}, Sat (Cells b t (cs.set o (slV s)) :: Y) w' -> (match w'.cell? ((Addr.mk b 0 none).add o) with | some (.slice _ l _) => 1 - l | _ => 0 : Nat) = 1 - s.len := fun h => by rw [hcell h]
  simp only [NC_some]
  refine ⟨by decide, s, hcell H2, CND_dec (fun g => ?_) fun g => ?_⟩
  · rcases hU with ⟨rfl, h0⟩ | rfl
    · refine ⟨s, hcell H2, AL_cells (vs := [.int .u64 0]) H2 fun b8 w9 H9 _ => ?_⟩
      have hl0 : s.len = 0 := by simpa using hl.symm
      refine APP_one (zs := #[.int .u64 0]) (bytes := 8) (H9.front2 1 rfl) rfl rfl (by simp [Value.oneCell']) (by show (s.len + 1) * 8 <= _; omega) (by omega) fun s10 w11 H11 hl10 => ?_
      refine st_cell (H11.front 1 rfl) (v := slV s10) (o := 0) (m := o) rfl (by rw [List.length_set]; omega) fun w13 H13 => ?_
      rw [Nat.zero_add, List.set_set] at H13
      have e : ints .u64 ([] : List Int) ++ [.int .u64 0] = ints .u64 [W U] := by rw [show W U = 0 from W_eq_zero.2 fun i _ => h0 i]; rfl
      rw [e] at H13
      refine ⟨⟨s10, [W U], .inr rfl, H13⟩, ?_⟩
      rw [hm H13, hm H2, hl10]; omega
    · simp at hl; omega
  · rcases hU with ⟨rfl, h0⟩ | rfl
    · have hl0 : s.len = 0 := by simpa using hl.symm
      omega
    · have H3 := H2.drew
      refine ⟨s, hcell H3, by decide, ?_⟩
      refine (H3.front 1 rfl).rowCell (j := 0) (v := .int .u64 (W U)) rfl fun a ha hca => ⟨⟨by decide, by omega⟩, W U, hca, by omega, ?_⟩
      rw [ha]
      simp only [NC_some]
      refine ⟨⟨by decide, by omega⟩, ?_⟩
      rw [W_or]
      refine st_row (H3.front 1 rfl) (j := 0) rfl (by simp [ints]) ha fun w19 H19 => hK s w19 ?_
      exact H19.front 1 rfl
theorem row_clear_spec (H : Sat (Row E.t_uint64 1 s (ints .u64 [W U]) :: Z) w) {n : Nat} (hn : n < 64) {K : World -> Prop}
    (hK : ∀ w', Sat (Row E.t_uint64 1 s (ints .u64 [W fun i => U i && !(i == n)]) :: Z) w' -> K w') : F._span_row_clear E s n K w := by
  unfold F._span_row_clear
  have hl := H.rowLen
  simp [ints] at hl
  rw [idx6 hn, idx63 hn, W_bit hn]
  refine ⟨by decide, ?_⟩
  refine H.drew.rowCell (j := 0) (v := .int .u64 (W U)) rfl fun a ha hca => ⟨⟨by decide, by omega⟩, W U, hca, by omega, ?_⟩
  rw [ha]
  simp only [NC_some]
  refine ⟨⟨by decide, by omega⟩, ?_⟩
  rw [W_andNot]
  exact st_row H.drew (j := 0) rfl (by simp [ints]) ha fun w19 H19 => hK w19 H19
structure SpU (S : SI) (U : Nat -> Bool) : Prop where
  uw : rowU S.uw U
  lim : ∀ i : Nat, U i = true -> (i : Int) < S.slots
  sl : 0 <= S.slots /\ S.slots <= 63
  cnt : S.used = (cN U 64 : Nat)
  look : 0 <= S.look /\ S.look <= S.slots /\ ∀ i : Nat, (i : Int) < S.look -> U i = true
def SI.set (S : SI) (U : Nat -> Bool) (n : Nat) : SI := { S with uw := [W fun i => U i || i == n], used := S.used + 1, look := (n : Int) + 1 }
def SI.clr (S : SI) (U : Nat -> Bool) (n : Nat) : SI := { S with uw := [W fun i => U i && !(i == n)], used := S.used - 1, look := minI S.look n }
theorem SpU.set {S : SI} {U : Nat -> Bool} (h : SpU S U) {n : Nat} (hn : (n : Int) < S.slots) (hu : U n = false) (hl : ∀ i, i < n -> U i = true) : SpU (S.set U n) fun i => U i || i == n := by
  have hs := h.sl
  refine ⟨.inr rfl, fun i hi => ?_, h.sl, ?_, ⟨by show (0 : Int) <= (n : Int) + 1; omega, by show (n : Int) + 1 <= S.slots; omega, fun i hi => ?_⟩⟩
  · rw [Bool.or_eq_true, beq_iff_eq] at hi
    rcases hi with hi | rfl
    · exact h.lim i hi
    · exact hn
  · show S.used + 1 = _
    rw [cN_set hu, if_pos (by omega), h.cnt]; rfl
  · have hi : (i : Int) < (n : Int) + 1 := hi
    rw [Bool.or_eq_true, beq_iff_eq]
    by_cases e : i = n
    · exact .inr e
    · exact .inl (hl i (by omega))
theorem SpU.clr {S : SI} {U : Nat -> Bool} (h : SpU S U) {n : Nat} (hu : U n = true) : SpU (S.clr U n) fun i => U i && !(i == n) := by
  have hs := h.sl
  have hn := h.lim n hu
  have hm : minI S.look n <= S.look /\ minI S.look n <= n /\ 0 <= minI S.look n := by
    have := h.look.1
    unfold minI; split <;> omega
  refine ⟨.inr rfl, fun i hi => ?_, h.sl, ?_, ⟨hm.2.2, by have := h.look.2.1; show minI S.look n <= S.slots; omega, fun i hi => ?_⟩⟩
  · rw [Bool.and_eq_true] at hi
    exact h.lim i hi.1
  · show S.used - 1 = _
    have := cN_clear hu 64
    rw [if_pos (by omega)] at this
    have hc := h.cnt
    omega
  · have hi : (i : Int) < minI S.look n := hi
    rw [Bool.and_eq_true]
    refine ⟨h.look.2.2 i (by omega), ?_⟩
    have : i ≠ n := by omega
    simpa using this
section
variable {b : Nat} {S : SI}
theorem spfull_spec (H : Sat (SpanP E b S :: Z) w) {K : Bool -> World -> Prop} (hK : ∀ w', Sat (SpanP E b S :: Z) w' -> K (S.used == S.slots) w') : F.span_Span_Full E (some ⟨b, 0, none⟩) K w := by
  obtain ⟨su, sm, H⟩ := Sat.span.1 H
  unfold F.span_Span_Full
  simp only [NC_some]
  exact ⟨_, H.drew.cell rfl, _, H.drew.cell rfl, hK _ (Sat.span.2 ⟨su, sm, H.drew⟩)⟩
theorem spthere_spec (H : Sat (SpanP E b S :: Z) w) {i : Int} {K : Bool -> World -> Prop} (hK : K (decide (0 <= i /\ i < S.slots)) w) : F.span_Span_there E (some ⟨b, 0, none⟩) i K w := by
  obtain ⟨su, sm, H⟩ := Sat.span.1 H
  unfold F.span_Span_there
  simp only [NC_some]
  refine CND_dec (fun g => ⟨_, H.cell rfl, ?_⟩) fun g => ?_
  · rw [show decide (i < S.slots) = decide (0 <= i /\ i < S.slots) from decide_eq_decide.2 (by omega)]; exact hK
  · rw [decide_eq_false (by omega)] at hK; exact hK
theorem spslot_spec (H : Sat (SpanP E b S :: Z) w) {i : Int} (h0 : 0 <= i) (h1 : i < S.slots) {K : Int -> Int -> World -> Prop} (hK : ∀ w', Sat (SpanP E b S :: Z) w' -> K (u64 (S.base + u64 (u64 i * u64 S.elem))) 0 w') : F.span_Span_Slot E (some ⟨b, 0, none⟩) i K w := by
  unfold F.span_Span_Slot T0.span_Span_Slot
  refine spthere_spec H ?_
  rw [decide_eq_true ⟨h0, h1⟩]
  refine CND_f rfl ?_
  obtain ⟨su, sm, H⟩ := Sat.span.1 H
  simp only [NC_some]
  exact ⟨_, H.drew.cell0 rfl, _, H.drew.cell rfl, LET_intro fun t ht => by rw [ht]; exact hK _ (Sat.span.2 ⟨su, sm, H.drew⟩)⟩
theorem spnext_spec {U : Nat -> Bool} (hT : TabAt E.g_math_bits_deBruijn64tab w) (H : Sat (SpanP E b S :: Z) w) (hU : SpU S U) (hst : S.state ≠ 0) {K : Int -> Int -> World -> Prop}
    (hk0 : (∀ i : Nat, (i : Int) < S.slots -> U i = true) -> ∀ w', Sat (SpanP E b S :: Z) w' -> K 0 30 w')
    (hk1 : ∀ n : Nat, (n : Int) < S.slots -> U n = false -> (∀ i, i < n -> U i = true) -> ∀ w', Sat (SpanP E b (S.set U n) :: Z) w' -> K n 0 w') : F.span_Span_Next E (some ⟨b, 0, none⟩) K w := by
  obtain ⟨su, sm, H⟩ := Sat.span.1 H
  unfold F.span_Span_Next T0.span_Span_Next
  simp only [NC_some]
  have hs := hU.sl
  obtain ⟨l0, l1, l2⟩ := hU.look
  obtain ⟨k, hk⟩ := Int.eq_ofNat_of_zero_le l0
  have Hd : Sat (spres E b S su sm ++ Z) w.drew := H.drew
  refine ⟨_, H.cell rfl, CND_eq (fun e => absurd e hst) fun _ => ⟨su, Hd.cell rfl, _, Hd.cell rfl, ?_⟩⟩
  rw [hk]
  refine row_free_spec (hT.ext (Ext.drew _ _)) (Hd.front 1 rfl) hU.uw (by omega) fun r r1 r2 r3 r4 => ⟨_, Hd.cell rfl, ?_⟩
  have below : ∀ i, i < r -> U i = true := fun i hi => by
    by_cases e : i < k
    · exact l2 i (by omega)
    · exact r4 i (by omega) hi
  refine CND_dec (fun g => hk0 (fun i hi => below i (by omega)) _ (Sat.span.2 ⟨su, sm, Hd⟩)) fun g => ?_
  have hr : (r : Int) < S.slots := by omega
  have H1 : Sat (Cells b E.t_span_Span ((sicells S su sm).set 11 (slV su)) :: Row E.t_uint64 1 su (ints .u64 S.uw) :: Row E.t_uint64 1 sm (ints .u64 S.mw) :: Z) w.drew := Hd
  refine row_set_spec (by simp [sicells]) H1 hU.uw (by omega) fun s' w12 H12 => ?_
  have hu7 : S.used <= 64 := by rw [hU.cnt]; have := cN_le U 64; omega
  have hu0 : 0 <= S.used := by rw [hU.cnt]; omega
  refine ⟨S.used, H12.cell rfl, ?_⟩
  rw [i64_id (n := S.used + 1) (by omega) (by omega), i64_id (n := (r : Int) + 1) (by omega) (by omega)]
  refine st_cell H12 (o := 0) (m := 7) rfl (by simp [sicells]) fun w16 H16 => st_cell H16 (o := 0) (m := 13) rfl (by simp [sicells]) fun w18 H18 => ?_
  exact hk1 r hr (r3 (by omega)) below w18 (Sat.span.2 ⟨s', sm, H18⟩)
theorem spgive_spec {U : Nat -> Bool} (H : Sat (SpanP E b S :: Z) w) (hU : SpU S U) (hst : S.state = 2) {n : Nat} (hn : (n : Int) < S.slots) {K : Int -> World -> Prop}
    (hk0 : U n = false -> K 31 w) (hk1 : U n = true -> ∀ w', Sat (SpanP E b (S.clr U n) :: Z) w' -> K 0 w') : F.span_Span_Give E (some ⟨b, 0, none⟩) n K w := by
  have H0 := H
  obtain ⟨su, sm, H⟩ := Sat.span.1 H
  unfold F.span_Span_Give T0.span_Span_Give
  simp only [NC_some]
  have hs := hU.sl
  refine ⟨_, H.cell rfl, CND_ne (fun e => absurd hst e) fun _ => spthere_spec H0 ?_⟩
  rw [decide_eq_true (show (0 : Int) <= (n : Int) /\ (n : Int) < S.slots by omega)]
  refine CND_f rfl ⟨su, H.cell rfl, row_get_spec (H.front 1 rfl) hU.uw (by omega) ?_⟩
  cases hu : U n
  · exact CND_t rfl (hk0 hu)
  · refine CND_f rfl ⟨su, H.cell rfl, ?_⟩
    have huw : S.uw = [W U] := by
      rcases hU.uw with ⟨_, h⟩ | h
      · rw [h] at hu; cases hu
      · exact h
    have H1 := H.front 1 rfl
    rw [huw] at H1
    refine row_clear_spec H1 (by omega) fun w11 H11 => ?_
    have H12 := H11.front 1 rfl
    have hu7 : S.used <= 64 := by rw [hU.cnt]; have := cN_le U 64; omega
    have hu0 : 0 <= S.used := by rw [hU.cnt]; omega
    refine ⟨S.used, H12.cell rfl, ?_⟩
    rw [i64_id (n := S.used - 1) (by omega) (by omega)]
    refine st_cell H12 (o := 0) (m := 7) rfl (by simp [sicells]) fun w15 H15 => ⟨S.look, H15.cell rfl, st_cell H15 (o := 0) (m := 13) rfl (by simp [sicells]) fun w19 H19 => hk1 hu w19 (Sat.span.2 ⟨su, sm, ?_⟩)⟩
    exact H19
theorem spindex_spec (H : Sat (SpanP E b S :: Z) w) {n : Nat} (hm : S.magic = 0) (he : 0 < S.elem) (he2 : S.elem <= 1099511627776) (hs : S.slots <= 63) (hb : 0 <= S.base /\ S.base <= 281474976710656) (hn : (n : Int) < S.slots) {K : Int -> Int -> World -> Prop}
    (hK : ∀ w', Sat (SpanP E b S :: Z) w' -> K n 0 w') : F.span_Span_Index E (some ⟨b, 0, none⟩) (S.base + n * S.elem) K w := by
  obtain ⟨su, sm, H⟩ := Sat.span.1 H
  unfold F.span_Span_Index T0.span_Span_Index
  simp only [NC_some]
  have Hd : Sat (spres E b S su sm ++ Z) w.drew := H.drew
  have hnn : (0 : Int) <= (n : Int) * S.elem := Int.mul_nonneg (by omega) (by omega)
  have hn2 : (n : Int) * S.elem <= 63 * 1099511627776 := Int.mul_le_mul (by omega) he2 (by omega) (by decide)
  have hs2 : S.slots * S.elem <= 63 * 1099511627776 := Int.mul_le_mul hs he2 (by omega) (by decide)
  have hlt : (n : Int) * S.elem < S.slots * S.elem := Int.mul_lt_mul_of_pos_right hn he
  generalize hx : (n : Int) * S.elem = x at *
  generalize hy : S.slots * S.elem = y at *
  have e0 : u64 (S.base + x - S.base) = x := by rw [show S.base + x - S.base = x by omega, u64_id (by omega) (by omega)]
  have e1 : u64 (u64 S.slots * u64 S.elem) = y := by rw [u64_id (n := S.slots) (by omega) (by omega), u64_id (n := S.elem) (by omega) (by omega), hy, u64_id (by omega) (by omega)]
  refine JOIN_in ⟨_, Hd.cell0 rfl, CND_dec (fun g => absurd g (by omega)) fun _ => ⟨_, Hd.cell0 rfl, _, Hd.cell rfl, _, Hd.cell rfl, fun j => ?_⟩⟩
  rw [e0, e1]
  refine CND_dec (fun g => absurd g (by omega)) fun _ => ⟨_, Hd.cell0 rfl, _, Hd.cell rfl, ?_⟩
  refine CND_dec (fun g => absurd g (by omega)) fun _ => ⟨_, Hd.cell rfl, ?_⟩
  rw [e0, u64_id (n := S.elem) (by omega) (by omega)]
  have e2 : Int.tdiv x S.elem = n := by rw [Int.tdiv_eq_ediv_of_nonneg hnn, <- hx, Int.mul_ediv_cancel _ (by omega)]
  rw [e2]
  refine ⟨by omega, LET_intro fun t ht => ?_⟩
  have : t = (n : Int) := by rw [ht, u64_id (by omega) (by omega), i64_id (by omega) (by omega)]
  rw [this]
  exact hK _ (Sat.span.2 ⟨su, sm, Hd⟩)
def manOf (page pages elem : Int) : SI := ⟨page * 8192, pages, 2, 0, false, elem, pages * 8192 / elem, 0, false, false, 0, [], [], 0⟩
def manBad (pages elem : Int) : Prop := pages = 0 ∨ 134217728 < pages ∨ elem < 8 ∨ pages * 8192 < elem
theorem spman_spec (H : Sat Z w) {page pages elem : Int} (h0 : 0 <= page) (p0 : 0 <= pages) (p1 : pages < 18446744073709551616) (hpp : page + pages <= 34359738368 ∨ page = 0) (e0 : elem < 9223372036854775808) {K : Option Addr -> Int -> World -> Prop}
    (hk0 : manBad pages elem -> K none 1 w) (hk1 : ¬ manBad pages elem -> ∀ b w', Sat (SpanP E b (manOf page pages elem) :: Z) w' -> K (some ⟨b, 0, none⟩) 0 w') : F.span_Manual E page pages elem K w := by
  unfold F.span_Manual
  have hbad : manBad pages elem -> K none 1 w := hk0
  refine JOIN_in (CND_eq (fun e j => CND_t rfl (hbad (.inl e))) fun n1 => CND_dec (fun e => absurd e (by omega)) fun n2 => ?_)
  rw [u64_id (n := 34359738368 - page) (by omega) (by omega)]
  refine CND_dec (fun e j => CND_t rfl (hbad (.inr (.inl (by omega))))) fun n3 => CND_dec (fun e j => CND_t rfl (hbad (.inr (.inl e)))) fun n4 => CND_dec (fun e j => CND_t rfl (hbad (.inr (.inr (.inl e))))) fun n5 j => ?_
  rw [u64_id (n := elem) (by omega) (by omega), u64_id (n := pages * 8192) (by omega) (by omega)]
  refine CND_dec (fun e => hbad (.inr (.inr (.inr e)))) fun n6 => ⟨by omega, ?_⟩
  rw [u64_id (n := page * 8192) (by omega) (by omega), i64_id (n := pages) (by omega) (by omega), i64_id (n := pages * 8192) (by omega) (by omega), Int.tdiv_eq_ediv_of_nonneg (by omega)]
  have hd : 0 <= pages * 8192 / elem /\ pages * 8192 / elem <= pages * 8192 := ⟨Int.ediv_nonneg (by omega) (by omega), Int.ediv_le_self _ (by omega)⟩
  rw [i64_id (n := pages * 8192 / elem) (by omega) (by omega)]
  refine AL_cells (vs := [.int .u64 (page * 8192), .int .i64 pages, .int .i64 2, .int .i64 0, .bool false, .int .i64 elem, .int .i64 (pages * 8192 / elem), .int .i64 0, .bool false, .bool false, .int .u32 0, .slice none 0 0, .slice none 0 0, .int .i64 0]) H fun b4 w5 H5 _ => ?_
  refine hk1 (by unfold manBad; omega) b4 w5 (Sat.span.2 ⟨⟨none, 0, 0⟩, ⟨none, 0, 0⟩, ?_⟩)
  have h2 := H5.nil E.t_uint64 1
  have h3 := h2.nil E.t_uint64 1
  exact h3.perm ((List.reverse_perm [_, _, _]).symm.append_right Z)
theorem manOf_spU {page pages elem : Int} (h : 0 <= pages * 8192 / elem /\ pages * 8192 / elem <= 63) : SpU (manOf page pages elem) fun _ => false :=
  ⟨.inl ⟨rfl, fun _ => rfl⟩, fun i hi => (by cases hi), h, by show (0 : Int) = _; rw [cN_full (m := 0) (fun i => ⟨fun h => (by cases h), fun h => by omega⟩)]; rfl, ⟨Int.le_refl 0, h.1, fun i hi => by have hi : (i : Int) < 0 := hi; omega⟩⟩
end
end
end Go.Sh

set_option linter.all false
set_option maxRecDepth 8000
set_option maxHeartbeats 2000000
namespace Go.Sh
def HS.put (S : HS) (id : Int) (x : Nat × SI) : HS := { S with sp := fun i => if i = id then some x else S.sp i }
section
variable {S : HS} {fl : Int -> Bool} {id : Int} {x : Nat × SI} {I : SI}
theorem HInv.put (h : HInv S fl) (hx : S.sp id = some x) (h1 : I.base = x.2.base) (h2 : I.pages = x.2.pages) (h3 : I.state ≠ 0) : HInv (S.put id (x.1, I)) fl := by
  refine ⟨h.cr, h.cd, h.fn, fun p hp => ?_, h.o0, h.li, h.cv, h.ks, h.la, h.rd, fun i y hy => ?_, fun i => ?_, h.fb, h.pg, h.h0, h.h1⟩
  · obtain ⟨a, b, c, y, hy, h4, h5⟩ := h.ow p hp
    refine ⟨a, b, c, ?_⟩
    by_cases e : S.own p = id
    · refine ⟨(x.1, I), if_pos e, ?_⟩
      rw [e, hx] at hy
      cases hy
      rw [h1, h2]; exact ⟨h4, h5⟩
    · exact ⟨y, (if_neg e).trans hy, h4, h5⟩
  · have hy : (if i = id then some (x.1, I) else S.sp i) = some y := hy
    by_cases e : i = id
    · rw [if_pos e] at hy
      cases hy
      obtain ⟨a, b, c, _, d⟩ := h.sp id x hx
      subst e
      refine ⟨a, by rw [h1]; exact b, by rw [h2]; exact c, h3, ?_⟩
      rw [h1, h2]; exact d
    · rw [if_neg e] at hy
      exact h.sp i y hy
  · show (if i = id then some (x.1, I) else S.sp i) ≠ none ↔ _
    refine Iff.trans ?_ (h.sf i)
    by_cases e : i = id
    · rw [if_pos e, e, hx]; simp
    · rw [if_neg e]
theorem HS.put_sp : (S.put id x).sp id = some x := if_pos rfl
theorem HS.put_ne {i : Int} (h : i ≠ id) : (S.put id x).sp i = S.sp i := if_neg h
end
section
variable {E : Env} {h : Nat} {S : HS} {Z : List Pr} {w : World}
theorem nodup_erase {α : Type} : ∀ {l : List α} {i : Nat} {x : α}, l.Nodup -> l[i]? = some x -> x ∉ l.eraseIdx i
  | [], i, x, _, h => by simp at h
  | y :: l, 0, x, hn, h => by
    simp at h; subst h
    simpa using (List.nodup_cons.1 hn).1
  | y :: l, i + 1, x, hn, h => by
    have hn := List.nodup_cons.1 hn
    have h : l[i]? = some x := by simpa using h
    have ih := nodup_erase hn.2 h
    rw [List.eraseIdx_cons_succ, List.mem_cons]
    rintro (e | e)
    · subst e; exact hn.1 (List.mem_of_getElem? h)
    · exact ih e
theorem Sat.heapPut (H : Sat (HeapP E h S :: Z) w) {id : Int} {x : Nat × SI} (hx : S.sp id = some x) : ∃ R : List Pr, Sat (SpanP E x.1 x.2 :: R) w /\ ∀ {I : SI} {w'}, Sat (SpanP E x.1 I :: R) w' -> Sat (HeapP E h (S.put id (x.1, I)) :: Z) w' := by
  obtain ⟨g, hI, H⟩ := Sat.heap.1 H
  have hm : id ∈ g.ids := (hI.mem id).2 (by rw [hx]; exact fun h => by cases h)
  obtain ⟨i, hi⟩ := List.mem_iff_getElem?.1 hm
  have H1 := (H.front 6 rfl).manyGet hi
  have e : spR E S.sp id = SpanP E x.1 x.2 := by unfold spR; rw [hx]
  rw [e] at H1
  refine ⟨_, H1, fun {I w'} h' => Sat.heap.2 ⟨g, ⟨hI.nd, fun j => ?_⟩, ?_⟩⟩
  · rw [hI.mem]
    show _ ↔ (if j = id then some (x.1, I) else S.sp j) ≠ none
    by_cases e : j = id
    · rw [if_pos e, e, hx]; simp
    · rw [if_neg e]
  · have e1 : spR E (S.put id (x.1, I)).sp id = SpanP E x.1 I := by unfold spR; rw [HS.put_sp]
    have e2 : Many (spR E S.sp) (g.ids.eraseIdx i) = Many (spR E (S.put id (x.1, I)).sp) (g.ids.eraseIdx i) := Many.congr fun j hj => by
      have : j ≠ id := fun e => nodup_erase hI.nd hi (e ▸ hj)
      unfold spR; rw [HS.put_ne this]
    rw [<- e1, e2] at h'
    have h2 := Sat.manyBack h' hi
    have h3 := Sat.back (Ps := hres E h S g ++ Z) 6 h2 (by simp [hres])
    have e3 : spMap S.sp = spMap (S.put id (x.1, I)).sp := by
      funext j
      unfold spMap
      by_cases e : j = id
      · rw [e, HS.put_sp, hx]; rfl
      · rw [HS.put_ne e]
    have e4 : (hres E h S g ++ Z).set 6 (Many (spR E (S.put id (x.1, I)).sp) g.ids) = hres E h (S.put id (x.1, I)) g ++ Z := by
      show [Cells h E.t_mheap_Heap (hcells g S.hint S.pages), VmemP E g.m S.V, TreeV E g.t S.T, ArenaP E g.a S.ks S.own, FixP E g.f S.fx, MapF g.sm .i64 (spMap S.sp), _, _] ++ Z = _
      rw [e3]; rfl
    rw [e4] at h3
    exact h3
variable (hE : EnvA E)
include hE
theorem hmanual_spec (hT : ∀ w', Sat Z w' -> TabAt E.g_math_bits_deBruijn64tab w') (H : Sat (HeapP E h S :: Z) w) (hI : HInv S no) {n el : Int} (n0 : 0 <= n) (n1 : n < 18446744073709551616) (e1 : el < 9223372036854775808) {K : Int -> Int -> World -> Prop}
    (hk0 : manBad n el -> ∀ w', Sat (HeapP E h S :: Z) w' -> K 0 1 w')
    (hk1 : ¬ manBad n el -> ∀ S2, Lost S (-1) n S2 -> HInv S2 no -> ∀ w', Sat (HeapP E h S2 :: Z) w' -> K 0 13 w')
    (hk2 : ¬ manBad n el -> ∀ page S2 b id X, Found S (-1) n page S2 -> HInv S2 (inr page n) -> 0 <= page -> page + n <= 34359738368 -> Next S2 id X -> HInv (S2.keep id (b, manOf page n el) page n X) no -> ∀ w', Sat (HeapP E h (S2.keep id (b, manOf page n el) page n X) :: Z) w' -> K id 0 w') :
    F.mheap_Heap_Manual E (some ⟨h, 0, none⟩) n el K w := by
  unfold F.mheap_Heap_Manual T0.mheap_Heap_Manual
  refine spman_spec H (by decide) n0 n1 (.inr rfl) e1 (fun hb => CND_t rfl (hk0 hb _ H)) fun hgood b0 w3 H3 => CND_f rfl ?_
  have hg := hgood
  unfold manBad at hg
  refine hfind_spec hE hT H3.tail hI (by omega) (by omega) (fun page S2 hf hI2 q0 q1 hr w6 H6 => CND_f rfl ?_) fun S2 hl hI2 w6 H6 => CND_t rfl (hk1 hgood S2 hl hI2 w6 H6)
  refine spman_spec H6 q0 n0 n1 (.inl q1) e1 (fun hb => absurd hb hgood) fun _ b w9 H9 => ?_
  exact hkeep_spec hE H9 hI2 q0 (by omega) q1 hr rfl rfl (by show (2 : Int) ≠ 0; decide) fun id X hX hI3 w11 H11 => hk2 hgood page S2 b id X hf hI2 q0 q1 hX hI3 w11 H11
end
end Go.Sh
