/- What the heap's laws share. No further condition. -/
import Derived.Test.YtbmbflhcebdjgaaGreatDoorH
import Derived.Test.YtbmbflhcebdjgaaGreatDoorY
import Derived.Test.YtbmbflhcebdjgaaGreatDoorA
import Derived.Test.YtbmbflhcebdjgaaGreatDoorC
import Derived.Test.YtbmbflhcebdjgaaGreatDoorR
set_option linter.all false
set_option maxRecDepth 8000
set_option maxHeartbeats 2000000
namespace Go.Sh
theorem Found.induct {P : HS -> Prop} {S S2 : HS} {p n page : Int} (hS : P S) (h1 : ∀ S i q, i < 64 -> P S -> P (S.fill i q)) (h2 : ∀ S i k n, P S -> P (S.calloc i k n)) (h3 : ∀ S page n, P S -> P (S.talloc page n))
    (h4 : ∀ S V at_ N, P S -> P (S.grown V at_ N)) (h5 : ∀ S V, P S -> P { S with V := V }) (h : Found S p n page S2) : P S2 := by
  have hf : ∀ {i S1}, i < 64 -> Filled S i S1 -> P S1 := fun {i S1} hi h => by
    rcases h with ⟨_, q, _, rfl⟩ | ⟨_, rfl⟩
    · exact h1 _ _ _ hi hS
    · exact hS
  have ht : ∀ {S1}, Tried S p n S1 -> P S1 := fun {S1} h => by
    rcases h with ⟨_, rfl⟩ | ⟨i, hi, _, _, h, _⟩
    · exact hS
    · exact hf hi h
  obtain ⟨S1, hk, hm⟩ := h
  have hP1 : P S1 := by
    rcases hk with (⟨S0, i, k, hi, _, _, hfl, _, _, _, _, rfl⟩ | ⟨S0, htr, _, rfl⟩) | ⟨S0, S0', htr, _, ⟨_, at_, _, rfl⟩, _, rfl⟩
    · exact h2 _ _ _ _ (hf hi hfl)
    · exact h3 _ _ _ (ht htr)
    · exact h3 _ _ _ (h4 _ _ _ _ (ht htr))
  rcases hm with ⟨_, rfl⟩ | ⟨_, _, rfl⟩
  · exact hP1
  · exact h5 _ _ hP1
structure Same (S S2 : HS) : Prop where
  sp : S2.sp = S.sp
  own : S2.own = S.own
  fx : S2.fx = S.fx
  pages : S2.pages = S.pages
theorem Found.same {S S2 : HS} {p n page : Int} (h : Found S p n page S2) : Same S S2 :=
  h.induct (P := Same S) ⟨rfl, rfl, rfl, rfl⟩ (fun _ _ _ _ h => ⟨h.sp, h.own, h.fx, h.pages⟩) (fun _ _ _ _ h => ⟨h.sp, h.own, h.fx, h.pages⟩) (fun _ _ _ h => ⟨h.sp, h.own, h.fx, h.pages⟩) (fun _ _ _ _ h => ⟨h.sp, h.own, h.fx, h.pages⟩) fun _ _ h => ⟨h.sp, h.own, h.fx, h.pages⟩
structure LaidB (S : HS) (b : Int) : Prop where
  la : ∀ p, mem S.V.laid p ↔ 512 <= p /\ p < b
  b0 : 512 <= b
  b1 : b % 512 = 0
  h0 : 0 <= S.hint
  h1 : S.hint <= b
  pl : S.V.pl = []
  rf : S.V.rf = []
theorem LaidB.new (fl : List Int) : LaidB (HS.new (newV [] [] fl)) 512 := ⟨fun p => ⟨fun h => absurd h (mem_nil p), fun h => by omega⟩, Int.le_refl _, rfl, Int.le_refl _, by show (0 : Int) <= 512; decide, rfl, rfl⟩
section
variable {S S2 : HS} {b p n page : Int}
theorem upN_le (n : Int) : n <= upN n /\ upN n < n + 512 /\ upN n % 512 = 0 := by unfold upN; omega
theorem LaidB.placed (h : LaidB S b) {hint N at_ : Int} (hN : 0 < N) (hh : hint <= b) (hp : Placed S.V.laid hint N at_) : at_ = b := by
  have h1 := hp.low
  have h2 := hp.mul
  have b0 := h.b0
  have b1 := h.b1
  by_cases g : b < at_
  · obtain ⟨m, m1, m2, m3⟩ := hp.first b b1 b0 hh g
    have := (h.la m).1 m3
    omega
  · by_cases g2 : at_ < b
    · exact absurd ((h.la at_).2 ⟨h1, g2⟩) (hp.free at_ (Int.le_refl _) (by omega))
    · omega
theorem LaidB.chosen (h : LaidB S b) {N at_ : Int} (hN : 0 < N) (hc : Chosen S.V S.hint N at_) : at_ = b := by
  have := h.h0
  have := h.h1
  rcases hc with ⟨p, r, e, _⟩ | ⟨_, ⟨_, h1, _⟩ | ⟨_, _, h1, _⟩⟩
  · rw [h.pl] at e; cases e
  · exact h.placed hN (by omega) h1
  · exact h.placed hN (by have := h.b0; omega) h1
theorem LaidB.unplaced (h : LaidB S b) {N : Int} (hN : 0 < N) (hb : b + N <= 34359738368) (hu : Unplaced S.V S.hint N) : False := by
  have := h.h1
  obtain ⟨_, g | ⟨a, g1, g2⟩, _⟩ := hu
  · omega
  · have := h.placed hN h.h1 g1
    omega
theorem LaidB.sameV (h : LaidB S b) (e1 : S2.V = S.V) (e2 : S2.hint = S.hint) : LaidB S2 b := ⟨by rw [e1]; exact h.la, h.b0, h.b1, by rw [e2]; exact h.h0, by rw [e2]; exact h.h1, by rw [e1]; exact h.pl, by rw [e1]; exact h.rf⟩
theorem Filled.V {i : Nat} (h : Filled S i S2) : S2.V = S.V /\ S2.hint = S.hint := by
  rcases h with ⟨_, q, _, rfl⟩ | ⟨_, rfl⟩ <;> exact ⟨rfl, rfl⟩
theorem Tried.V (h : Tried S p n S2) : S2.V = S.V /\ S2.hint = S.hint := by
  rcases h with ⟨_, rfl⟩ | ⟨i, _, _, _, h, _⟩
  · exact ⟨rfl, rfl⟩
  · exact h.V
theorem LaidB.made (h : LaidB S b) (hm : Made S page n S2) : LaidB S2 b := by
  rcases hm with ⟨_, rfl⟩ | ⟨_, _, rfl⟩
  · exact h
  · exact ⟨h.la, h.b0, h.b1, h.h0, h.h1, h.pl, by show S.V.rf.tail = []; rw [h.rf]; rfl⟩
theorem LaidB.grew' (h : LaidB S b) (hk : Ok S.V.laid) (hn : 1 <= n) (hg : Grew S n S2) (hb : b + upN n <= 34359738368) : LaidB S2 (b + upN n) /\ S2 = S.grown { S.V with rf := S.V.rf.tail, pl := S.V.pl.tail, laid := addL S.V.laid b (b + upN n) } b (upN n) := by
  obtain ⟨_, at_, hc, rfl⟩ := hg
  have hu := upN_le n
  have b0 := h.b0
  have b1 := h.b1
  have := h.chosen (by omega) hc
  subst this
  refine ⟨⟨fun q => ?_, by omega, by omega, by show 0 <= at_ + upN n; omega, Int.le_refl _, by show S.V.pl.tail = []; rw [h.pl]; rfl, by show S.V.rf.tail = []; rw [h.rf]; rfl⟩, rfl⟩
  refine (mem_addL hk (by omega) (by omega) (by omega) q).trans ?_
  rw [h.la]; omega
theorem LaidB.lost (hL : LaidB S b) (hn : 1 <= n) (hb : b + upN n <= 34359738368) (h : Lost S p n S2) : False := by
  have hu := upN_le n
  rcases h with ⟨S0, htr, _, ⟨r, hr, _⟩ | ⟨_, hup, _⟩⟩ | ⟨S1, page, r, hk, _, hr, _⟩
  · rw [(hL.sameV htr.V.1 htr.V.2).rf] at hr; cases hr
  · exact (hL.sameV htr.V.1 htr.V.2).unplaced (by omega) hb hup
  · have e : S1.V.rf = [] := by
      rcases hk with (⟨S0, i, k, hi, _, _, hfl, _, _, _, _, rfl⟩ | ⟨S0, htr, _, rfl⟩) | ⟨S0, S0', htr, _, ⟨_, at_, hc, rfl⟩, _, rfl⟩
      · show S0.V.rf = []
        rw [hfl.V.1]; exact hL.rf
      · show S0.V.rf = []
        rw [htr.V.1]; exact hL.rf
      · show S0.V.rf.tail = []
        rw [htr.V.1, hL.rf]; rfl
    rw [e] at hr; cases hr
theorem first1 {V : TV} {p : Int} (h : firstB V 1 p) : V.fr p = true := h.2.2.1 p (Int.le_refl _) (by omega)
def FrR (S : HS) (a b : Int) : Prop := ∀ p, S.T.fr p = true ↔ a <= p /\ p < b
theorem FrR.first {a : Int} (h : FrR S a b) (hn : 1 <= n) (hf : firstB S.T n page) : page = a /\ a + n <= b := by
  obtain ⟨_, _, h1, h2⟩ := hf
  have q1 := (h page).1 (h1 page (Int.le_refl _) (by omega))
  have q2 := (h (page + n - 1)).1 (h1 (page + n - 1) (by omega) (by omega))
  have := h2 a fun m m1 m2 => (h m).2 (by omega)
  omega
theorem FrR.none {a : Int} (h : FrR S a b) (hno : ∀ q, ¬ rowB S.T.fr q n) : b < a + n := by
  refine Classical.byContradiction fun g => hno a fun m m1 m2 => (h m).2 (by omega)
theorem FrR.taken {a : Int} (h : FrR S a b) (hn : 0 <= n) : FrR (S.talloc a n) (a + n) b := fun p => by
  refine take_fr.trans ?_
  rw [h p]; omega
theorem FrR.grown {a : Int} (h : FrR S a b) {V : VS} {N : Int} (h1 : b % 512 = 0) (h2 : N % 512 = 0) (h3 : 0 <= N) (hab : a <= b) : FrR (S.grown V b N) a (b + N) := fun p => by
  show (S.T.fr p || inr (b / 512 * 512) (N / 512 * 512) p) = true ↔ _
  rw [Bool.or_eq_true, h p, inr_iff]
  omega
theorem FrR.new (V : VS) : FrR (HS.new V) 512 512 := fun p => ⟨fun h => (by cases h), fun h => by omega⟩
theorem Found.row (h : Found S p n page S2) {a : Int} (hL : LaidB S b) (hk : HOk S) (hF : FrR S a b) (hab : a <= b) (hn : 1 <= n) (hb : b + upN n <= 34359738368) (hT : ∀ S0, Tried S p n S0 -> S0 = S) (hno : ∀ S0 page, Got S p n page S0 -> S0 = S.talloc page n /\ firstB S.T n page) :
    ∃ b', (b' = b ∨ b' = b + upN n) /\ page = a /\ a + n <= b' /\ LaidB S2 b' /\ FrR S2 (a + n) b' /\ S2.ca = S.ca /\ (b' = b -> ∀ V, { S2 with V := V } = { S.talloc a n with V := V }) /\ (a + n <= b -> b' = b) := by
  obtain ⟨S1, h, hm⟩ := h
  have hu := upN_le n
  have hs : ∀ {S1 S2 : HS}, Made S1 page n S2 -> S2.ca = S1.ca /\ S2.T = S1.T /\ ∀ V, { S2 with V := V } = { S1 with V := V } := fun h => by
    rcases h with ⟨_, rfl⟩ | ⟨_, _, rfl⟩ <;> exact ⟨rfl, rfl, fun _ => rfl⟩
  obtain ⟨s1, s2, s3⟩ := hs hm
  rcases h with h | ⟨S0, S0', htr, hnone, hg, hf, rfl⟩
  · obtain ⟨rfl, hf⟩ := hno _ _ h
    obtain ⟨rfl, h1⟩ := hF.first hn hf
    refine ⟨b, .inl rfl, rfl, h1, (hL.sameV rfl rfl : LaidB (S.talloc page n) b).made hm, fun q => ?_, s1, fun _ => s3, fun _ => rfl⟩
    rw [s2]; exact hF.taken (by omega) q
  · obtain rfl := hT _ htr
    obtain ⟨h1, e0⟩ := hL.grew' hk.vv.ok1 hn hg hb
    have hL2 : LaidB S2 (b + upN n) := (h1.sameV rfl rfl : LaidB (S0'.talloc page n) (b + upN n)).made hm
    subst e0
    have hF' : FrR (S0.grown { S0.V with rf := S0.V.rf.tail, pl := S0.V.pl.tail, laid := addL S0.V.laid b (b + upN n) } b (upN n)) a (b + upN n) := hF.grown hL.b1 hu.2.2 (by omega) hab
    obtain ⟨rfl, h2⟩ := hF'.first hn hf
    have hl := hF.none hnone
    refine ⟨b + upN n, .inr rfl, rfl, h2, hL2, fun q => ?_, s1, fun e => by omega, fun e => by omega⟩
    rw [s2]; exact hF'.taken (by omega) q
theorem tried_no (h : ¬ (0 <= p /\ p < 64 /\ n < 16)) {S0 : HS} (ht : Tried S p n S0) : S0 = S := by
  rcases ht with ⟨_, rfl⟩ | ⟨i, hi, rfl, hn, _⟩
  · rfl
  · omega
theorem got_no (h : ¬ (0 <= p /\ p < 64 /\ n < 16)) {S0 : HS} {page : Int} (ht : Got S p n page S0) : S0 = S.talloc page n /\ firstB S.T n page := by
  rcases ht with ⟨S0, i, k, hi, rfl, hn, _⟩ | ⟨S0, ht, hf, rfl⟩
  · omega
  · rw [tried_no h ht] at hf ⊢; exact ⟨rfl, hf⟩
theorem tried_nofree (hfr : ∀ q, S.T.fr q = false) {S0 : HS} (hn : 1 <= n) (ht : Tried S p n S0) : S0 = S := by
  rcases ht with ⟨_, rfl⟩ | ⟨i, hi, rfl, _, ⟨_, q, hq, _⟩ | ⟨_, rfl⟩, _⟩
  · rfl
  · have := first1 hq
    rw [hfr] at this; cases this
  · rfl
theorem got_nofree (hfr : ∀ q, S.T.fr q = false) (hc : ∀ i, i < 64 -> (S.ca i).empty) {S0 : HS} {page : Int} (hn : 1 <= n) (ht : Got S p n page S0) : S0 = S.talloc page n /\ firstB S.T n page := by
  rcases ht with ⟨S1, i, k, hi, rfl, _, hfl, hr, _⟩ | ⟨S0, ht, hf, rfl⟩
  · exfalso
    rcases hfl with ⟨_, q, hq, _⟩ | ⟨_, rfl⟩
    · have := first1 hq
      rw [hfr] at this; cases this
    · have := hr 0 (by omega)
      rw [hc i hi] at this; cases this
  · rw [tried_nofree hfr hn ht] at hf ⊢; exact ⟨rfl, hf⟩
end
end Go.Sh

set_option linter.all false
set_option maxRecDepth 4000
set_option maxHeartbeats 4000000
namespace Go.Sh
theorem al_slotG (i : Nat) {t : Nat} {Ps : List Pr} {w : World} {K : Nat -> World -> Prop} (H : Sat Ps w) (hi : Ps[i]? = some Emp) (hK : ∀ b w', Sat (Ps.set i (Row t 1 ⟨some ⟨b, 0, none⟩, 0, 0⟩ [])) w' -> K b w') : AL (.cells ⟨[]⟩ t) w K :=
  AL_rows (n := 0) (z := 1) (H.front i hi).tail rfl (by decide) fun b w' H' => hK b w' (Sat.back i H' (List.getElem?_eq_some_iff.1 hi).1)
theorem app_slotG (i : Nat) {t bytes b : Nat} {zs : Array Value} {a : SlV} {vs : List Value} {Ps : List Pr} {w : World} {K : SlV -> World -> Prop} (H : Sat Ps w) (hi : Ps[i]? = some (Row t 1 ⟨some ⟨b, 0, none⟩, 0, 0⟩ [])) (hz : zs.size = 1)
    (hrow : ∀ w', Sat (Ps.eraseIdx i) w' -> rowAt w' a.base a.len vs) (hl : vs.length = a.len) (hlen : a.len <= 1099511627776) (hby : bytes <= 8) (ho : ∀ v ∈ vs, v.oneCell' = true) (hK : ∀ s' w', Sat (Ps.set i (Row t 1 s' vs)) w' -> K s' w') :
    APP t 1 bytes zs ⟨some ⟨b, 0, none⟩, 0, 0⟩ a w K := by
  have hm : (0 + a.len) * bytes <= 1099511627776 * 8 := Nat.mul_le_mul (by omega) hby
  exact APP_row (H.front i hi) hz (by simpa using hrow w (H.front i hi).tail) (by simpa using hl) ho (by simp only; omega) (by simp only; omega) fun s' w' H' _ => hK s' w' (Sat.back i H' (List.getElem?_eq_some_iff.1 hi).1)
theorem oneIntsG (k : IntKind) (l : List Int) : ∀ v ∈ ints k l, v.oneCell' = true := by intro v hv; simp [ints] at hv; obtain ⟨x, _, rfl⟩ := hv; rfl
theorem oneBoolsG (l : List Bool) : ∀ v ∈ bools l, v.oneCell' = true := by intro v hv; simp [bools] at hv; rcases hv with ⟨_, rfl⟩ | ⟨_, rfl⟩ <;> rfl
section
variable {E : Env} {b c : Nat} {V : VS} {Z Rs : List Pr} {w : World}
theorem given_finG {b1 b3 t1 t3 : Nat} {us : List Value} {s0 s1 s2 : SlV} {r0 r1 r2 : List Value} {K : SlV -> SlV -> SlV -> World -> Prop}
    (hK : ∀ s0 s1 s2 w', Sat (Row E.t_uint64 1 s0 r0 :: Row E.t_bool 1 s1 r1 :: Row E.t_uint64 1 s2 r2 :: Rs) w' -> K s0 s1 s2 w')
    (H : Sat (Cells b1 t1 us :: Row E.t_uint64 1 s0 r0 :: Row E.t_bool 1 s1 r1 :: Row E.t_uint64 1 s2 r2 :: Cells b3 t3 [.slice none 0 0, .slice none 0 0, .slice none 0 0] :: Rs) w) :
    stCells (Addr.mk b3 0 none) 0 [.slice s0.base s0.len s0.cap, .slice s1.base s1.len s1.cap, .slice s2.base s2.len s2.cap] w fun w20 =>
          ∃ c21 : SlV, w20.cell? ((Addr.mk b3 0 none).add 0) = some (.slice c21.base c21.len c21.cap) /\
          ∃ c22 : SlV, w20.cell? ((Addr.mk b3 0 none).add 1) = some (.slice c22.base c22.len c22.cap) /\
          ∃ c23 : SlV, w20.cell? ((Addr.mk b3 0 none).add 2) = some (.slice c23.base c23.len c23.cap) /\
          K c21 c22 c23 w20 := by
  refine st_all (news := [.slice s0.base s0.len s0.cap, .slice s1.base s1.len s1.cap, .slice s2.base s2.len s2.cap]) (H.tail.front 3 rfl) rfl (by intro v hv; simp at hv; rcases hv with rfl | rfl | rfl <;> rfl) fun w' H' => ⟨s0, H'.cell rfl, s1, H'.cell rfl, s2, H'.cell rfl, hK _ _ _ _ H'.tail⟩
end
end Go.Sh

set_option linter.all false
set_option maxRecDepth 8000
set_option maxHeartbeats 4000000
namespace Go.Sh
section
variable {E : Env} {w : World} {Rs Z : List Pr}
theorem given16_spec (H : Sat Rs w) {a0 a1 a2 : SlV} {pl : List Int} {rf : List Bool} {fl : List Int}
    (h0 : ∀ w', Sat Rs w' -> rowAt w' a0.base a0.len (ints .u64 pl)) (l0 : pl.length = a0.len) (k0 : a0.len <= 1099511627776)
    (h1 : ∀ w', Sat Rs w' -> rowAt w' a1.base a1.len (bools rf)) (l1 : rf.length = a1.len) (k1 : a1.len <= 1099511627776)
    (h2 : ∀ w', Sat Rs w' -> rowAt w' a2.base a2.len (ints .u64 fl)) (l2 : fl.length = a2.len) (k2 : a2.len <= 1099511627776)
    {K : SlV -> SlV -> SlV -> World -> Prop} (hK : ∀ s0 s1 s2 w', Sat (Row E.t_uint64 1 s0 (ints .u64 pl) :: Row E.t_bool 1 s1 (bools rf) :: Row E.t_uint64 1 s2 (ints .u64 fl) :: Rs) w' -> K s0 s1 s2 w') : F.mallowlaw16_given E a0 a1 a2 K w := by
  unfold F.mallowlaw16_given
  have l0' : (ints IntKind.u64 pl).length = a0.len := by rw [ints, List.length_map]; exact l0
  have l1' : (bools rf).length = a1.len := by rw [bools, List.length_map]; exact l1
  have l2' : (ints IntKind.u64 fl).length = a2.len := by rw [ints, List.length_map]; exact l2
  refine AL_cells (vs := [slV a0, slV a1, slV a2]) H fun b1 w2 H2 _ => ?_
  refine AL_cells (vs := [.slice none 0 0, .slice none 0 0, .slice none 0 0]) H2 fun b3 w4 H4 _ => ?_
  have Hd : Sat (Cells b1 E.t_api_Answers [slV a0, slV a1, slV a2] :: Emp :: Emp :: Emp :: Cells b3 E.t_api_Answers [.slice none 0 0, .slice none 0 0, .slice none 0 0] :: Rs) w4.drew := (H4.drew.emp.emp.emp).front 4 rfl
  clear H2 H4
  have t4 : ∀ {P0 P1 P2 P3 : Pr} {w'}, Sat (P0 :: P1 :: P2 :: P3 :: Rs) w' -> Sat Rs w' := fun h => h.tail.tail.tail.tail
  refine ⟨a0, Hd.cell0 rfl, a1, Hd.cell rfl, a2, Hd.cell rfl, ?_⟩
  repeat' first
    | (exact Sat.cell (by assumption) (by rfl))
    | (exact Sat.cell0 (by assumption) (by rfl))
    | (refine app_slotG 1 (a := a0) (vs := ints .u64 pl) (by assumption) (by rfl) rfl (by intro w' h; exact h0 w' (t4 h)) l0' k0 (by decide) (oneIntsG _ _) fun s' w' H' => ?_)
    | (refine app_slotG 1 (a := a2) (vs := ints .u64 fl) (by assumption) (by rfl) rfl (by intro w' h; exact h2 w' (t4 h)) l2' k2 (by decide) (oneIntsG _ _) fun s' w' H' => ?_)
    | (refine app_slotG 2 (a := a1) (vs := bools rf) (by assumption) (by rfl) rfl (by intro w' h; exact h1 w' (t4 h)) l1' k1 (by decide) (oneBoolsG _) fun s' w' H' => ?_)
    | (refine app_slotG 3 (a := a0) (vs := ints .u64 pl) (by assumption) (by rfl) rfl (by intro w' h; exact h0 w' (t4 h)) l0' k0 (by decide) (oneIntsG _ _) fun s' w' H' => ?_)
    | (refine app_slotG 3 (a := a2) (vs := ints .u64 fl) (by assumption) (by rfl) rfl (by intro w' h; exact h2 w' (t4 h)) l2' k2 (by decide) (oneIntsG _ _) fun s' w' H' => ?_)
    | (refine al_slotG 2 (t := E.t_bool) (by assumption) (by rfl) fun b' w' H' => ?_)
    | (refine al_slotG 1 (t := E.t_uint64) (by assumption) (by rfl) fun b' w' H' => ?_)
    | (refine al_slotG 3 (t := E.t_uint64) (by assumption) (by rfl) fun b' w' H' => ?_)
    | (exact given_finG hK (by assumption))
    | (exact given_finG hK (Sat.perm (by assumption) (.cons _ (((List.Perm.swap _ _ _).trans (.cons _ (.swap _ _ _))).trans (.swap _ _ _)))))
    | (refine And.intro ?_ ?_)
theorem fresh16_spec (H : Sat Rs w) {a0 a1 a2 : SlV} {pl : List Int} {rf : List Bool} {fl : List Int} (hpl : ∀ x ∈ pl, 0 <= x /\ x < 18446744073709551616)
    (h0 : ∀ w', Sat Rs w' -> rowAt w' a0.base a0.len (ints .u64 pl)) (l0 : pl.length = a0.len) (k0 : a0.len <= 1099511627776)
    (h1 : ∀ w', Sat Rs w' -> rowAt w' a1.base a1.len (bools rf)) (l1 : rf.length = a1.len) (k1 : a1.len <= 1099511627776)
    (h2 : ∀ w', Sat Rs w' -> rowAt w' a2.base a2.len (ints .u64 fl)) (l2 : fl.length = a2.len) (k2 : a2.len <= 1099511627776)
    {K : Option Addr -> World -> Prop} (hK : ∀ h w', Sat (HeapP E h (HS.new (newV pl rf fl)) :: Rs) w' -> K (some ⟨h, 0, none⟩) w') : F.mallowlaw16_fresh E a0 a1 a2 K w := by
  unfold F.mallowlaw16_fresh T0.mallowlaw16_fresh
  refine AL_cells (vs := [slV a0, slV a1, slV a2]) H fun b1 w2 H2 _ => ⟨a0, H2.cell rfl, a1, H2.cell rfl, a2, H2.cell rfl, ?_⟩
  refine given16_spec H2 (fun w' h => h0 w' h.tail) l0 k0 (fun w' h => h1 w' h.tail) l1 k1 (fun w' h => h2 w' h.tail) l2 k2 fun s0 s1 s2 w9 H9 => ?_
  have e0 : pl.length = s0.len := by have := (H9.front 0 rfl).rowLen; rw [ints, List.length_map] at this; omega
  have e1 : rf.length = s1.len := by have := (H9.front 1 rfl).rowLen; rw [bools, List.length_map] at this; omega
  have e2 : fl.length = s2.len := by have := (H9.front 2 rfl).rowLen; rw [ints, List.length_map] at this; omega
  refine vnew_spec H9 hpl (fun w' h => by simpa using (h.front 0 rfl).rowAll) e0 (by omega) (fun w' h => by simpa using (h.front 1 rfl).rowAll) e1 (by omega) (fun w' h => by simpa using (h.front 2 rfl).rowAll) e2 (by omega) fun b w11 H11 => CND_f rfl ?_
  refine hnew_spec H11 fun h w13 H13 => hK h w13 ?_
  exact ((((H13.front 1 rfl).tail.front 1 rfl).tail.front 1 rfl).tail.front 1 rfl).tail
theorem HInv.newV (pl : List Int) (rf : List Bool) (fl : List Int) : HInv (HS.new (Go.Sh.newV pl rf fl)) no := HInv.new rfl rfl
variable (hE : EnvA E)
include hE
theorem halloc_ok {h : Nat} {S : HS} (hT : ∀ w', Sat Z w' -> TabAt E.g_math_bits_deBruijn64tab w') (H : Sat (HeapP E h S :: Z) w) (hI : HInv S no) {p n c b : Int} {np : Bool} (hL : LaidB S b) (hg : ¬ spBad 0 n c) (n0 : 0 <= n) (hb : b + upN n <= 34359738368) {K : Int -> Int -> World -> Prop}
    (hK : 1 <= n -> ∀ page S2 bl id X, Found S p n page S2 -> HOk S -> HInv S2 (inr page n) -> 0 <= page -> page + n <= 34359738368 -> Next S2 id X -> HInv (S2.keep id (bl, spOf page n c np) page n X) no -> ∀ w', Sat (HeapP E h (S2.keep id (bl, spOf page n c np) page n X) :: Z) w' -> K id 0 w') :
    F.mheap_Heap_Alloc E (some ⟨h, 0, none⟩) p n c np K w := by
  have hok := H.hok
  have hg' := hg
  unfold spBad at hg'
  have hn : 1 <= n /\ n <= 134217728 := by
    by_cases e : c = 0
    · omega
    · have hcb := cls_bnd (c := c) (by omega) (by omega)
      omega
  exact halloc_spec hE hT H hI n0 (by omega) (fun hb' => absurd hb' hg) (fun _ S2 hl => (hL.lost hn.1 hb hl).elim) fun _ page S2 bl id X hf hI2 q0 q1 hX hI3 w' H' => hK hn.1 page S2 bl id X hf hok hI2 q0 q1 hX hI3 w' H'
end
structure Cst (S : HS) (i k : Nat) : Prop where
  fr : FrR S 576 1024
  base : (S.ca i).base = 512
  has : ∀ m, (S.ca i).has m = true ↔ k <= m /\ m < 64
  other : ∀ j, j ≠ i -> (S.ca j).empty
section
variable {S S2 : HS} {i k : Nat} {page : Int}
theorem Cst.first (hF : FrR S 513 1024) (hc : ∀ j, (S.ca j).empty) {S1 : HS} (h : Filled S i S1) : Cst S1 i 1 /\ S1.V = S.V /\ S1.hint = S.hint := by
  rcases h with ⟨_, q, hq, rfl⟩ | ⟨h | h, rfl⟩
  · have := (hF.first (n := 1) (by decide) hq).1
    subst this
    refine ⟨⟨fun p => ?_, ?_, fun m => ?_, fun j hj => ?_⟩, rfl, rfl⟩
    · refine take_fr.trans ?_
      rw [hF p]; omega
    · show (if i = i then filled S.T 513 else S.ca i).base = 512
      rw [if_pos rfl]; rfl
    · show (if i = i then filled S.T 513 else S.ca i).has m = true ↔ _
      rw [if_pos rfl]
      show (decide (m < 64) && S.T.fr (513 / 64 * 64 + m)) = true ↔ _
      rw [Bool.and_eq_true, decide_eq_true_eq, hF]; omega
    · show (if j = i then filled S.T 513 else S.ca j).empty
      rw [if_neg hj]; exact hc j
  · exact absurd (hc i) h
  · have := (hF 513).2 (by decide)
    rw [h] at this; cases this
theorem Cst.found (hfl : ∀ S1, Filled S i S1 -> Cst S1 i k /\ S1.V = S.V /\ S1.hint = S.hint) (hi : i < 64) (hk : k < 64) {b : Int} (hL : LaidB S b) (h : Found S i 1 page S2) : page = 512 + k /\ Cst S2 i (k + 1) /\ LaidB S2 b := by
  obtain ⟨S1, h, hm⟩ := h
  have hno : ∀ {S0}, Tried S i 1 S0 -> False := fun {S0} h => by
    rcases h with ⟨h, _⟩ | ⟨i', hi', e, _, hf, hno⟩
    · omega
    · obtain rfl : i' = i := by omega
      obtain ⟨hC, _⟩ := hfl _ hf
      refine hno k fun m hm => (hC.has _).2 ?_
      have : (1 : Int).toNat = 1 := rfl
      omega
  rcases h with (⟨S0, i', k', hi', e, _, hf, hr, hmin, h64, rfl, rfl⟩ | ⟨S0, ht, _⟩) | ⟨S0, S0', ht, _⟩
  · obtain rfl : i' = i := by omega
    obtain ⟨hC, e1, e2⟩ := hfl _ hf
    have e3 : (1 : Int).toNat = 1 := rfl
    rw [e3] at hr hmin h64 hm
    have q1 := (hC.has k').1 (by have := hr 0 (by decide); rwa [Nat.add_zero] at this)
    have q2 := hmin k fun m hm => (hC.has _).2 (by omega)
    obtain rfl : k' = k := by omega
    have hC2 : Cst (S0.calloc i' k' 1) i' (k' + 1) := by
      refine ⟨hC.fr, ?_, fun m => ?_, fun j hj => ?_⟩
      · show (if i' = i' then (S0.ca i').alloc k' 1 else S0.ca i').base = 512
        rw [if_pos rfl]; exact hC.base
      · show (if i' = i' then (S0.ca i').alloc k' 1 else S0.ca i').has m = true ↔ _
        rw [if_pos rfl]
        show ((S0.ca i').has m && !(decide (k' <= m) && decide (m < k' + 1))) = true ↔ _
        rw [Bool.and_eq_true, hC.has]
        by_cases g : m = k'
        · subst g; simp; omega
        · have : (decide (k' <= m) && decide (m < k' + 1)) = false := by
            by_cases g2 : k' <= m
            · rw [decide_eq_false (show ¬ m < k' + 1 by omega)]; simp
            · rw [decide_eq_false g2]; rfl
          rw [this]
          simp only [Bool.not_false, and_true]
          omega
      · show (if j = i' then (S0.ca i').alloc k' 1 else S0.ca j).empty
        rw [if_neg hj]; exact hC.other j hj
    refine ⟨by rw [hC.base], ?_, ((hL.sameV e1 e2).sameV rfl rfl : LaidB (S0.calloc i' k' 1) b).made hm⟩
    rcases hm with ⟨_, rfl⟩ | ⟨_, _, rfl⟩
    · exact hC2
    · exact ⟨hC2.fr, hC2.base, hC2.has, hC2.other⟩
  · exact (hno ht).elim
  · exact (hno ht).elim
theorem Cst.own (h : Cst S i k) {p : Int} : (S.ca i).own p = true ↔ 512 + (k : Int) <= p /\ p < 576 := by
  rw [own_iff, h.base, h.has]; omega
theorem Cst.own' (h : Cst S i k) {j : Nat} (hj : j ≠ i) (p : Int) : (S.ca j).own p = false := own_emp (h.other j hj) p
theorem Cst.keep (h : Cst S i k) (id : Int) (x : Nat × SI) (pg n : Int) (X : FX) : Cst (S.keep id x pg n X) i k := ⟨h.fr, h.base, h.has, h.other⟩
theorem LaidB.keep {b : Int} (h : LaidB S b) (id : Int) (x : Nat × SI) (pg n : Int) (X : FX) : LaidB (S.keep id x pg n X) b := ⟨h.la, h.b0, h.b1, h.h0, h.h1, h.pl, h.rf⟩
theorem first_found {fl : List Int} {p n : Int} (hk : HOk (HS.new (newV [] [] fl))) (hn : 1 <= n) (hn2 : n <= 512) (h : Found (HS.new (newV [] [] fl)) p n page S2) : page = 512 /\ FrR S2 (512 + n) 1024 /\ LaidB S2 1024 /\ ∀ j, S2.ca j = CS.nil := by
  have hfr : ∀ q, (HS.new (newV [] [] fl)).T.fr q = false := fun _ => rfl
  obtain ⟨b', h1, h2, h3, h4, h5, h6, _⟩ := h.row (LaidB.new fl) hk (FrR.new _) (Int.le_refl _) hn (by unfold upN; omega) (fun S0 ht => tried_nofree hfr hn ht) fun S0 pg ht => got_nofree hfr (fun _ _ _ => rfl) hn ht
  have e : upN n = 512 := by unfold upN; omega
  have e : b' = 1024 := by omega
  subst e
  exact ⟨h2, h5, h4, fun j => by rw [h6]; rfl⟩
theorem Next.top {id : Int} {X : FX} (h : Next S id X) {n : Nat} (e : S.fx = ⟨n, []⟩) : id = (n : Int) + 1 /\ X = ⟨n + 1, []⟩ := by
  rcases h with ⟨_, h2, h3⟩ | ⟨a, r, h1, _⟩
  · rw [e] at h2 h3; exact ⟨h2, h3⟩
  · rw [e] at h1; cases h1
end
end Go.Sh

set_option linter.all false
set_option maxRecDepth 8000
set_option maxHeartbeats 4000000
namespace Go.Sh
theorem cls5 : (clsAt 5).2.1 = 1 := by decide +kernel
theorem spOk0 {n : Int} (h : 1 <= n) (h2 : n <= 134217728) : ¬ spBad 0 n 0 := by unfold spBad; omega
theorem own_keep {S : HS} {id : Int} {x : Nat × SI} {pg n : Int} {X : FX} (p : Int) : (S.keep id x pg n X).own p = if pg <= p /\ p < pg + n then id else S.own p := rfl
theorem inn_laid {S : HS} {b : Int} (hL : LaidB S b) {fl : Int -> Bool} (hI : HInv S fl) (p : Int) : S.T.inn p = true ↔ 512 <= p /\ p < b := by rw [<- hI.la, hL.la]
theorem cP_laid {S : HS} {b : Int} (hL : LaidB S b) {fl : Int -> Bool} (hI : HInv S fl) (hb : b <= 34359738368) : cP S.T.inn = b - 512 := by
  have b0 := hL.b0
  rw [<- cP_row (x := 512) (n := b - 512) (by decide) (by omega) (by omega)]
  refine cP_congr fun p _ _ => ?_
  rw [Bool.eq_iff_iff, inn_laid hL hI, inr_iff]; omega
theorem ks_laid {S : HS} {b : Int} (hL : LaidB S b) {fl : Int -> Bool} (hI : HInv S fl) {p : Int} : mem S.ks (p / 512) ↔ 512 <= p /\ p < b := by rw [hI.ks, inn_laid hL hI]
section
variable {E : Env} {w : World} {Rs Z : List Pr} (hE : EnvA E)
include hE
theorem hawake_spec (hT : ∀ w', Sat Z w' -> TabAt E.g_math_bits_deBruijn64tab w') (H : Sat Z w) {K : Bool -> World -> Prop} (hK : ∀ w', Sat Z w' -> K true w') : F.mallowlaw16_awake E K w := by
  unfold F.mallowlaw16_awake T0.mallowlaw16_awake
  refine vnew_nil hE.toEnvS H fun m w2 H2 => CND_f rfl (hnew_spec H2 fun h w4 H4 => CND_f rfl ?_)
  have bad : ¬ spBad 0 1 5 := by unfold spBad; rw [cls5]; omega
  refine halloc_ok hE hT H4 (HInv.newV [] [] []) (LaidB.new []) bad (by decide) (by decide) fun _ page S2 bl id X hf hk hI2 q0 q1 hX hI3 w7 H7 => ?_
  obtain ⟨e1, e2, e3, e4⟩ := first_found hk (by decide) (by decide) hf
  subst e1
  have es := hf.same
  obtain ⟨rfl, rfl⟩ := hX.top (n := 0) es.fx
  have o1 : ∀ p, (S2.keep ((0 : Nat) + 1) (bl, spOf 512 1 5 false) 512 1 ⟨0 + 1, []⟩).own p = if 512 <= p /\ p < 512 + 1 then ((0 : Nat) : Int) + 1 else 0 := fun p => by rw [own_keep, es.own]; rfl
  have hp1 : (S2.keep ((0 : Nat) + 1) (bl, spOf 512 1 5 false) 512 1 ⟨0 + 1, []⟩).pages = 1 := by show S2.pages + 1 = 1; rw [es.pages]; rfl
  have hc1 : ∀ j, ((S2.keep ((0 : Nat) + 1) (bl, spOf 512 1 5 false) 512 1 ⟨0 + 1, []⟩).ca j).empty := fun j => by show (S2.ca j).empty; rw [e4]; exact fun _ => rfl
  have hF1 : FrR (S2.keep ((0 : Nat) + 1) (bl, spOf 512 1 5 false) 512 1 ⟨0 + 1, []⟩) 513 1024 := e2
  have hL1 := e3.keep ((0 : Nat) + 1) (bl, spOf 512 1 5 false) 512 1 ⟨0 + 1, []⟩
  have hX1 : (S2.keep ((0 : Nat) + 1) (bl, spOf 512 1 5 false) 512 1 ⟨0 + 1, []⟩).fx = ⟨1, []⟩ := rfl
  generalize S2.keep ((0 : Nat) + 1) (bl, spOf 512 1 5 false) 512 1 ⟨0 + 1, []⟩ = T1 at *
  clear hf hI2 hX es e2 e3 e4 hk
  refine halloc_ok hE hT H7 hI3 hL1 bad (by decide) (by decide) fun _ page S3 bl2 id X hf hk hI4 q0 q1 hX hI5 w10 H10 => ?_
  obtain ⟨e1, e2, e3⟩ := Cst.found (i := 0) (fun S1 hfl => Cst.first hF1 hc1 hfl) (by decide) (by decide) hL1 hf
  have e1 : page = 513 := e1
  subst e1
  have es := hf.same
  obtain ⟨rfl, rfl⟩ := hX.top (n := 1) (by rw [es.fx]; exact hX1)
  have o2 : ∀ p, (S3.keep ((1 : Nat) + 1) (bl2, spOf 513 1 5 false) 513 1 ⟨1 + 1, []⟩).own p = if 513 <= p /\ p < 513 + 1 then ((1 : Nat) : Int) + 1 else if 512 <= p /\ p < 512 + 1 then ((0 : Nat) : Int) + 1 else 0 := fun p => by rw [own_keep, es.own, o1]
  have hp2 : (S3.keep ((1 : Nat) + 1) (bl2, spOf 513 1 5 false) 513 1 ⟨1 + 1, []⟩).pages = 2 := by show S3.pages + 1 = 2; rw [es.pages, hp1]; rfl
  have hC2 := e2.keep ((1 : Nat) + 1) (bl2, spOf 513 1 5 false) 513 1 ⟨1 + 1, []⟩
  have hL2 := e3.keep ((1 : Nat) + 1) (bl2, spOf 513 1 5 false) 513 1 ⟨1 + 1, []⟩
  have hX2 : (S3.keep ((1 : Nat) + 1) (bl2, spOf 513 1 5 false) 513 1 ⟨1 + 1, []⟩).fx = ⟨2, []⟩ := rfl
  generalize S3.keep ((1 : Nat) + 1) (bl2, spOf 513 1 5 false) 513 1 ⟨1 + 1, []⟩ = T2 at *
  clear hf hI4 hX es e2 e3 hk
  refine halloc_ok hE hT H10 hI5 hL2 (spOk0 (by decide) (by decide)) (by decide) (by decide) fun _ page S4 bl3 id X hf hk hI6 q0 q1 hX hI7 w13 H13 => ?_
  obtain ⟨b', k1, k2, k3, k4, k5, k6, _, k7⟩ := hf.row hL2 hk hC2.fr (by decide) (by decide) (by decide) (fun S0 ht => tried_no (by omega) ht) fun S0 pg ht => got_no (by omega) ht
  have := k7 (by decide)
  subst this
  subst k2
  have es := hf.same
  obtain ⟨rfl, rfl⟩ := hX.top (n := 2) (by rw [es.fx]; exact hX2)
  have o3 : ∀ p, (S4.keep ((2 : Nat) + 1) (bl3, spOf 576 16 0 false) 576 16 ⟨2 + 1, []⟩).own p = if 576 <= p /\ p < 576 + 16 then ((2 : Nat) : Int) + 1 else if 513 <= p /\ p < 513 + 1 then ((1 : Nat) : Int) + 1 else if 512 <= p /\ p < 512 + 1 then ((0 : Nat) : Int) + 1 else 0 := fun p => by rw [own_keep, es.own, o2]
  have hp3 : (S4.keep ((2 : Nat) + 1) (bl3, spOf 576 16 0 false) 576 16 ⟨2 + 1, []⟩).pages = 18 := by show S4.pages + 16 = 18; rw [es.pages, hp2]; rfl
  have hL3 := k4.keep ((2 : Nat) + 1) (bl3, spOf 576 16 0 false) 576 16 ⟨2 + 1, []⟩
  have hc3 : ∀ j, (S4.keep ((2 : Nat) + 1) (bl3, spOf 576 16 0 false) 576 16 ⟨2 + 1, []⟩).ca j = T2.ca j := fun j => congrFun k6 j
  generalize S4.keep ((2 : Nat) + 1) (bl3, spOf 576 16 0 false) 576 16 ⟨2 + 1, []⟩ = T3 at *
  have hn514 : ¬ 0 < T3.own 514 := by rw [o3]; decide
  have hown : ∀ i, i < 64 -> (T3.ca i).own 514 = true -> i = 0 := fun i _ hi => by
    rw [hc3] at hi
    refine Classical.byContradiction fun e => ?_
    rw [hC2.own' e] at hi; cases hi
  refine howner_spec hE H13 (by decide) (by decide) (fun hbad => ?_) (fun _ _ hbad => absurd hbad hn514) (fun _ _ _ i hi ho _ w16 H16 => ?_) fun _ _ _ hno => ?_
  · exfalso
    have : mem T3.ks (514 / 512) := (ks_laid hL3 hI7).2 (by decide)
    rcases hbad with g | g
    · omega
    · exact g this
  · obtain rfl := hown i hi ho
    refine hpages_spec H16 hI7 fun w20 H20 => ?_
    rw [cP_laid hL3 hI7 (by decide), hp3]
    refine CND_t rfl (CND_t rfl (CND_t rfl (CND_t rfl (CND_t rfl (CND_t rfl ?_)))))
    refine hof_spec H20 (by decide) (by decide) fun w22 H22 => ?_
    rw [o3]
    refine CND_t (by decide) (hof_spec H22 (by decide) (by decide) fun w24 H24 => ?_)
    rw [o3]
    exact CND_t (by decide) (CND_t rfl (CND_t rfl (CND_t rfl (hK w24 H24.tail))))
  · have := hno 0 (by decide)
    rw [hc3, hC2.own.2 (by decide)] at this
    cases this
end
end Go.Sh

set_option linter.all false
set_option maxRecDepth 8000
set_option maxHeartbeats 4000000
namespace Go.Sh
section
variable {S S2 : HS} {n page : Int}
variable {i : Nat} {next b : Int} {rf : List Bool}
end
theorem rf_bnd : ∀ (N : Nat) (l : List Int), l.Nodup -> (∀ n ∈ l, 0 < n /\ n <= N) -> l.length <= N
  | 0, [], _, _ => Nat.le_refl _
  | 0, n :: _, _, h => by have := h n List.mem_cons_self; omega
  | N + 1, l, hn, h => by
    by_cases hm : ((N + 1 : Nat) : Int) ∈ l
    · have ih := rf_bnd N (l.erase ((N + 1 : Nat) : Int)) (hn.erase _) fun n hn' => by
        have h1 := (hn.mem_erase_iff).1 hn'
        have h2 := h n h1.2
        have h3 := h1.1
        omega
      rw [List.length_erase_of_mem hm] at ih
      omega
    · have ih := rf_bnd N l hn fun n hn' => by
        have h2 := h n hn'
        have h3 : n ≠ ((N + 1 : Nat) : Int) := fun e => hm (e ▸ hn')
        omega
      omega
end Go.Sh

set_option linter.all false
set_option maxRecDepth 4000
set_option maxHeartbeats 2000000
namespace Go.Sh
section
variable {E : Env} {w : World} {Z : List Pr} {s : SlV} {uw : List Int} {U : Nat -> Bool}
def SI.set (S : SI) (U : Nat -> Bool) (n : Nat) : SI := { S with uw := [W fun i => U i || i == n], used := S.used + 1, look := (n : Int) + 1 }
section
variable {b : Nat} {S : SI}
def manOf (page pages elem : Int) : SI := ⟨page * 8192, pages, 2, 0, false, elem, pages * 8192 / elem, 0, false, false, 0, [], [], 0⟩
def manBad (pages elem : Int) : Prop := pages = 0 ∨ 134217728 < pages ∨ elem < 8 ∨ pages * 8192 < elem
theorem spman_spec (H : Sat Z w) {page pages elem : Int} (h0 : 0 <= page) (p0 : 0 <= pages) (p1 : pages < 18446744073709551616) (hpp : page + pages <= 34359738368 ∨ page = 0) (e0 : elem < 9223372036854775808) {K : Option Addr -> Int -> World -> Prop}
    (hk0 : manBad pages elem -> K none 1 w) (hk1 : ¬ manBad pages elem -> ∀ b w', Sat (SpanP E b (manOf page pages elem) :: Z) w' -> K (some ⟨b, 0, none⟩) 0 w') : F.span_Manual E page pages elem K w := by
  unfold F.span_Manual
  have hbad : manBad pages elem -> K none 1 w := hk0
  refine JOIN_in (CND_eq (fun e j => CND_t rfl (hbad (.inl e))) fun n1 => CND_dec (fun e => absurd e (by omega)) fun n2 => ?_)
  rw [u64_id (n := 34359738368 - page) (by omega) (by omega)]
  refine CND_dec (fun e j => CND_t rfl (hbad (.inr (.inl (by omega))))) fun n3 => CND_dec (fun e j => CND_t rfl (hbad (.inr (.inl e)))) fun n4 => CND_dec (fun e j => CND_t rfl (hbad (.inr (.inr (.inl e))))) fun n5 j => ?_
  rw [u64_id (n := elem) (by omega) (by omega), u64_id (n := pages * 8192) (by omega) (by omega)]
  refine CND_dec (fun e => hbad (.inr (.inr (.inr e)))) fun n6 => ⟨by omega, ?_⟩
  rw [u64_id (n := page * 8192) (by omega) (by omega), i64_id (n := pages) (by omega) (by omega), i64_id (n := pages * 8192) (by omega) (by omega), Int.tdiv_eq_ediv_of_nonneg (by omega)]
  have hd : 0 <= pages * 8192 / elem /\ pages * 8192 / elem <= pages * 8192 := ⟨Int.ediv_nonneg (by omega) (by omega), Int.ediv_le_self _ (by omega)⟩
  rw [i64_id (n := pages * 8192 / elem) (by omega) (by omega)]
  refine AL_cells (vs := [.int .u64 (page * 8192), .int .i64 pages, .int .i64 2, .int .i64 0, .bool false, .int .i64 elem, .int .i64 (pages * 8192 / elem), .int .i64 0, .bool false, .bool false, .int .u32 0, .slice none 0 0, .slice none 0 0, .int .i64 0]) H fun b4 w5 H5 _ => ?_
  refine hk1 (by unfold manBad; omega) b4 w5 (Sat.span.2 ⟨⟨none, 0, 0⟩, ⟨none, 0, 0⟩, ?_⟩)
  have h2 := H5.nil E.t_uint64 1
  have h3 := h2.nil E.t_uint64 1
  exact h3.perm ((List.reverse_perm [_, _, _]).symm.append_right Z)
end
end
end Go.Sh

set_option linter.all false
set_option maxRecDepth 8000
set_option maxHeartbeats 2000000
namespace Go.Sh
def HS.put (S : HS) (id : Int) (x : Nat × SI) : HS := { S with sp := fun i => if i = id then some x else S.sp i }
section
variable {S : HS} {fl : Int -> Bool} {id : Int} {x : Nat × SI} {I : SI}
end
section
variable {E : Env} {h : Nat} {S : HS} {Z : List Pr} {w : World}
variable (hE : EnvA E)
include hE
theorem hmanual_spec (hT : ∀ w', Sat Z w' -> TabAt E.g_math_bits_deBruijn64tab w') (H : Sat (HeapP E h S :: Z) w) (hI : HInv S no) {n el : Int} (n0 : 0 <= n) (n1 : n < 18446744073709551616) (e1 : el < 9223372036854775808) {K : Int -> Int -> World -> Prop}
    (hk0 : manBad n el -> ∀ w', Sat (HeapP E h S :: Z) w' -> K 0 1 w')
    (hk1 : ¬ manBad n el -> ∀ S2, Lost S (-1) n S2 -> HInv S2 no -> ∀ w', Sat (HeapP E h S2 :: Z) w' -> K 0 13 w')
    (hk2 : ¬ manBad n el -> ∀ page S2 b id X, Found S (-1) n page S2 -> HInv S2 (inr page n) -> 0 <= page -> page + n <= 34359738368 -> Next S2 id X -> HInv (S2.keep id (b, manOf page n el) page n X) no -> ∀ w', Sat (HeapP E h (S2.keep id (b, manOf page n el) page n X) :: Z) w' -> K id 0 w') :
    F.mheap_Heap_Manual E (some ⟨h, 0, none⟩) n el K w := by
  unfold F.mheap_Heap_Manual T0.mheap_Heap_Manual
  refine spman_spec H (by decide) n0 n1 (.inr rfl) e1 (fun hb => CND_t rfl (hk0 hb _ H)) fun hgood b0 w3 H3 => CND_f rfl ?_
  have hg := hgood
  unfold manBad at hg
  refine hfind_spec hE hT H3.tail hI (by omega) (by omega) (fun page S2 hf hI2 q0 q1 hr w6 H6 => CND_f rfl ?_) fun S2 hl hI2 w6 H6 => CND_t rfl (hk1 hgood S2 hl hI2 w6 H6)
  refine spman_spec H6 q0 n0 n1 (.inl q1) e1 (fun hb => absurd hb hgood) fun _ b w9 H9 => ?_
  exact hkeep_spec hE H9 hI2 q0 (by omega) q1 hr rfl rfl (by show (2 : Int) ≠ 0; decide) fun id X hX hI3 w11 H11 => hk2 hgood page S2 b id X hf hI2 q0 q1 hX hI3 w11 H11
end
end Go.Sh

set_option linter.all false
set_option maxRecDepth 8000
set_option maxHeartbeats 2000000
namespace Go.Sh
inductive Scavd : HS -> Int -> HS -> Int -> Prop
  | stop {S : HS} {n : Int} (h : n = 0 ∨ ∀ p, S.T.idle p = false) : Scavd S n S 0
  | step {S S' : HS} {n p k m : Int} (h : ScavAt S.T n p k) (r : Scavd (S.scav p k) (n - k) S' m) : Scavd S n S' (k + m)
section
variable {E : Env} {h : Nat} {S : HS} {Z : List Pr} {w : World} {g : HG}
variable (hE : EnvA E)
include hE
theorem hscav_spec (H : Sat (HeapP E h S :: Z) w) (hI : HInv S no) {n : Int} (n0 : 0 <= n) (n1 : n < 18446744073709551616) {K : Int -> World -> Prop}
    (hK : ∀ S' m, Scavd S n S' m -> 0 <= m -> m <= n -> HInv S' no -> ∀ w', Sat (HeapP E h S' :: Z) w' -> K m w') : F.mheap_Heap_Scavenge E (some ⟨h, 0, none⟩) n K w := by
  unfold F.mheap_Heap_Scavenge T0.mheap_Heap_Scavenge
  refine LOOP_intro (fun st w' => ∃ S1, 0 <= st.1 /\ st.1 <= n /\ HInv S1 no /\ (∀ S' m, Scavd S1 st.1 S' m -> Scavd S n S' (n - st.1 + m)) /\ Sat (HeapP E h S1 :: Z) w') (fun st _ => st.1.toNat) ⟨S, n0, Int.le_refl _, hI, fun S' m hs => by show Scavd S n S' (n - n + m); rw [show n - n + m = m by omega]; exact hs, H⟩ ?_
  rintro ⟨left, v⟩ _ w2 ⟨S1, l0, l1, hI1, hst, H2⟩
  dsimp only at l0 l1 hst ⊢
  have hend : (left = 0 ∨ ∀ p, S1.T.idle p = false) -> ∀ w', Sat (HeapP E h S1 :: Z) w' -> K (u64 (n - left)) w' := fun hz w' H' => by
    rw [u64_id (n := n - left) (by omega) (by omega)]
    have := hst S1 0 (.stop hz)
    rw [Int.add_zero] at this
    exact hK S1 _ this (by omega) (by omega) hI1 w' H'
  refine CND_dec (fun hpos => ?_) fun hz => hend (.inl (by omega)) w2 H2
  have hok1 := H2.hok
  simp only [NC_some]
  obtain ⟨t, R, c1, ht, hb⟩ := H2.theTree2
  refine ⟨_, c1, vscav_sat hE.toEnvS ht (by omega) (by omega) (fun hz => CND_t rfl (hend hz w2 H2)) fun p k hs w8 H8 => CND_f (by have := hs.k0; simpa using (by omega : ¬ k = 0)) ?_⟩
  have k0 := hs.k0
  have kn := hs.kn
  have H9 := hb H8
  obtain ⟨m, R2, c0, hm, hb2⟩ := H9.theMem
  have hlim : ∀ q, p <= q -> q < p + k -> 0 <= q /\ q < 34359738368 := fun q a b => hok1.tv.lim q (hok1.tv.fi q (hI1.idle hok1 (hs.row q a b)).1)
  have b0 := hlim p (Int.le_refl _) (by omega)
  have b1 := hlim (p + k - 1) (by omega) (by omega)
  refine ⟨_, c0, release_ok hE.toEnvS hm b0.1 k0 (by omega) (fun q a b => (hI1.idle hok1 (hs.row q a b)).2.2.1) fun w12 H12 => ?_⟩
  rw [u64_id (n := left - k) (by omega) (by omega)]
  refine ⟨⟨S1.scav p k, by show 0 <= left - k; omega, by show left - k <= n; omega, hI1.scav hok1 k0 hs.row, fun S' m' hs' => ?_, hb2 H12⟩, by show (left - k).toNat < left.toNat; omega⟩
  have := hst S' (k + m') (.step hs hs')
  rw [show n - (left - k) + m' = n - left + (k + m') by omega]
  exact this
end
end Go.Sh
