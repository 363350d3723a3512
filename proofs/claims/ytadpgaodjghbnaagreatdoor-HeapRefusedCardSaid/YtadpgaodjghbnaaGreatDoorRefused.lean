/- The law HeapRefused holds (its card: math/bits' table as the program's text lays it): for every input the Go function returns true and leaves its arguments alone. No further condition. -/
import Derived.Test.YtadpgaodjghbnaaGreatDoorL
import Derived.Test.YtadpgaodjghbnaaGreatDoorQ
import Derived.Test.YtadpgaodjghbnaaGreatDoorA
import Derived.Test.YtadpgaodjghbnaaGreatDoorCards
import Derived.Test.YtadpgaodjghbnaaGreatDoorTie
import Derived.WalkKit
import Derived.ProofKit
import Derived.OpenShut
import Derived.Deep.DeepHandedRow
import Derived.Lib.LaidTab
set_option linter.all false
set_option maxRecDepth 8000
set_option maxHeartbeats 4000000
namespace Go.Sh

def HS.clr (S : HS) : HS := { S with V := { S.V with rf := [] } }

section
variable {S S2 : HS} {n page : Int}

theorem tried_m1 {S0 : HS} (h : Tried S (-1) n S0) : S0 = S := tried_no (by omega) h
theorem got_m1 {S0 : HS} (h : Got S (-1) n page S0) : S0 = S.talloc page n ∧ firstB S.T n page := got_no (by omega) h

theorem tried_clr : Tried S.clr (-1) n S.clr := .inl ⟨by omega, rfl⟩

theorem Found.clr (h : Found S (-1) n page S2) : Found S.clr (-1) n page S2.clr := by
  obtain ⟨S1, h, hm⟩ := h
  have hm' : Made S1.clr page n S2.clr := by
    rcases hm with ⟨h1, rfl⟩ | ⟨h1, _, rfl⟩
    · exact .inl ⟨h1, rfl⟩
    · exact .inr ⟨h1, (fun r (e : ([] : List Bool) = true :: r) => nomatch e), rfl⟩
  refine ⟨S1.clr, ?_, hm'⟩
  rcases h with h | ⟨S0, S0', htr, hno, ⟨_, at_, hc, rfl⟩, hf, rfl⟩
  · obtain ⟨rfl, hf⟩ := got_m1 h
    exact .inl (.inr ⟨S.clr, tried_clr, hf, rfl⟩)
  · obtain rfl := tried_m1 htr
    exact .inr ⟨S0.clr, _, tried_clr, hno, ⟨(fun r (e : ([] : List Bool) = true :: r) => nomatch e), at_, hc, rfl⟩, hf, rfl⟩

def asks (next b n : Int) : Nat := if next + n ≤ b then 1 else 2
def nextB (next b n : Int) : Int := if next + n ≤ b then b else b + upN n

structure RfSt (S : HS) (i : Nat) (next b : Int) (rf : List Bool) : Prop where
  inv : HInv S no
  la : LaidB S.clr b
  rf : S.V.rf = rf
  fr : FrR S next b
  lo : 512 ≤ next
  le : next ≤ b
  gn : Gn S
  pg : S.pages = next - 512
  rel : S.V.rel = []
  ow : ∀ p, 512 ≤ p → p < next → 0 < S.own p
  fx : S.fx = ⟨i, []⟩

theorem RfSt.new (rf : List Bool) : RfSt (HS.new (newV [] rf [])) 0 512 512 rf := ⟨HInv.newV [] rf [], LaidB.new [], rfl, FrR.new _, Int.le_refl _, Int.le_refl _, Gn.new _, rfl, rfl, fun p h1 h2 => by omega, rfl⟩

variable {i : Nat} {next b : Int} {rf : List Bool}

theorem RfSt.laid (h : RfSt S i next b []) : LaidB S b := ⟨h.la.la, h.la.b0, h.la.b1, h.la.h0, h.la.h1, h.la.pl, h.rf⟩

theorem RfSt.notReady (h : RfSt S i next b rf) (hk : HOk S) {q : Int} (hq : next ≤ q) : ¬ mem S.V.ready q := fun hr => by
  obtain ⟨r1, r2⟩ := (h.inv.rd q rfl).1 hr
  have r3 := (h.la.la q).1 ((h.inv.la q).2 r1)
  have r4 := (h.fr q).2 ⟨hq, r3.2⟩
  refine tf_not r2 (gone_iff.2 (.inl ?_))
  rw [h.gn.rl]; exact r4

theorem RfSt.inn (h : RfSt S i next b rf) (hb : b ≤ 34359738368) : cP S.T.inn = b - 512 := by
  have b0 := h.la.b0
  rw [← cP_row (x := 512) (n := b - 512) (by decide) (by omega) (by omega)]
  refine cP_congr fun p _ _ => ?_
  rw [Bool.eq_iff_iff, ← h.inv.la, inr_iff]
  refine (h.la.la p).trans ?_
  omega

theorem takenV (h : Taken S (-1) n page S2) : S2.V.wd = S.V.wd ∧ S2.V.fl = S.V.fl ∧ S2.V.ready = S.V.ready ∧ S2.V.rel = S.V.rel := by
  rcases h with h | ⟨S0, S0', htr, _, ⟨_, at_, _, rfl⟩, _, rfl⟩
  · obtain ⟨rfl, _⟩ := got_m1 h
    exact ⟨rfl, rfl, rfl, rfl⟩
  · obtain rfl := tried_m1 htr
    exact ⟨rfl, rfl, rfl, rfl⟩

theorem RfSt.found (h : RfSt S i next b rf) (hk : HOk S) (hkc : HOk S.clr) (hn : 1 ≤ n) (hb : b + upN n ≤ 34359738368) (hf : Found S (-1) n page S2) :
    page = next ∧ LaidB S2.clr (nextB next b n) ∧ FrR S2 (next + n) (nextB next b n) ∧ next + n ≤ nextB next b n ∧ S2.V.wd = S.V.wd ∧ S2.V.rel = [] ∧ S2.V.rf = rf.drop (asks next b n) ∧ (∀ r, rf ≠ true :: r) ∧ (asks next b n = 2 → ∀ r, rf.tail ≠ true :: r) := by
  have hu := upN_le n
  obtain ⟨b', k1, k2, k3, k4, k5, _, _, k8⟩ := hf.clr.row (a := next) h.la hkc h.fr h.le hn hb (fun S0 ht => tried_no (by omega) ht) fun S0 pg ht => got_no (by omega) ht
  subst k2
  have hbb : b' = nextB page b n := by
    unfold nextB
    by_cases g : page + n ≤ b
    · rw [if_pos g]; exact k8 g
    · rw [if_neg g]; omega
  subst hbb
  refine ⟨rfl, k4, k5, k3, ?_⟩
  obtain ⟨S1, ht, hm⟩ := hf
  obtain ⟨e1, e2, e3, e4⟩ := takenV ht
  have hnr : ¬ allReady S1 page n := fun hr => h.notReady hk (Int.le_refl page) (by rw [← e3]; exact hr page (Int.le_refl _) (by omega))
  rcases hm with ⟨h1, _⟩ | ⟨_, hrf, rfl⟩
  · exact absurd h1 hnr
  refine ⟨funext fun q => funext fun j => ?_, ?_, ?_⟩
  · show (if page ≤ q ∧ q < page + n ∧ inL S1.V.rel q = true then fillAt S1.V page q else S1.V.wd q j) = _
    rw [e4, h.rel, if_neg (fun h => by cases h.2.2), e1]
  · show cutL S1.V.rel page (page + n) = []
    rw [e4, h.rel]; rfl
  show S1.V.rf.tail = _ ∧ _
  rcases ht with ht | ⟨S0, S0', htr, hno, ⟨hr0, at_, hc, rfl⟩, hff, rfl⟩
  · obtain ⟨rfl, hff⟩ := got_m1 ht
    obtain ⟨_, hle⟩ := h.fr.first hn hff
    have ea : asks page b n = 1 := if_pos hle
    rw [ea]
    have hrf : ∀ r, S.V.rf ≠ true :: r := hrf
    have et : (S.talloc page n).V.rf = rf := h.rf
    rw [et]
    rw [h.rf] at hrf
    exact ⟨by simp, hrf, fun e => by cases e⟩
  · obtain rfl := tried_m1 htr
    have hlt := h.fr.none hno
    have ea : asks page b n = 2 := if_neg (by omega)
    rw [ea]
    have hrf : ∀ r, S0.V.rf.tail ≠ true :: r := hrf
    have et : ((S0.grown { S0.V with rf := S0.V.rf.tail, pl := S0.V.pl.tail, laid := addL S0.V.laid at_ (at_ + upN n) } at_ (upN n)).talloc page n).V.rf = rf.tail := by
      show S0.V.rf.tail = _
      rw [h.rf]
    rw [et]
    rw [h.rf] at hrf hr0
    refine ⟨?_, hr0, fun _ => hrf⟩
    cases rf with
    | nil => rfl
    | cons x r => cases r <;> rfl

theorem RfSt.keep (h : RfSt S i next b rf) (hk : HOk S) (hkc : HOk S.clr) (hn : 1 ≤ n) (hb : b + upN n ≤ 34359738368) (hf : Found S (-1) n page S2) {id : Int} {X : FX} (hX : Next S2 id X) {x : Nat × SI} (hI : HInv (S2.keep id x page n X) no) :
    page = next ∧ id = (i : Int) + 1 ∧ X = ⟨i + 1, []⟩ ∧ (S2.keep id x page n X).V.wd = S.V.wd ∧ RfSt (S2.keep id x page n X) (i + 1) (next + n) (nextB next b n) (rf.drop (asks next b n)) ∧ (∀ r, rf ≠ true :: r) := by
  obtain ⟨rfl, k1, k2, k3, k4, k5, k6, k7, _⟩ := h.found hk hkc hn hb hf
  have es := hf.same
  obtain ⟨rfl, rfl⟩ := hX.top (n := i) (by rw [es.fx]; exact h.fx)
  have hlo := h.lo
  refine ⟨rfl, rfl, rfl, k4, ⟨hI, k1.keep _ _ _ _ _, k6, k2, by omega, k3, (hf.gn h.gn).keep _ _ _ _ _, ?_, k5, fun p h1 h2 => ?_, rfl⟩, k7⟩
  · show S2.pages + n = _
    rw [es.pages, h.pg]; omega
  · show 0 < (if page ≤ p ∧ p < page + n then ((i : Int) + 1) else S2.own p)
    split
    · omega
    · rw [es.own]; exact h.ow p h1 (by omega)

theorem RfSt.lost (h : RfSt S i next b rf) (hk : HOk S) (hkc : HOk S.clr) (hn : 1 ≤ n) (hb : b + upN n ≤ 34359738368) (hf : Lost S (-1) n S2) (hI : HInv S2 no) :
    (∃ r, rf = true :: r ∧ RfSt S2 i next b r ∧ S2.V.wd = S.V.wd ∧ S2.sp = S.sp) ∨ (asks next b n = 2 ∧ (∀ r, rf ≠ true :: r) ∧ ∃ r, rf.tail = true :: r) := by
  have hu := upN_le n
  rcases hf with ⟨S0, htr, hno, hg⟩ | ⟨S1, page, r, ht, hnr, hr, rfl⟩
  · obtain rfl := tried_m1 htr
    rcases hg with ⟨r, hr, rfl⟩ | ⟨_, hup, _⟩
    · rw [h.rf] at hr
      exact .inl ⟨r, hr, ⟨hI, h.la, rfl, h.fr, h.lo, h.le, ⟨h.gn.rl, h.gn.re⟩, h.pg, h.rel, h.ow, h.fx⟩, rfl, rfl⟩
    · exact (h.la.unplaced (by omega) hb hup).elim
  · rcases ht with ht | ⟨S0, S0', htr, hno, ⟨hr0, at_, hc, rfl⟩, hff, rfl⟩
    · obtain ⟨rfl, hff⟩ := got_m1 ht
      obtain ⟨rfl, hle⟩ := h.fr.first hn hff
      have hr : S.V.rf = true :: r := hr
      rw [h.rf] at hr
      refine .inl ⟨r, hr, ⟨hI, h.la.sameV rfl rfl, rfl, fun p => ?_, h.lo, h.le, ⟨fun p => ?_, h.gn.re⟩, h.pg, h.rel, h.ow, h.fx⟩, rfl, rfl⟩
      · show ((S.T.fr p && !inr page n p) || inr page n p) = true ↔ _
        rw [← h.fr p]
        cases g : inr page n p
        · simp
        · simp
          exact (h.fr p).2 (by rw [inr_iff] at g; omega)
      · show ((S.T.rl p && !inr page n p) || (inr page n p && !inL S.V.ready p)) = ((S.T.fr p && !inr page n p) || inr page n p)
        rw [h.gn.rl]
        cases g : inr page n p
        · simp
        · rw [inr_iff] at g
          have : inL S.V.ready p = false := not_tf fun e => h.notReady hk g.1 (inL_iff.1 e)
          rw [this]; simp
    · obtain rfl := tried_m1 htr
      have hlt := h.fr.none hno
      have hr : S0.V.rf.tail = true :: r := hr
      rw [h.rf] at hr hr0
      exact .inr ⟨if_neg (by omega), hr0, r, hr⟩

theorem HOk.clr (hk : HOk S) : HOk S.clr := ⟨hk.tv, ⟨hk.vv.ok1, hk.vv.ok2, hk.vv.ok3, hk.vv.rl, hk.vv.el, hk.vv.re, hk.vv.lim, hk.vv.clean, hk.vv.sums⟩, hk.ci, hk.ok, hk.fx⟩
end

def wk (z : Nat → Int) : Nat → Int × Int × Nat
  | 0 => (512, 512, 0)
  | i + 1 => ((wk z i).1 + z i, nextB (wk z i).1 (wk z i).2.1 (z i), (wk z i).2.2 + asks (wk z i).1 (wk z i).2.1 (z i))

theorem asks_pos (x b n : Int) : 1 ≤ asks x b n ∧ asks x b n ≤ 2 := by unfold asks; split <;> omega

theorem wk_mono (z : Nat → Int) (i : Nat) : ∀ k, (wk z i).2.2 + k ≤ (wk z (i + k)).2.2
  | 0 => Nat.le_refl _
  | k + 1 => by
    have := wk_mono z i k
    have h2 := asks_pos (wk z (i + k)).1 (wk z (i + k)).2.1 (z (i + k))
    show _ ≤ (wk z (i + k)).2.2 + asks (wk z (i + k)).1 (wk z (i + k)).2.1 (z (i + k))
    omega
theorem wk_bnd {z : Nat → Int} {N : Nat} (hz : ∀ i, i < N → 1 ≤ z i ∧ z i ≤ 700) : ∀ i, i ≤ N → 512 + (i : Int) ≤ (wk z i).1 ∧ (wk z i).1 ≤ 512 + 700 * (i : Int) ∧ (wk z i).2.1 ≤ 512 + 1211 * (i : Int) ∧ (wk z i).2.2 ≤ 2 * i
  | 0, _ => ⟨by show (512 : Int) + (0 : Nat) ≤ 512; decide, by show (512 : Int) ≤ 512 + 700 * ((0 : Nat) : Int); decide, by show (512 : Int) ≤ 512 + 1211 * ((0 : Nat) : Int); decide, Nat.le_refl _⟩
  | i + 1, h => by
    obtain ⟨h1, h2, h3, h4⟩ := wk_bnd hz i (by omega)
    obtain ⟨z1, z2⟩ := hz i (by omega)
    have hu := upN_le (z i)
    have ha := asks_pos (wk z i).1 (wk z i).2.1 (z i)
    refine ⟨by show _ ≤ (wk z i).1 + z i; omega, by show (wk z i).1 + z i ≤ _; omega, ?_, by show (wk z i).2.2 + asks (wk z i).1 (wk z i).2.1 (z i) ≤ _; omega⟩
    show nextB _ _ _ ≤ _
    unfold nextB
    split <;> omega
theorem wk_lt {z : Nat → Int} {N : Nat} (hz : ∀ i, i < N → 1 ≤ z i ∧ z i ≤ 700) (i : Nat) : ∀ k, i + k + 1 ≤ N → (wk z i).1 + z i ≤ (wk z (i + k + 1)).1
  | 0, _ => Int.le_refl _
  | k + 1, h => by
    have := wk_lt hz i k (by omega)
    have h2 := hz (i + k + 1) (by omega)
    show _ ≤ (wk z (i + k + 1)).1 + z (i + k + 1)
    omega
theorem wk_ne {z : Nat → Int} {N : Nat} (hz : ∀ i, i < N → 1 ≤ z i ∧ z i ≤ 700) {k i : Nat} (h : k < i) (hi : i ≤ N) : (wk z k).1 < (wk z i).1 := by
  have := wk_lt hz k (i - k - 1) (by omega)
  rw [show k + (i - k - 1) + 1 = i by omega] at this
  have := hz k (by omega)
  omega
end Go.Sh


set_option linter.all false
set_option maxRecDepth 8000
set_option maxHeartbeats 4000000
namespace Go.Sh

theorem rf_storeV {V : VS} {addr x : Int} (h : storeE V addr = 0) : storeV V addr x = { V with wd := fun p i => if p = addr / 8192 ∧ i = addr % 8192 / 8 then x else V.wd p i } := by
  unfold storeV
  rw [if_pos h]
theorem rf_storeE {V : VS} {q : Int} (h : mem V.ready q) : storeE V (q * 8192) = 0 := by
  unfold storeE
  rw [if_neg (by omega), show q * 8192 / 8192 = q by omega, if_pos (inL_iff.2 h)]
theorem rf_loadV {V : VS} {q : Int} (h : mem V.ready q) : loadV V (q * 8192) = (V.wd q 0, 0) := by
  unfold loadV
  rw [if_neg (by omega), show q * 8192 / 8192 = q by omega, if_pos (inL_iff.2 h), show q * 8192 % 8192 / 8 = 0 by omega]

theorem RfSt.memV {S : HS} {i : Nat} {next b : Int} {rf : List Bool} (h : RfSt S i next b rf) {f : Int → Int → Int} : RfSt { S with V := { S.V with wd := f } } i next b rf :=
  ⟨h.inv.memV rfl rfl, ⟨h.la.la, h.la.b0, h.la.b1, h.la.h0, h.la.h1, h.la.pl, h.la.rf⟩, h.rf, h.fr, h.lo, h.le, ⟨h.gn.rl, h.gn.re⟩, h.pg, h.rel, h.ow, h.fx⟩

def bas (z : Nat → Int) (N : Nat) : List Int := (List.range N).map fun i => (wk z i).1 * 8192
theorem bas_get {z : Nat → Int} {N i : Nat} (h : i < N) : (ints .u64 (bas z N))[i]? = some (.int .u64 ((wk z i).1 * 8192)) := by
  unfold ints bas
  rw [List.getElem?_map, List.getElem?_map, List.getElem?_range h]; rfl
theorem bas_len {z : Nat → Int} {N : Nat} : (ints .u64 (bas z N)).length = N := by simp [ints, bas]

theorem RfSt.spans {S : HS} {i : Nat} {next b : Int} {rf : List Bool} (h : RfSt S i next b rf) {l : List Int} (hnd : l.Nodup) (hall : ∀ n, n ∈ l ↔ S.sp n ≠ none) : l.length = i := by
  have hp : l.Perm ((List.range i).map fun a : Nat => (a : Int) + 1) := (List.perm_ext_iff_of_nodup hnd (List.Pairwise.map _ (fun a b hab => by omega) List.nodup_range)).2 fun n => by
    rw [hall n, h.inv.sf, h.fx, List.mem_map]
    constructor
    · rintro ⟨a, rfl, ha, _⟩; exact ⟨a, List.mem_range.2 ha, rfl⟩
    · rintro ⟨a, ha, rfl⟩; exact ⟨a, rfl, List.mem_range.1 ha, by simp⟩
  have := hp.length_eq
  simpa using this

theorem rf_bnd : ∀ (N : Nat) (l : List Int), l.Nodup → (∀ n ∈ l, 0 < n ∧ n ≤ N) → l.length ≤ N
  | 0, [], _, _ => Nat.le_refl _
  | 0, n :: _, _, h => by have := h n List.mem_cons_self; omega
  | N + 1, l, hn, h => by
    by_cases hm : ((N + 1 : Nat) : Int) ∈ l
    · have ih := rf_bnd N (l.erase ((N + 1 : Nat) : Int)) (hn.erase _) fun n hn' => by
        have h1 := (hn.mem_erase_iff).1 hn'
        have h2 := h n h1.2
        have h3 := h1.1
        omega
      rw [List.length_erase_of_mem hm] at ih
      omega
    · have ih := rf_bnd N l hn fun n hn' => by
        have h2 := h n hn'
        have h3 : n ≠ ((N + 1 : Nat) : Int) := fun e => hm (e ▸ hn')
        omega
      omega

theorem RfSt.few {S : HS} {i : Nat} {next b : Int} {rf : List Bool} (h : RfSt S i next b rf) (hi : i < 1000) (l : List Int) (hnd : l.Nodup) (hin : ∀ n ∈ l, S.sp n ≠ none) : l.length < 1099511627776 := by
  have := rf_bnd i l hnd fun n hn => by
    obtain ⟨a, rfl, ha, _⟩ := (h.inv.sf n).1 (hin n hn)
    rw [h.fx] at ha
    have ha : a < i := ha
    omega
  omega

theorem rf_flags (C R : Nat) : flags (C + R) (fun k => decide ((C : Int) ≤ k)) = bools (List.replicate C false ++ List.replicate R true) := by
  refine List.ext_getElem (by simp [flags, bools]) fun i h1 h2 => ?_
  simp only [flags, bools, List.getElem_map, List.getElem_range]
  simp only [flags_len] at h1
  congr 1
  by_cases e : i < C
  · rw [List.getElem_append_left (by simpa using e), List.getElem_replicate]
    exact decide_eq_false (by omega)
  · rw [List.getElem_append_right (by simpa using e), List.getElem_replicate]
    exact decide_eq_true (by omega)

section
variable {E : Env} {w : World} {Rs Z : List Pr} (hE : EnvH E)
include hE

theorem asked_spec (hT : ∀ w', Sat Z w' → TabAt E.g_math_bits_deBruijn64tab w') {a0 : SlV} {z : Nat → Int} (ha : ∀ w', Sat Z w' → RowA w' (.int .u64) a0 z) (hz : ∀ i, i < a0.len → 1 ≤ z i ∧ z i ≤ 700) (hN : a0.len ≤ 20) (H : Sat Z w) {K : Int → SlV → Bool → World → Prop}
    (hK : ∀ s w', Sat (Row E.t_uint64 1 s (ints .u64 (bas z a0.len)) :: Z) w' → K ((wk z a0.len).2.2 : Nat) s true w') : F.mallowlaw16_asked E a0 K w := by
  unfold F.mallowlaw16_asked
  refine fresh16_nil H fun h w2 H2 => CND_f rfl ?_
  refine LOOP_intro (fun st w' => ∃ (i : Nat) (S : HS), st.2.2.1 = (i : Int) ∧ i ≤ a0.len ∧ st.1 = ((wk z i).2.2 : Nat) ∧ RfSt S i (wk z i).1 (wk z i).2.1 [] ∧ Sat (HeapP E h S :: Row E.t_uint64 1 st.2.1 (ints .u64 (bas z i)) :: Z) w') (fun st _ => ((a0.len : Int) - st.2.2.1).toNat)
    ⟨0, _, rfl, Nat.zero_le _, rfl, RfSt.new [], (H2.nil E.t_uint64 1).front 1 rfl⟩ ?_
  rintro ⟨n, s, i', v⟩ _ w4 ⟨i, S, hi, hin, hn, hR, H4⟩
  dsimp only at hi hn H4 ⊢
  subst hi
  subst hn
  obtain ⟨b1, b2, b3, b4⟩ := wk_bnd hz i hin
  refine CND_dec (fun hlt => ?_) fun hge => ?_
  · have hi : i < a0.len := by omega
    have hzi := hz i hi
    have hu := upN_le (z i)
    refine hpages_spec H4 hR.inv fun w9 H9 => ?_
    obtain ⟨x, hx, hc, _⟩ := (ha w9 H9.tail.tail).cell1 hi
    rw [hx]
    simp only [NC_some]
    refine ⟨⟨by omega, by omega⟩, z i, by simpa using hc, ?_⟩
    refine halloc_ok hE.toEnvA (fun w' h => hT w' h.tail) H9 hR.inv hR.laid (spOk0 (by omega) (by omega)) (by omega) (by omega) fun _ page S2 bl id X hf hk hI2 q0 q1 hX hI3 w14 H14 => ?_
    obtain ⟨rfl, rfl, rfl, _, hR2, _⟩ := hR.keep hk hk.clr hzi.1 (by omega) hf hX hI3
    rw [List.drop_nil] at hR2
    have hsp : (S2.keep ((i : Int) + 1) (bl, spOf (wk z i).1 (z i) 0 false) (wk z i).1 (z i) ⟨i + 1, []⟩).sp ((i : Int) + 1) = some (bl, spOf (wk z i).1 (z i) 0 false) := if_pos rfl
    generalize S2.keep ((i : Int) + 1) (bl, spOf (wk z i).1 (z i) 0 false) (wk z i).1 (z i) ⟨i + 1, []⟩ = T at *
    refine hspan_spec H14 (fun e => by rw [hsp] at e; cases e) fun y hy => ?_
    rw [hsp] at hy
    cases hy
    refine JOIN_in (CND_f rfl fun j => CND_f rfl ?_)
    refine hpages_spec H14 hR2.inv fun w24 H24 => ?_
    obtain ⟨c1, c2, c3, c4⟩ := wk_bnd hz (i + 1) (by omega)
    have i1 := hR.inn (by omega)
    have i2 : cP T.T.inn = (wk z (i + 1)).2.1 - 512 := hR2.inn (show (wk z (i + 1)).2.1 ≤ _ by omega)
    rw [i1, i2]
    clear i1 i2
    have hnb : (wk z (i + 1)).2.1 = nextB (wk z i).1 (wk z i).2.1 (z i) := rfl
    have hna : (wk z (i + 1)).2.2 = (wk z i).2.2 + asks (wk z i).1 (wk z i).2.1 (z i) := rfl
    refine JOIN_intro (fun st w' => st.1 = ((wk z (i + 1)).2.2 : Int) ∧ w' = w24) ?_ ?_
    · rw [i64_id (n := ((wk z i).2.2 : Int) + 1) (by omega) (by omega), i64_id (n := ((wk z i).2.2 : Int) + 1 + 1) (by omega) (by omega)]
      unfold nextB at hnb
      unfold asks at hna
      refine CND_dec (fun g => ⟨?_, rfl⟩) fun g => ⟨?_, rfl⟩
      · show ((wk z i).2.2 : Int) + 1 + 1 = _
        by_cases e : (wk z i).1 + z i ≤ (wk z i).2.1
        · rw [if_pos e] at hnb; omega
        · rw [if_neg e] at hna; omega
      · show ((wk z i).2.2 : Int) + 1 = _
        by_cases e : (wk z i).1 + z i ≤ (wk z i).2.1
        · rw [if_pos e] at hna; omega
        · rw [if_neg e] at hnb; omega
    rintro ⟨n', u⟩ _ w27 ⟨hn', rfl⟩
    dsimp only at hn' ⊢
    subst hn'
    obtain ⟨R, hs, hbk⟩ := H24.heapSpan hsp
    refine spinfo_spec hs fun w39 H39 => AL_cells (vs := [.int .u64 ((wk z i).1 * 8192)]) (hbk H39) fun b40 w41 H41 _ => ?_
    have hsl := (H41.front 2 rfl).rowLen
    rw [bas_len] at hsl
    refine APP_one (zs := #[.int .u64 0]) (bytes := 8) (H41.front2 1 rfl) rfl rfl (by simp [Value.oneCell']) (by show (s.len + 1) * 8 ≤ _; omega) (by omega) fun s42 w43 H43 _ => ?_
    rw [show ints .u64 (bas z i) ++ [.int .u64 ((wk z i).1 * 8192)] = ints .u64 (bas z (i + 1)) by simp [ints, bas, List.range_succ]] at H43
    rw [i64_id (n := (i : Int) + 1) (by omega) (by omega)]
    exact ⟨⟨i + 1, T, rfl, by omega, rfl, hR2, H43.front 1 rfl⟩, by omega⟩
  · obtain rfl : i = a0.len := by omega
    exact hK _ _ H4.tail

theorem refused_spec (hT : TabAt E.g_math_bits_deBruijn64tab w) {a0 : SlV} {z : Nat → Int} (ha : RowA w (.int .u64) a0 z) {a1 a2 : Int} {K : Bool → World → Prop} (hK : ∀ w', Ext Nothing w w' → K true w') : F.mallowlaw16_HeapRefused E a0 a1 a2 K w := by
  unfold F.mallowlaw16_HeapRefused
  have ht : K true w := hK w (Ext.refl _ _)
  refine JOIN_in (CND_dec (fun _ j => CND_t rfl ht) fun g1 => CND_dec (fun _ j => CND_t rfl ht) fun g2 => CND_dec (fun _ j => CND_t rfl ht) fun g3 => CND_dec (fun _ j => CND_t rfl ht) fun g4 j => CND_dec (fun _ => ht) fun g5 => ?_)
  refine LOOP_intro (fun st w' => ∃ i : Nat, st.1 = (i : Int) ∧ i ≤ a0.len ∧ (∀ k, k < i → 1 ≤ z k ∧ z k ≤ 700) ∧ w' = w) (fun st _ => ((a0.len : Int) - st.1).toNat) ⟨0, rfl, Nat.zero_le _, fun k hk => by omega, rfl⟩ ?_
  rintro ⟨i', v⟩ _ w5 ⟨i, hi, hin, hz, rfl⟩
  dsimp only at hi ⊢
  subst hi
  refine CND_dec (fun hlt => ?_) fun hge => ?_
  · obtain ⟨x, hx, hc, _⟩ := ha.cell1 (show i < a0.len by omega)
    rw [hx]
    simp only [NC_some]
    have hc' : w5.cell? (x.add (Int.toNat (i : Int) * 1)) = some (.int .u64 (z i)) := by simpa using hc
    refine JOIN_in ⟨⟨by omega, by omega⟩, z i, hc', CND_dec (fun _ j => CND_t rfl ht) fun z1 => ⟨⟨by omega, by omega⟩, z i, hc', fun j => CND_dec (fun _ => ht) fun z2 => ?_⟩⟩
    rw [i64_id (n := (i : Int) + 1) (by omega) (by omega)]
    exact ⟨⟨i + 1, rfl, by omega, fun k hk => by
      rcases Nat.lt_or_eq_of_le (Nat.le_of_lt_succ hk) with q | q
      · exact hz k q
      · subst q; omega, rfl⟩, by omega⟩
  obtain rfl : i = a0.len := by omega
  clear hge hin
  generalize hNe : a0.len = N at *
  have hN : N ≤ 20 := by omega
  obtain ⟨R, rfl⟩ := Int.eq_ofNat_of_zero_le (show 0 ≤ a2 by omega)
  have hu1 := upN_le a1
  refine asked_spec hE (fun w' h => hT.ext (h.old 0 rfl)) (Z := [Old w5]) (fun w' h => RowG.oldI ha (h.old 0 rfl)) (fun k hk => hz k (by omega)) (by omega) (Sat.start w5) fun s15 w17 H17 => CND_f rfl ?_
  rw [hNe] at H17 ⊢
  obtain ⟨b1, b2, b3, b4⟩ := wk_bnd hz N (Nat.le_refl _)
  generalize hC : (wk z N).2.2 = C at *
  rw [i64_id (n := (C : Int) + (R : Int)) (by omega) (by omega), show Int.toNat ((C : Int) + (R : Int)) = C + R by omega, Nat.mul_one, mkZero_flags]
  refine ⟨by omega, AL_rows (n := C + R) (z := 1) H17 (by rw [flags_len]; omega) (by omega) fun b18 w19 H19 => ?_⟩
  refine AL_cells (vs := [.slice none 0 0, .slice none 0 0, .slice none 0 0]) H19 fun b20 w21 H21 _ => ?_
  refine st_all (news := [.slice none 0 0, .slice (some (Addr.mk b18 0 none)) (C + R) (C + R), .slice none 0 0]) H21 rfl (by simp [Value.oneCell']) fun w22 H22 => ?_
  refine LOOP_intro (fun st w' => ∃ r : Nat, st.1 = (r : Int) ∧ r ≤ R ∧ Sat [Cells b20 E.t_api_Answers [.slice none 0 0, .slice (some (Addr.mk b18 0 none)) (C + R) (C + R), .slice none 0 0], Row E.t_bool 1 ⟨some ⟨b18, 0, none⟩, C + R, C + R⟩ (flags (C + R) fun k => decide ((C : Int) ≤ k ∧ k < C + r)), Row E.t_uint64 1 s15 (ints .u64 (bas z N)), Old w5] w') (fun st _ => ((R : Int) - st.1).toNat)
    ⟨0, rfl, Nat.zero_le _, ?_⟩ ?_
  · rw [flags_congr (v := fun k => decide ((C : Int) ≤ k ∧ k < C + (0 : Nat))) fun k k0 k1 => (decide_eq_false (by omega)).symm] at H22
    exact H22
  rintro ⟨r', v⟩ _ w24 ⟨r, hr, hrR, H24⟩
  dsimp only at hr ⊢
  subst hr
  refine CND_dec (fun hlt => ?_) fun hge => ?_
  · refine ⟨⟨some ⟨b18, 0, none⟩, C + R, C + R⟩, H24.cell rfl, ?_⟩
    simp only [NC_some]
    rw [i64_id (n := (C : Int) + (r : Int)) (by omega) (by omega), i64_id (n := (r : Int) + 1) (by omega) (by omega), show Int.toNat ((C : Int) + (r : Int)) = C + r by omega, Nat.mul_one]
    refine ⟨⟨by omega, by show (C : Int) + r < ((C + R : Nat) : Int); omega⟩, st_row (H24.front 1 rfl) rfl (by rw [flags_len]; omega) rfl fun w28 H28 => ⟨⟨r + 1, rfl, by omega, ?_⟩, by omega⟩⟩
    have e := flags_set (n := C + R) (u := fun k => decide ((C : Int) ≤ k ∧ k < C + r)) (i := (C : Int) + r) (by omega) true
    rw [show 0 + Int.toNat ((C : Int) + r) = C + r by omega] at e
    rw [e, flags_congr (v := fun k => decide ((C : Int) ≤ k ∧ k < C + ((r + 1 : Nat) : Int))) fun k k0 k1 => ?_] at H28
    · exact H28.front 1 rfl
    · by_cases g : k = (C : Int) + r
      · rw [if_pos g]; exact (decide_eq_true (by omega)).symm
      · rw [if_neg g]; exact decide_eq_decide.2 (by omega)
  obtain rfl : r = R := by omega
  clear hge hrR
  rw [flags_congr (v := fun k => decide ((C : Int) ≤ k)) fun k k0 k1 => decide_eq_decide.2 (by omega), rf_flags] at H24
  refine ⟨⟨none, 0, 0⟩, H24.cell rfl, ⟨some ⟨b18, 0, none⟩, C + r, C + r⟩, H24.cell rfl, ⟨none, 0, 0⟩, H24.cell rfl, ?_⟩
  refine fresh16_spec (a0 := ⟨none, 0, 0⟩) (a2 := ⟨none, 0, 0⟩) (pl := []) (rf := List.replicate C false ++ List.replicate r true) (fl := []) H24 (by simp) (fun _ _ => show ([] : List Value) = [] from rfl) rfl (by decide)
    (fun w' h => by have := (h.front 1 rfl).rowAll; rwa [Nat.mul_one] at this) (by simp) (by show C + r ≤ _; omega) (fun _ _ => show ([] : List Value) = [] from rfl) rfl (by decide) fun h w33 H33 => CND_f rfl ?_
  have H33' : Sat [HeapP E h (HS.new (newV [] (List.replicate C false ++ List.replicate r true) [])), Row E.t_uint64 1 s15 (ints .u64 (bas z N)), Old w5] w33 := ((H33.front 1 rfl).tail.front 1 rfl).tail
  clear H17 H19 H21 H22 H24 H33
  have hT' : ∀ {P : Pr} w', Sat [P, Old w5] w' → TabAt E.g_math_bits_deBruijn64tab w' := fun w' h => hT.ext (h.old 1 rfl)
  have hsl := (H33'.front 1 rfl).rowLen
  rw [bas_len, Nat.mul_one] at hsl
  refine LOOP_intro (fun st w' => ∃ (i : Nat) (S : HS), st.1 = (i : Int) ∧ i ≤ N ∧ RfSt S i (wk z i).1 (wk z i).2.1 (List.replicate (C - (wk z i).2.2) false ++ List.replicate r true) ∧ (∀ k : Nat, k < i → S.V.wd (wk z k).1 0 = (k : Int) + 5) ∧ Sat [HeapP E h S, Row E.t_uint64 1 s15 (ints .u64 (bas z N)), Old w5] w') (fun st _ => ((N : Int) - st.1).toNat)
    ⟨0, _, rfl, Nat.zero_le _, RfSt.new _, fun k hk => by omega, H33'⟩ ?_
  rintro ⟨i', v⟩ _ w35 ⟨i, S, hi, hin, hR, hwd, H35⟩
  dsimp only at hi ⊢
  subst hi
  refine CND_dec (fun hlt => ?_) fun hge => ?_
  · have hi : i < N := by omega
    have hzi := hz i hi
    have hu := upN_le (z i)
    obtain ⟨c1, c2, c3, c4⟩ := wk_bnd hz i (by omega)
    have hmono := wk_mono z (i + 1) (N - i - 1)
    rw [show i + 1 + (N - i - 1) = N by omega, hC] at hmono
    have hna : (wk z (i + 1)).2.2 = (wk z i).2.2 + asks (wk z i).1 (wk z i).2.1 (z i) := rfl
    have hap := asks_pos (wk z i).1 (wk z i).2.1 (z i)
    obtain ⟨x, hx, hc, _⟩ := (RowG.oldI ha (H35.old 2 rfl)).cell1 (show i < a0.len by omega)
    rw [hx]
    simp only [NC_some]
    refine ⟨⟨by omega, by omega⟩, z i, by simpa using hc, ?_⟩
    refine halloc_spec hE.toEnvA hT' H35 hR.inv (by omega) (by omega) (fun hb => absurd hb (spOk0 (by omega) (by omega))) (fun _ S2 hl hI2 w41 H41 => ?_) fun _ page S2 bl id X hf hI2 q0 q1 hX hI3 w41 H41 => ?_
    · exfalso
      rcases hR.lost H35.hok H35.hok.clr hzi.1 (by omega) hl hI2 with ⟨q, e, _⟩ | ⟨e2, _, q, e⟩
      · rw [show C - (wk z i).2.2 = (C - (wk z i).2.2 - 1) + 1 by omega, List.replicate_succ] at e
        cases e
      · rw [show C - (wk z i).2.2 = (C - (wk z i).2.2 - 2) + 1 + 1 by omega, List.replicate_succ, List.replicate_succ] at e
        cases e
    · obtain ⟨rfl, rfl, rfl, ew, hR2, _⟩ := hR.keep H35.hok H35.hok.clr hzi.1 (by omega) hf hX hI3
      rw [List.drop_append_of_le_length (by rw [List.length_replicate]; omega), List.drop_replicate, show C - (wk z i).2.2 - asks (wk z i).1 (wk z i).2.1 (z i) = C - (wk z (i + 1)).2.2 by omega] at hR2
      have hsp : (S2.keep ((i : Int) + 1) (bl, spOf (wk z i).1 (z i) 0 false) (wk z i).1 (z i) ⟨i + 1, []⟩).sp ((i : Int) + 1) = some (bl, spOf (wk z i).1 (z i) 0 false) := if_pos rfl
      have hrd : mem (S2.keep ((i : Int) + 1) (bl, spOf (wk z i).1 (z i) 0 false) (wk z i).1 (z i) ⟨i + 1, []⟩).V.ready (wk z i).1 := hI3.ready H41.hok (hR2.ow _ (by omega) (by omega))
      generalize S2.keep ((i : Int) + 1) (bl, spOf (wk z i).1 (z i) 0 false) (wk z i).1 (z i) ⟨i + 1, []⟩ = T at *
      obtain ⟨xb, hxb⟩ := (H35.front 1 rfl).own.base_of (by omega)
      have rd : ∀ {w'} {P : Pr}, Sat [P, Row E.t_uint64 1 s15 (ints .u64 (bas z N)), Old w5] w' → w'.cell? ((Addr.mk xb 0 none).add (Int.toNat (i : Int) * 1)) = some (.int .u64 ((wk z i).1 * 8192)) := fun h => by
        rw [Int.toNat_natCast, Nat.mul_one]
        exact (h.front 1 rfl).own.cell hxb (bas_get hi)
      have hb : (0 : Int) ≤ (i : Int) ∧ (i : Int) < (s15.len : Nat) := ⟨by omega, by omega⟩
      refine hspan_spec H41 (fun e => by rw [hsp] at e; cases e) fun y hy => ?_
      rw [hsp] at hy
      cases hy
      rw [hxb]
      simp only [NC_some]
      obtain ⟨R', hs, hbk⟩ := H41.drew.heapSpan hsp
      refine JOIN_in (CND_f rfl (CND_f rfl ⟨hb, _, rd H41.drew, spinfo_spec hs fun w60 H60 => ⟨rd (hbk H60), CND_ne (fun e => absurd rfl e) fun _ => ⟨hb, _, rd (hbk H60), ?_⟩⟩⟩))
      refine hmem_spec (hbk H60) fun m R2 hm hb2 => ⟨rd (hbk H60), rd (hbk H60), store_spec hE.toEnvS hm (by omega) (by omega) fun w66 H66 => ?_⟩
      rw [rf_storeV (rf_storeE hrd)] at H66
      have H67 := hb2 H66
      refine ⟨rd H67, fun j => ?_⟩
      rw [rf_storeE hrd]
      refine CND_f rfl ?_
      rw [i64_id (n := (i : Int) + 1) (by omega) (by omega)]
      refine ⟨⟨i + 1, _, rfl, by omega, hR2.memV, fun k hk => ?_, H67⟩, by omega⟩
      show (if (wk z k).1 = (wk z i).1 * 8192 / 8192 ∧ (0 : Int) = (wk z i).1 * 8192 % 8192 / 8 then u64 (u64 (i : Int) + 5) else T.V.wd (wk z k).1 0) = _
      rcases Nat.lt_or_eq_of_le (Nat.le_of_lt_succ hk) with q | q
      · have hne := wk_ne hz q (by omega)
        rw [if_neg (fun e => by have := e.1; omega), ew]
        exact hwd k q
      · subst q
        rw [if_pos ⟨by omega, by omega⟩, u64_id (n := (k : Int)) (by omega) (by omega), u64_id (by omega) (by omega)]
  obtain rfl : i = N := by omega
  rw [hC, Nat.sub_self] at hR
  refine LOOP_intro (fun st w' => ∃ (j : Nat) (S : HS), st.1 = (j : Int) ∧ j ≤ r ∧ RfSt S i (wk z i).1 (wk z i).2.1 (List.replicate (r - j) true) ∧ (∀ k : Nat, k < i → S.V.wd (wk z k).1 0 = (k : Int) + 5) ∧ Sat [HeapP E h S, Row E.t_uint64 1 s15 (ints .u64 (bas z i)), Old w5] w') (fun st _ => ((r : Int) - st.1).toNat)
    ⟨0, S, rfl, Nat.zero_le _, hR, hwd, H35⟩ ?_
  clear hR hwd H35 hge
  rintro ⟨j', v⟩ _ w68 ⟨j, S, hj, hjr, hR, hwd, H68⟩
  dsimp only at hj ⊢
  subst hj
  refine CND_dec (fun hlt => ?_) fun hge => ?_
  · have nf : ∀ {q : List Bool}, List.replicate (r - j) true = true :: q → q = List.replicate (r - (j + 1)) true := fun {q} e => by
      rw [show r - j = (r - (j + 1)) + 1 by omega, List.replicate_succ] at e
      injection e with _ e
      exact e.symm
    have hhd : List.replicate (r - j) true = true :: List.replicate (r - (j + 1)) true := by rw [show r - j = (r - (j + 1)) + 1 by omega, List.replicate_succ]
    refine hpages_spec H68 hR.inv fun w73 H73 => halloc_spec hE.toEnvA hT' H73 hR.inv (by omega) (by omega) (fun hb => absurd hb (spOk0 (by omega) (by omega))) (fun _ S2 hl hI2 w76 H76 => ?_) fun _ page S2 bl id X hf hI2 q0 q1 hX hI3 w76 H76 => ?_
    · rcases hR.lost H73.hok H73.hok.clr (by omega) (by omega) hl hI2 with ⟨q, e, hR2, ew, esp⟩ | ⟨_, e, _⟩
      · obtain rfl := nf e
        have eg : cP S2.gone = cP S.gone := by
          rw [hR.gn.count hR.inv H73.hok, hR2.gn.count hR2.inv H76.hok, hR.inn (by omega), hR2.inn (by omega), hR.pg, hR2.pg]
        have epg : S.pages = S2.pages := by rw [hR.pg, hR2.pg]
        refine hpages_spec H76 hR2.inv fun w80 H80 => JOIN_in (CND_f rfl (CND_f rfl (CND_ne (fun e => absurd epg e) fun _ => ?_)))
        rw [eg]
        generalize cP S.gone = G
        refine CND_dec (fun g => absurd g (Int.lt_irrefl G)) fun _ => hspans_spec hE H80 (hR2.few (by omega)) fun s84 l w85 hnd hall H85 j2 => ?_
        have hl1 := hR2.spans hnd hall
        have hl2 := H85.rowLen
        simp only [ints, List.length_map] at hl2
        refine CND_ne (fun e => absurd (show (s84.len : Int) = (i : Nat) by omega) e) fun _ => ?_
        clear eg
        refine LOOP_intro (fun st w' => ∃ k : Nat, st.1 = (k : Int) ∧ k ≤ i ∧ Sat [HeapP E h S2, Row E.t_uint64 1 s15 (ints .u64 (bas z i)), Old w5] w') (fun st _ => ((i : Int) - st.1).toNat) ⟨0, rfl, Nat.zero_le _, H85.tail⟩ ?_
        rintro ⟨k', v⟩ _ w87 ⟨k, hk, hki, H87⟩
        dsimp only at hk ⊢
        subst hk
        refine CND_dec (fun hlt2 => ?_) fun hge2 => ?_
        · have hk : k < i := by omega
          obtain ⟨c1, c2, c3, c4⟩ := wk_bnd hz k (by omega)
          have hlt3 := wk_ne hz hk (Nat.le_refl _)
          have hrd := hR2.inv.ready H87.hok (hR2.ow (wk z k).1 (by omega) hlt3)
          obtain ⟨xb, hxb⟩ := (H87.front 1 rfl).own.base_of (by omega)
          have rd : w87.drew.cell? ((Addr.mk xb 0 none).add (Int.toNat (k : Int) * 1)) = some (.int .u64 ((wk z k).1 * 8192)) := by
            rw [Int.toNat_natCast, Nat.mul_one]
            exact (H87.drew.front 1 rfl).own.cell hxb (bas_get hk)
          rw [hxb]
          simp only [NC_some]
          refine ⟨⟨by omega, by omega⟩, _, rd, hmem_spec H87.drew fun m R2 hm hb2 => ⟨rd, load_spec hE.toEnvS hm (by omega) (by omega) fun w95 H95 => ?_⟩⟩
          rw [rf_loadV hrd]
          have e5 : S2.V.wd (wk z k).1 0 = u64 (u64 (k : Int) + 5) := by
            rw [ew, hwd k hk, u64_id (n := (k : Int)) (by omega) (by omega), u64_id (by omega) (by omega)]
          refine JOIN_in (CND_ne (fun e => absurd e5 e) fun _ j3 => CND_f rfl ?_)
          rw [i64_id (n := (k : Int) + 1) (by omega) (by omega)]
          exact ⟨⟨k + 1, rfl, by omega, hb2 (V' := S2.V) H95⟩, by omega⟩
        · rw [i64_id (n := (j : Int) + 1) (by omega) (by omega)]
          exact ⟨⟨j + 1, S2, rfl, by omega, hR2, fun k hk => by rw [ew]; exact hwd k hk, H87⟩, by omega⟩
      · exact absurd hhd (e _)
    · obtain ⟨_, _, _, _, _, e⟩ := hR.keep H73.hok H73.hok.clr (by omega) (by omega) hf hX hI3
      exact absurd hhd (e _)
  obtain rfl : j = r := by omega
  rw [Nat.sub_self] at hR
  refine halloc_ok hE.toEnvA hT' H68 hR.inv hR.laid (spOk0 (by omega) (by omega)) (by omega) (by omega) fun _ page S2 bl id X hf hk hI2 q0 q1 hX hI3 w101 H101 => ?_
  obtain ⟨_, rfl, _, _, _, _⟩ := hR.keep hk hk.clr (by omega) (by omega) hf hX hI3
  refine CND_dec (fun _ => CND_t rfl (hawake_spec hE.toEnvA (fun w' h => hT.ext (h.old 2 rfl)) H101 fun w103 H103 => hK w103 (H103.old 2 rfl))) fun g => absurd (by omega) g
end
end Go.Sh


namespace Go.Proofs.YtadpgaodjghbnaaGreatDoor.heapRefused
open Go.ChangeShapes Go.WideShapes Go.ChangeAt Go.RowKit
set_option linter.unusedVariables false
set_option linter.unusedSimpArgs false

theorem own : ownKnob Tryz.prog.godebug = none := by kernel_rfl
theorem laidOut : laidOutB Tryz.prog = true := by kernel_rfl
theorem gTab : Tryz.prog.globalNamed "math/bits.deBruijn64tab" = some 0 := by kernel_rfl
theorem gTabType : (Tryz.prog.globals[0]?).map (·.type) = some 184 := by kernel_rfl
theorem und1 : Tryz.prog.underlying 184 = some (.array 64 5) := by kernel_rfl
theorem und2 : Tryz.prog.underlying 5 = some (.int .u8) := by kernel_rfl
theorem cells1 : Tryz.prog.cellsOf 184 = 64 := by kernel_rfl
theorem cells2 : Tryz.prog.cellsOf 5 = 1 := by kernel_rfl

theorem table {W : World} (h : laidMetH Tryz.prog Rows.heapRefusedRow.laid W) : Go.Sh.TabAt Go.Sh.env.g_math_bits_deBruijn64tab W := by
  have ht := Lib.tabIs_of_head (rest := []) (k := .u8) (zs := Lib.deBruijn64tab.map fun n : Nat => (n : Int)) gTab gTabType und1 und2 cells2 cells1 h
  intro i hi
  have := ht.cell gTab i (by rw [List.length_map]; exact hi)
  rw [show (Lib.deBruijn64tab.map fun n : Nat => (n : Int)).getD i 0 = ((Lib.deBruijn64tab.getD i 0 : Nat) : Int) by rw [List.getD_eq_getElem?_getD, List.getD_eq_getElem?_getD, List.getElem?_map]; cases Lib.deBruijn64tab[i]? <;> rfl] at this
  exact this

theorem walk (x : Go.Sh.ArgTs [.sl (.int .u64), .int .u64, .int .i64]) (w : World) (h : Go.Sh.argOks w [.sl (.int .u64), .int .u64, .int .i64] x) (hT : Go.Sh.TabAt Go.Sh.env.g_math_bits_deBruijn64tab w) :
    Calls Tryz.prog 4 ⟨Go.Sh.argVals [.sl (.int .u64), .int .u64, .int .i64] x⟩ w fun e w' => e = .returned (.bool true) ∧ Below w.heap.size w w' := by
  obtain ⟨a0, a1, a2, u⟩ := x
  obtain ⟨w0, w1, w2, _⟩ := h
  obtain ⟨z0, w0⟩ := w0
  refine (Go.Sh.fits4 _ w (fun v w' => v = .bool true ∧ Below w.heap.size w w') Go.Sh.noP ?_).2.mono ?_
  · show Go.Sh.F.mallowlaw16_HeapRefused Go.Sh.env a0 a1 a2 (fun r w' => Value.bool r = .bool true ∧ Below w.heap.size w w') w
    exact Go.Sh.refused_spec Go.Sh.envH hT w0 fun w' h => ⟨rfl, h.below (Nat.le_refl _) fun _ f => f.elim⟩
  · intro e w' hE
    obtain ⟨v, rfl, rfl, h⟩ := hE.val
    exact ⟨rfl, h⟩

noncomputable def laidWorld (os : Os) : World :=
  { World.holding Tryz.prog os ⟨#[], #[], []⟩ with heap := (World.holding Tryz.prog os ⟨#[], #[], []⟩).heap.modify 0 fun
      | .cells _ t frozen => .cells ⟨Lib.deBruijn64tab.map fun n : Nat => .int .u8 (n : Int)⟩ t frozen
      | o => o }
theorem laid_met (os : Os) : laidMet Tryz.prog Rows.heapRefusedRow.laid ((laidWorld os).forCall (fun _ _ => 0) ⟨#[], #[.slice none 0 0, .int .u64 0, .int .i64 0], []⟩).memory :=
  laidMet_of_run' 8 (by kernel_rfl) (by kernel_rfl)
theorem reads (os : Os) {H : Type} (enc : TypeId × Value → H) : ∃ places, DataW.whole enc Tryz.prog ((laidWorld os).forCall (fun _ _ => 0) ⟨#[], #[.slice none 0 0, .int .u64 0, .int .i64 0], []⟩).memory Tryz.f4.params.toList Rows.heapRefusedSpec.vars false (#[.slice none 0 0, .int .u64 0, .int .i64 0] : Array Value).toList 8 = some ([.nil, .lit (.int .u64 0), .lit (.int .i64 0)], [], places) :=
  ⟨[], by kernel_rfl⟩

set_option maxRecDepth 100000 in
theorem lifted (os : Os) (started : os.Started) (H : Type) (enc : TypeId × Value → H) (F : Stop.Interp) :
    ReturnsInHanded {} Tryz.checked os 4 .any ((OpenSpec.ofChange Rows.heapRefusedSpec).preRow enc Tryz.prog Tryz.f4 Rows.heapRefusedRow.domain false Rows.heapRefusedRow.laid) (((OpenSpec.ofChange Rows.heapRefusedSpec).at F).post enc Tryz.prog Tryz.f4 false true false false) := by
  obtain ⟨places, hx⟩ := reads os enc
  refine returnsInHanded_of_row (C := Tryz.checked) (s := OpenSpec.ofChange Rows.heapRefusedSpec) own started (by kernel_rfl) Tryz.func4
    (witness_row_at (enc := enc) (C := Tryz.checked) false (laidWorld os) #[.slice none 0 0, .int .u64 0, .int .i64 0] rfl (by kernel_rfl) (by kernel_rfl) (by kernel_rfl)
      (OpenSpec.preRow_of_cond 8 hx (by kernel_rfl) (fun k hk => by cases hk) (by kernel_rfl) (laid_met os))) ?_
  intro W base args ds gs before hval0 hW _ _ _ hL _ _
  have hW' := hW
  obtain ⟨p, q, hA, hV, rfl, hfz, hnd⟩ := hW
  obtain ⟨rfl, rfl⟩ := trodVars_none hV
  have hargs := Go.Sh.args_of (P := Tryz.prog) (shs := [.sl (.int .u64), .int .u64, .int .i64]) (by kernel_rfl) (fun j t v ht hv => hval0 j t v (by simpa using ht) (by simpa using hv)) hA
  obtain ⟨x, hx, hok⟩ := Go.Sh.argVals_of hargs
  obtain rfl : args = ⟨Go.Sh.argVals [.sl (.int .u64), .int .u64, .int .i64] x⟩ := Array.toList_inj.1 (by simpa using hx)
  have hlen := Go.Sh.trodAll_len hA
  obtain ⟨d0, d1, d2, rfl⟩ : ∃ d0 d1 d2, ds = [d0, d1, d2] := by
    have hl : ds.length = 3 := hlen
    match ds, hl with
    | [d0, d1, d2], _ => exact ⟨d0, d1, d2, rfl⟩
  refine (walk x W hok (table hL)).mono fun e W' ⟨he, bel⟩ => ?_
  subst he
  exact ⟨_, rfl, _, _, _, [], _, [], hW', trodAll_mk1 (shut_bool Tryz.underlying4 _), Go.Sh.trodAll_below laidOut bel (by kernel_rfl) hA, rfl, bel.frame _, fun h => by cases h⟩

theorem said : Rows.HeapRefusedSaid :=
  OpenClaim.holds_of_cond 4 Tryz.f4 rfl rfl rfl rfl rfl rfl rfl ⟨rfl, rfl, rfl, rfl, rfl⟩ rfl rfl rfl rfl rfl (by kernel_rfl) Tryz.func4 (by kernel_rfl)
    (of_decide_eq_true (by kernel_rfl)) (by unfold Func.isWrapper; first | (rw [if_pos (by decide +kernel)]; kernel_rfl) | (rw [if_neg (by decide +kernel)]; exact ⟨rfl, rfl⟩))
    (fun os started H enc _ F => by rw [OpenClaim.pre_eq_preRow]; exact lifted os started H enc F)

theorem plain (f : FuncId) (fn : Func) (hf : Tryz.pinned.checked.prog.funcNamed "mallow/mallowlaw16.HeapRefused" = some f) (hfn : Tryz.pinned.checked.prog.funcs[f]? = some fn) :
    true = Tryz.pinned.checked.prog.looks [] ∧ ∀ (j : Nat) t, fn.params[j]? = some t → Tryz.pinned.checked.prog.wantsStandIn t = false := by
  obtain rfl : f = 4 := Option.some.inj ((show Tryz.prog.funcNamed "mallow/mallowlaw16.HeapRefused" = some 4 by kernel_rfl).symm.trans hf) |>.symm
  obtain rfl : fn = Tryz.f4 := (Option.some.inj (Tryz.func4.symm.trans hfn)).symm
  refine ⟨by kernel_rfl, fun j t ht => ?_⟩
  have hall : (Tryz.f4.params.toList.all fun t => !(Tryz.prog.wantsStandIn t)) = true := by kernel_rfl
  have := List.all_eq_true.1 hall t (Array.mem_toList_iff.2 (Array.mem_of_getElem? ht))
  exact Bool.not_eq_true' _ ▸ this

theorem proved : Rows.HeapRefusedCardSaid :=
  Claim7.holds_tied_plain_at .later [] _ _ _ _ said (fun _ h => by cases h) (by kernel_rfl) (fun _ h => by cases h) heapRefused_row_tie rfl ⟨rfl, rfl⟩ (by kernel_rfl) rfl plain (by kernel_rfl)
#print axioms proved
end Go.Proofs.YtadpgaodjghbnaaGreatDoor.heapRefused

