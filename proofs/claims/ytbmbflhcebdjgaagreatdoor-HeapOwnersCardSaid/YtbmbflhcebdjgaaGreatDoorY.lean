/- The address space does what its pages and words say. No further condition. -/
import Derived.Test.YtbmbflhcebdjgaaGreatDoorS
import Derived.Test.YtbmbflhcebdjgaaGreatDoorA
import Derived.Test.YtbmbflhcebdjgaaGreatDoorM
import Derived.Test.YtbmbflhcebdjgaaGreatDoorU
set_option linter.all false
set_option maxRecDepth 4000
set_option maxHeartbeats 1000000
namespace Go.Sh
structure VS where
  laid : Iv
  ready : Iv
  rel : Iv
  wd : Int -> Int -> Int
  pl : List Int
  rf : List Bool
  fl : List Int
structure VG where
  sp : SlV
  sr : SlV
  sf : SlV
  s1 : SlV
  s2 : SlV
  s3 : SlV
  fb : Nat
  pb : Nat
  G : Pgs
  f : Int -> Option Int
def slV (s : SlV) : Value := .slice s.base s.len s.cap
def vcells (V : VS) (g : VG) : List Value :=
  [slV g.sp, slV g.sr, slV g.sf, slV g.s1, .int .u64 (tot V.laid), slV g.s2, .int .u64 (tot V.ready), slV g.s3, .int .u64 (tot V.rel), .map (some g.fb), .map (some g.pb)]
def fillM (g : VG) : Int -> Option Value := fun p => (g.f p).map fun n => .int .u64 n
def pageM (g : VG) : Int -> Option Value := fun p => (g.G p).map fun x => .pointer (some ⟨x.1, 0, none⟩)
def vres (E : Env) (b : Nat) (V : VS) (g : VG) : List Pr :=
  [Cells b 0 (vcells V g), SetR E g.s1 V.laid, SetR E g.s2 V.ready, SetR E g.s3 V.rel, RowV g.sp (ints .u64 V.pl), RowV g.sr (bools V.rf), RowV g.sf (ints .u64 V.fl),
   MapF g.fb .u64 (fillM g), MapF g.pb .u64 (pageM g), PagesR 1024 g.G]
def wordOf (g : VG) (p i : Int) : Int := match g.G p with
  | some x => x.2 i
  | none => (g.f p).getD 0
structure VInv (V : VS) (g : VG) : Prop where
  wd : ∀ p i, 0 <= i -> i < 1024 -> V.wd p i = wordOf g p i
  pg : ∀ p, g.G p ≠ none -> mem V.ready p
  fi : ∀ p, g.f p ≠ none -> mem V.ready p
  rl : ∀ p, mem V.ready p -> mem V.laid p
  el : ∀ p, mem V.rel p -> mem V.laid p
  re : ∀ p, mem V.ready p -> ¬ mem V.rel p
  lim : ∀ p, mem V.laid p -> 512 <= p /\ p < 34359738368
  plw : ∀ x ∈ V.pl, 0 <= x /\ x < 18446744073709551616
def VmemP (E : Env) (b : Nat) (V : VS) : Pr := Ex fun g => Where (VInv V g) (Star (vres E b V g))
section
variable {E : Env} {b : Nat} {V : VS} {Rs : List Pr} {w : World}
theorem Sat.vmem : Sat (VmemP E b V :: Rs) w ↔ ∃ g, VInv V g /\ Sat (vres E b V g ++ Rs) w := by
  unfold VmemP
  rw [Sat.ex]
  constructor
  · rintro ⟨g, h⟩; obtain ⟨h1, h2⟩ := Sat.where.1 h; exact ⟨g, h1, Sat.star.1 h2⟩
  · rintro ⟨g, h1, h2⟩; exact ⟨g, Sat.where.2 ⟨h1, Sat.star.2 h2⟩⟩
theorem vres_oks {g : VG} (H : Sat (vres E b V g ++ Rs) w) : Ok V.laid /\ Ok V.ready /\ Ok V.rel :=
  ⟨(SetR.ok (H.front 1 rfl)).1, (SetR.ok (H.front 2 rfl)).1, (SetR.ok (H.front 3 rfl)).1⟩
theorem used_bool {g : VG} (H : Sat (vres E b V g ++ Rs) w) {K : Bool -> Bool -> World -> Prop} (h0 : V.rf = [] -> K false false w)
    (h1 : ∀ x r, V.rf = x :: r -> ∀ w', Sat (vres E b { V with rf := r } { g with sr := ⟨slB g.sr.base g.sr.cap 1 1, g.sr.len - 1, g.sr.cap - 1⟩ } ++ Rs) w' -> K x true w') :
    F.vmem_used_bool_ E (some ⟨b, 1, none⟩) K w := by
  unfold F.vmem_used_bool_
  have hl := (H.front 5 rfl).rowVlen
  have c := H.cell0 (o := 1) rfl
  simp only [NC_some]
  refine ⟨g.sr, c, CND_dec (fun hlt => ?_) fun hge => h0 ?_⟩
  · cases hr : V.rf with
    | nil => have := hl.1; rw [hr] at this; simp [bools] at this; omega
    | cons x r =>
      obtain ⟨a, ha, hc⟩ := (H.front 5 rfl).rowVcell (j := 0) (v := .bool x) (by rw [hr]; rfl)
      refine ⟨g.sr, c, ?_⟩
      rw [ha]
      refine ⟨⟨by decide, by omega⟩, x, hc, g.sr, c, ⟨by decide, by omega⟩, ?_⟩
      have H2 := Sat.back 5 ((H.front 5 rfl).rowVdrop (n := 1) (by omega)) (by simp [vres])
      rw [hr] at H2
      exact st_cell0 H2 rfl (by simp [vcells]) fun w' H' => h1 x r hr w' H'
  · have := hl.1
    have : (bools V.rf).length = 0 := by omega
    simpa [bools] using this
theorem used_u64 {o : Nat} {s : SlV} {l : List Int} {rest : List Pr} {vs : List Value} (H : Sat (Cells b 0 vs :: RowV s (ints .u64 l) :: rest) w) (ho : vs[o]? = some (slV s)) {K : Int -> Bool -> World -> Prop}
    (h0 : l = [] -> K 0 false w)
    (h1 : ∀ x r, l = x :: r -> ∀ w', Sat (Cells b 0 (vs.set o (slV ⟨slB s.base s.cap 1 1, s.len - 1, s.cap - 1⟩)) :: RowV ⟨slB s.base s.cap 1 1, s.len - 1, s.cap - 1⟩ (ints .u64 r) :: rest) w' -> K x true w') :
    F.vmem_used_uint64_ E (some ⟨b, o, none⟩) K w := by
  unfold F.vmem_used_uint64_
  have hl := (H.front 1 rfl).rowVlen
  have c := H.cell0 ho
  simp only [NC_some]
  refine ⟨s, c, CND_dec (fun hlt => ?_) fun hge => h0 ?_⟩
  · cases hr : l with
    | nil => have := hl.1; rw [hr] at this; simp [ints] at this; omega
    | cons x r =>
      obtain ⟨a, ha, hc⟩ := (H.front 1 rfl).rowVcell (j := 0) (v := .int .u64 x) (by rw [hr]; rfl)
      refine ⟨s, c, ?_⟩
      rw [ha]
      refine ⟨⟨by decide, by omega⟩, x, hc, s, c, ⟨by decide, by omega⟩, ?_⟩
      have H2 := Sat.back2 0 (((H.front 1 rfl).rowVdrop (n := 1) (by omega)).perm (.swap _ _ _)) (by simp)
      rw [hr] at H2
      exact st_cell0 H2 rfl (List.getElem?_eq_some_iff.1 ho).1 fun w' H' => h1 x r hr w' H'
  · have : (ints .u64 l).length = 0 := by omega
    simpa [ints] using this
def fitsV (l : Iv) (page pages : Int) : Prop := page % 512 = 0 /\ page ≠ 0 /\ page + pages <= 34359738368 /\ cnt l page (page + pages) = 0
structure Placed (l : Iv) (frm pages at_ : Int) : Prop where
  mul : at_ % 512 = 0
  low : 512 <= at_
  fr : frm <= at_
  free : ∀ m, at_ <= m -> m < at_ + pages -> ¬ mem l m
  first : ∀ a, a % 512 = 0 -> 512 <= a -> frm <= a -> a < at_ -> ∃ m, a <= m /\ m < a + pages /\ mem l m
variable (hE : EnvS E)
include hE
theorem fits_spec {g : VG} (H : Sat (vres E b V g ++ Rs) w) {page pages : Int} (h0 : 0 <= page) (h1 : page < 18446744073709551616) (p0 : 0 <= pages) (p1 : pages <= 134217728) {K : Bool -> World -> Prop}
    (hK : ∀ r w', (r = true ↔ fitsV V.laid page pages) -> Ext Nothing w w' -> K r w') : F.vmem_Mem_fits E (some ⟨b, 0, none⟩) page pages K w := by
  unfold F.vmem_Mem_fits T0.vmem_Mem_fits
  have e0 := Ext.refl Nothing w
  have hm : Int.tmod page 512 = page % 512 := Int.tmod_eq_emod_of_nonneg h0
  rw [hm]
  refine ⟨by decide, CND_eq (fun m0 => CND_ne (fun z => CND_dec (fun hle => ?_) fun hgt => ?_) fun z => ?_) fun m0 => ?_⟩
  · rw [u64_id (n := 34359738368 - page) (by omega) (by omega)]
    refine CND_dec (fun hle2 => ?_) fun hgt => ?_
    · rw [u64_id (n := page + pages) (by omega) (by omega)]
      simp only [NC_some, add_eq, Nat.zero_add]
      refine count_sl hE H (o := 3) rfl rfl h0 (by omega) (by omega) fun w' hw' => hK _ w' ?_ hw'
      unfold fitsV
      simp only [beq_iff_eq]
      exact ⟨fun h => ⟨m0, z, by omega, h⟩, fun h => h.2.2.2⟩
    · refine hK false w ⟨fun h => (by cases h), fun h => ?_⟩ e0
      have := h.2.2.1; omega
  · refine hK false w ⟨fun h => (by cases h), fun h => ?_⟩ e0
    have := h.2.2.1; omega
  · exact hK false w ⟨fun h => (by cases h), fun h => absurd z h.2.1⟩ e0
  · exact hK false w ⟨fun h => (by cases h), fun h => absurd h.1 m0⟩ e0
theorem place_spec {g : VG} (hI : VInv V g) (H : Sat (vres E b V g ++ Rs) w) {frm pages : Int} (h0 : 0 <= frm) (h1 : frm < 18446744073709551616) (p0 : 0 < pages) (p1 : pages <= 134217728) {K : Int -> Bool -> World -> Prop}
    (hk0 : 34359738368 < frm -> K 0 false w)
    (hk1 : frm <= 34359738368 -> ∀ at_ r w', Placed V.laid frm pages at_ -> at_ <= 34359738880 -> (r = true ↔ at_ + pages <= 34359738368) -> Ext Nothing w w' -> K at_ r w') :
    F.vmem_Mem_place E (some ⟨b, 0, none⟩) frm pages K w := by
  unfold F.vmem_Mem_place T0.vmem_Mem_place
  refine CND_dec hk0 fun hle => ⟨by decide, LET_intro fun at0 hat0 => ?_⟩
  have hup : ∀ n : Int, 0 <= n -> n <= 34359738368 -> u64 (u64 (Int.tdiv (u64 (u64 (n + 512) - 1)) 512) * 512) = (n + 511) / 512 * 512 := by
    intro n h0 h1
    rw [u64_id (n := n + 512) (by omega) (by omega), u64_id (n := n + 512 - 1) (by omega) (by omega), Int.tdiv_eq_ediv_of_nonneg (by omega), u64_id (n := (n + 512 - 1) / 512) (by omega) (by omega), u64_id (by omega) (by omega)]
    rw [show n + 512 - 1 = n + 511 by omega]
  rw [hup frm h0 (by omega), maxI_eq] at hat0
  simp only [NC_some, add_eq, Nat.zero_add]
  have hr := (H.setAt (o := 3) rfl rfl).row
  have hlen := hr.len
  have hsm := hr.small
  have hbig : big = 4398046511104 := rfl
  refine JOIN_intro (fun st w' => Ext Nothing w w' /\ Placed V.laid frm pages st.1 /\ st.1 <= 34359738880) ?_ ?_
  · unfold F.stretch_Set_All
    simp only [NC_some]
    refine ⟨g.s1, hr.c0, LOOP_intro (fun st w' => ∃ k : Nat, st.2.1 = (k : Int) /\ k <= V.laid.length /\ Ext Nothing w w' /\ st.1 % 512 = 0 /\ 512 <= st.1 /\ frm <= st.1 /\ st.1 <= 34359738880 /\ (∀ q ∈ V.laid.take k, q.2 <= st.1) /\
      ∀ a, a % 512 = 0 -> 512 <= a -> frm <= a -> a < st.1 -> ∃ m, a <= m /\ m < a + pages /\ mem V.laid m) (fun st _ => (V.laid.length - st.2.1).toNat)
      ⟨0, rfl, Nat.zero_le _, Ext.refl _ _, by simp only; omega, by simp only; omega, by simp only; omega, by simp only; omega, by simp, fun a h1 h2 h3 h4 => by simp only at h4; omega⟩ ?_⟩
    rintro ⟨at_, i', v⟩ _ w9 ⟨k, hk, hkl, hw9, m0, m1, m2, m3, hbef, hfirst⟩
    simp only at hk m0 m1 m2 m3 hbef hfirst ⊢
    subst hk
    refine CND_dec (fun hlt => ?_) fun hge => ⟨hw9, ⟨m0, m1, m2, fun m h1 h2 hm => ?_, hfirst⟩, m3⟩
    · have hk2 : k < V.laid.length := by omega
      obtain ⟨q, hq⟩ : ∃ q, V.laid[k]? = some q := ⟨_, List.getElem?_eq_getElem hk2⟩
      obtain ⟨g1, g2⟩ := flat_get V.laid k q hq
      have hqb := hr.ok.get hq
      have hql := hI.lim (q.2 - 1) ⟨q, List.mem_of_getElem? hq, by omega, by omega⟩
      have hown := (hr.own.ext hw9 fun b hb f => f)
      obtain ⟨bb, hb⟩ := hown.base_of (by omega)
      rw [hb]
      simp only [NC_some, add_eq, Nat.zero_add, Int.toNat_natCast, Nat.add_zero]
      have c1 := hown.cell hb g1
      have c2 := hown.cell hb g2
      rw [add_eq, Nat.zero_add] at c1 c2
      refine ⟨⟨by omega, by omega⟩, q.1, c1, q.2, c2, ?_⟩
      refine AL_cells (Sat.start w9) fun b14 w15 H15 he15 => st_all H15 (by rfl) (by simp [Value.oneCell']) fun w16 H16 => ?_
      have hw16 : Ext Nothing w w16 := hw9.trans' (H16.old 1 rfl)
      have ei : i64 ((k : Int) + 1) = ((k + 1 : Nat) : Int) := by rw [i64_id (by omega) (by omega)]; omega
      have htake : ∀ x, q.2 <= x -> (∀ p ∈ V.laid.take k, p.2 <= x) -> ∀ p ∈ V.laid.take (k + 1), p.2 <= x := by
        intro x h1 h2 p hp
        rw [List.take_succ_eq_append_getElem hk2, List.mem_append, List.mem_singleton] at hp
        rcases hp with hp | rfl
        · exact h2 p hp
        · have : V.laid[k] = q := by rw [List.getElem?_eq_getElem hk2] at hq; exact Option.some.inj hq
          rw [this]; exact h1
      refine ⟨q.2, H16.cell0 rfl, CND_dec (fun hle => ⟨⟨k + 1, ei, by omega, hw16, m0, m1, m2, m3, htake _ hle hbef, hfirst⟩, by simp only [ei]; omega⟩) fun hgt => ?_⟩
      have hnext : ∀ w', Sat [Cells b14 E.t_stretch_One [.int .u64 q.1, .int .u64 q.2], Old w9] w' -> ¬ (at_ <= q.1 /\ pages <= q.1 - at_) -> ∀ (nx : Int -> Prop),
          (∀ a, (a % 512 = 0 /\ 512 <= a /\ frm <= a /\ a <= 34359738880 /\ (∀ p ∈ V.laid.take (k + 1), p.2 <= a) /\ (∀ a', a' % 512 = 0 -> 512 <= a' -> frm <= a' -> a' < a -> ∃ m, a' <= m /\ m < a' + pages /\ mem V.laid m)) -> Ext Nothing w w' -> nx a) ->
          ∃ x23 : Int, w'.cell? ⟨b14, 1, none⟩ = some (.int .u64 x23) /\ 512 ≠ (0 : Int) /\ LET (u64 ((u64 (Int.tdiv (u64 ((u64 (x23 + 512)) - 1)) 512)) * 512) : Int) fun at_24 => nx at_24 := by
        intro w' H' hno nx hnx
        refine ⟨q.2, H'.cell0 rfl, by decide, LET_intro fun a ha => ?_⟩
        rw [hup q.2 (by omega) (by omega)] at ha
        refine hnx a ⟨by omega, by omega, by omega, by omega, htake a (by omega) fun p hp => by have := hbef p hp; omega, fun a' b1 b2 b3 b4 => ?_⟩ (hw9.trans' (H'.old 1 rfl))
        by_cases e : a' < at_
        · exact hfirst a' b1 b2 b3 e
        · by_cases e2 : q.1 <= a'
          · exact ⟨a', by omega, by omega, q, List.mem_of_getElem? hq, e2, by omega⟩
          · exact ⟨q.1, by omega, by omega, q, List.mem_of_getElem? hq, by omega, by omega⟩
      refine JOIN_in ⟨q.1, H16.cell0 rfl, CND_dec (fun hge1 => ⟨q.1, H16.cell0 rfl, ?_⟩) fun hlt1 j => hnext w16 H16 (fun h => hlt1 h.1) _ fun a h1 h2 => ?_⟩
      · rw [u64_id (n := q.1 - at_) (by omega) (by omega)]
        refine CND_dec (fun hge2 => ⟨hw16, ⟨m0, m1, m2, fun m h1 h2 hm => ?_, hfirst⟩, m3⟩) fun hlt2 j => hnext w16 H16 (fun h => by omega) _ fun a h1 h2 => ?_
        · obtain ⟨p, hp, h3, h4⟩ := hm
          obtain ⟨i, hi⟩ := List.mem_iff_getElem?.1 hp
          rcases Nat.lt_trichotomy i k with h | h | h
          · have := hbef p (List.mem_of_getElem? (i := i) (by rw [List.getElem?_take, if_pos h]; exact hi)); omega
          · subst h; rw [hq] at hi; cases hi; omega
          · have := hr.ok.lt h hq hi; omega
        · exact ⟨⟨k + 1, ei, by omega, h2, h1.1, h1.2.1, h1.2.2.1, h1.2.2.2.1, h1.2.2.2.2.1, h1.2.2.2.2.2⟩, by simp only [ei]; omega⟩
      · exact ⟨⟨k + 1, ei, by omega, h2, h1.1, h1.2.1, h1.2.2.1, h1.2.2.2.1, h1.2.2.2.2.1, h1.2.2.2.2.2⟩, by simp only [ei]; omega⟩
    · obtain ⟨p, hp, h3, h4⟩ := hm
      have := hbef p (by rw [List.take_of_length_le (by omega)]; exact hp)
      omega
  · rintro ⟨at_, v⟩ _ w4 ⟨hw4, hpl, hle4⟩
    simp only at hpl hle4 ⊢
    refine fits_spec hE (H.nothing hw4) (by have := hpl.low; omega) (by omega) (by omega) p1 fun r w' hrr hw' => hk1 (by omega) at_ r w' hpl hle4 ?_ (hw4.trans' hw')
    rw [hrr]
    have := hpl.mul
    have := hpl.low
    constructor
    · intro h; exact h.2.2.1
    · intro h; exact ⟨hpl.mul, by omega, h, (cnt_none hr.ok (by omega)).2 hpl.free⟩
end
end Go.Sh

set_option linter.all false
set_option maxRecDepth 4000
set_option maxHeartbeats 1000000
namespace Go.Sh
def Hinted (l : Iv) (hint pages at_ : Int) : Prop := hint <= 34359738368 /\ Placed l hint pages at_ /\ at_ + pages <= 34359738368
def NoHint (l : Iv) (hint pages : Int) : Prop := 34359738368 < hint ∨ ∃ a, Placed l hint pages a /\ ¬ a + pages <= 34359738368
def NoHead (V : VS) (pages : Int) : Prop := ∀ p r, V.pl = p :: r -> ¬ fitsV V.laid p pages
def Chosen (V : VS) (hint pages at_ : Int) : Prop :=
  (∃ p r, V.pl = p :: r /\ fitsV V.laid p pages /\ at_ = p) ∨ (NoHead V pages /\ (Hinted V.laid hint pages at_ ∨ (NoHint V.laid hint pages /\ Hinted V.laid 0 pages at_)))
def Unplaced (V : VS) (hint pages : Int) : Prop := NoHead V pages /\ NoHint V.laid hint pages /\ NoHint V.laid 0 pages
theorem Placed.fits {l : Iv} (h : Ok l) {hint pages at_ : Int} (p0 : 0 < pages) (hp : Placed l hint pages at_) (ha : at_ + pages <= 34359738368) : fitsV l at_ pages :=
  ⟨hp.mul, by have := hp.low; omega, ha, (cnt_none h (by omega)).2 hp.free⟩
theorem Chosen.fits {V : VS} (h : Ok V.laid) {hint pages at_ : Int} (p0 : 0 < pages) (hc : Chosen V hint pages at_) : fitsV V.laid at_ pages := by
  rcases hc with ⟨p, r, _, h1, rfl⟩ | ⟨_, ⟨_, h1, h2⟩ | ⟨_, _, h1, h2⟩⟩
  · exact h1
  · exact h1.fits h p0 h2
  · exact h1.fits h p0 h2
section
variable {E : Env} {b : Nat} {V : VS} {Rs : List Pr} {w : World} (hE : EnvS E)
include hE
theorem reserve_spec (H : Sat (VmemP E b V :: Rs) w) {hint pages : Int} (h0 : 0 <= hint) (h1 : hint < 18446744073709551616) (p0 : 0 <= pages) (p1 : pages < 18446744073709551616) {K : Int -> Int -> World -> Prop}
    (hk0 : (pages = 0 ∨ pages % 512 ≠ 0 ∨ 134217728 < pages) -> K 0 1 w)
    (hk1 : ¬ (pages = 0 ∨ pages % 512 ≠ 0 ∨ 134217728 < pages) -> ∀ r, V.rf = true :: r -> ∀ w', Sat (VmemP E b { V with rf := r } :: Rs) w' -> K 0 13 w')
    (hk2 : ¬ (pages = 0 ∨ pages % 512 ≠ 0 ∨ 134217728 < pages) -> (∀ r, V.rf ≠ true :: r) -> Unplaced V hint pages -> ∀ w', Sat (VmemP E b { V with rf := V.rf.tail, pl := V.pl.tail } :: Rs) w' -> K 0 13 w')
    (hk3 : ¬ (pages = 0 ∨ pages % 512 ≠ 0 ∨ 134217728 < pages) -> (∀ r, V.rf ≠ true :: r) -> ∀ at_, Chosen V hint pages at_ -> ∀ w', Sat (VmemP E b { V with rf := V.rf.tail, pl := V.pl.tail, laid := addL V.laid at_ (at_ + pages) } :: Rs) w' -> K at_ 0 w') :
    F.vmem_Mem_Reserve E (some ⟨b, 0, none⟩) hint pages K w := by
  unfold F.vmem_Mem_Reserve T0.vmem_Mem_Reserve
  simp only [Nat.mul_one]
  rw [Int.tmod_eq_emod_of_nonneg p0]
  refine JOIN_in (CND_eq (fun e j => CND_t rfl (hk0 (.inl e))) fun n1 => ⟨by decide, CND_ne (fun e j => CND_t rfl (hk0 (.inr (.inl e)))) fun n2 j => CND_dec (fun e => hk0 (.inr (.inr e))) fun n3 => ?_⟩)
  have hbad : ¬ (pages = 0 ∨ pages % 512 ≠ 0 ∨ 134217728 < pages) := by omega
  obtain ⟨g, hI, H⟩ := Sat.vmem.1 H
  obtain ⟨hok1, hok2, hok3⟩ := vres_oks H
  simp only [NC_some, add_eq, Nat.zero_add]
  have hrest : (∀ r, V.rf ≠ true :: r) -> ∀ (sr : SlV) (w7 : World), Sat (vres E b { V with rf := V.rf.tail } { g with sr := sr } ++ Rs) w7 ->
      F.vmem_used_uint64_ E (some ⟨b, 0, none⟩) (fun r9 r10 w11 =>
        JOIN (Bool × Unit) (fun J12 =>
          CND (r10) (
            F.vmem_Mem_fits E (some ⟨b, 0, none⟩) r9 pages (fun r15 w16 =>
            J12 (r15, ()) w16
            ) w11
          ) (
            J12 (false, ()) w11
          )
        ) fun s13 _ w14 =>
          AL (.cells ⟨[.int .u64 hint, .int .u64 0]⟩ E.t_uint64) w14 fun b17 w18 =>
          LOOP (Int × Bool × Int × Unit) (r9, s13.1, 0, ()) w18 fun s19 _ w20 next21 =>
            CND (decide ((s19.2.2.1 : Int) < 2)) (
              ((0 : Int) <= s19.2.2.1 /\ (s19.2.2.1 : Int) < (2 : Nat)) /\
              ∃ x22 : Int, w20.cell? (Addr.mk b17 (Int.toNat s19.2.2.1) none) = some (.int .u64 x22) /\
              CND (!s19.2.1) (
                F.vmem_Mem_place E (some ⟨b, 0, none⟩) x22 pages (fun r23 r24 w25 =>
                next21 (r23, r24, i64 (s19.2.2.1 + 1), ()) w25
                ) w20
              ) (
                next21 (s19.1, s19.2.1, i64 (s19.2.2.1 + 1), ()) w20
              )
            ) (
              CND (!s19.2.1) (
                K 0 13 w20
              ) (
                F.stretch_Set_Add E (some ⟨b, 3, none⟩) s19.1 (u64 (s19.1 + pages)) (fun  w27 =>
                K s19.1 0 w27
                ) w20
              )
            )) w7 := by
    intro hrf sr w7 H7
    have hloop : ∀ (sp : SlV) (pl : List Int) (at0 : Int) (ok0 : Bool) (w14 : World), pl = V.pl.tail -> (ok0 = true -> Chosen V hint pages at0) -> (ok0 = false -> NoHead V pages) ->
        Sat (vres E b { V with rf := V.rf.tail, pl := pl } { g with sr := sr, sp := sp } ++ Rs) w14 ->
        AL (.cells ⟨[.int .u64 hint, .int .u64 0]⟩ E.t_uint64) w14 fun b17 w18 =>
          LOOP (Int × Bool × Int × Unit) (at0, ok0, 0, ()) w18 fun s19 _ w20 next21 =>
            CND (decide ((s19.2.2.1 : Int) < 2)) (
              ((0 : Int) <= s19.2.2.1 /\ (s19.2.2.1 : Int) < (2 : Nat)) /\
              ∃ x22 : Int, w20.cell? (Addr.mk b17 (Int.toNat s19.2.2.1) none) = some (.int .u64 x22) /\
              CND (!s19.2.1) (
                F.vmem_Mem_place E (some ⟨b, 0, none⟩) x22 pages (fun r23 r24 w25 =>
                next21 (r23, r24, i64 (s19.2.2.1 + 1), ()) w25
                ) w20
              ) (
                next21 (s19.1, s19.2.1, i64 (s19.2.2.1 + 1), ()) w20
              )
            ) (
              CND (!s19.2.1) (
                K 0 13 w20
              ) (
                F.stretch_Set_Add E (some ⟨b, 3, none⟩) s19.1 (u64 (s19.1 + pages)) (fun  w27 =>
                K s19.1 0 w27
                ) w20
              )
            ) := by
      intro sp pl at0 ok0 w14 hpl hc0 hn0 H14
      subst hpl
      have hI2 : VInv { V with rf := V.rf.tail, pl := V.pl.tail } { g with sr := sr, sp := sp } := ⟨hI.wd, hI.pg, hI.fi, hI.rl, hI.el, hI.re, hI.lim, fun x hx => hI.plw x (List.mem_of_mem_tail hx)⟩
      refine AL_cells H14 fun b17 w18 H18 _ => ?_
      refine LOOP_intro (fun st w' => 0 <= st.2.2.1 /\ st.2.2.1 <= 2 /\ Sat (Cells b17 E.t_uint64 [.int .u64 hint, .int .u64 0] :: (vres E b { V with rf := V.rf.tail, pl := V.pl.tail } { g with sr := sr, sp := sp } ++ Rs)) w' /\
        (st.2.1 = true -> Chosen V hint pages st.1) /\ (st.2.1 = false -> NoHead V pages /\ (1 <= st.2.2.1 -> NoHint V.laid hint pages) /\ (2 <= st.2.2.1 -> NoHint V.laid 0 pages))) (fun st _ => (2 - st.2.2.1).toNat)
        ⟨Int.le_refl _, by show (0 : Int) <= 2; omega, H18, hc0, fun h => ⟨hn0 h, fun h => by simp only at h; omega, fun h => by simp only at h; omega⟩⟩ ?_
      rintro ⟨at_, ok, k, v⟩ _ w20 ⟨k0, k1, H20, hc, hn⟩
      simp only at k0 k1 H20 hc hn ⊢
      refine CND_dec (fun hlt => ?_) fun hge => ?_
      · rw [i64_id (n := k + 1) (by omega) (by omega)]
        refine ⟨⟨k0, by omega⟩, if k = 0 then hint else 0, ?_, ?_⟩
        · by_cases e : k = 0
          · subst e; exact H20.cell0 rfl
          · have : k = 1 := by omega
            subst this; exact H20.cell0 rfl
        cases ok with
        | true => exact CND_f rfl ⟨⟨by show 0 <= k + 1; omega, by show k + 1 <= 2; omega, H20, hc, fun h => by cases h⟩, by show (2 - (k + 1)).toNat < (2 - k).toNat; omega⟩
        | false =>
          obtain ⟨n1, n2, n3⟩ := hn rfl
          have hx0 : 0 <= (if k = 0 then hint else 0) := by split <;> omega
          have hx1 : (if k = 0 then hint else 0) < 18446744073709551616 := by split <;> omega
          have hno : NoHint V.laid (if k = 0 then hint else 0) pages -> (1 <= k + 1 -> NoHint V.laid hint pages) /\ (2 <= k + 1 -> NoHint V.laid 0 pages) := by
            intro h
            by_cases e : k = 0
            · rw [if_pos e] at h; exact ⟨fun _ => h, fun h => by omega⟩
            · rw [if_neg e] at h; exact ⟨fun _ => n2 (by omega), fun _ => h⟩
          refine CND_t rfl (place_spec hE hI2 H20.tail hx0 hx1 (by omega) (by omega) (fun hgt => ?_) fun hle a r w25 hpl hal hr hw25 => ?_)
          · exact ⟨⟨by show 0 <= k + 1; omega, by show k + 1 <= 2; omega, H20, fun h => (by cases h), fun _ => ⟨n1, hno (.inl hgt)⟩⟩, by show (2 - (k + 1)).toNat < (2 - k).toNat; omega⟩
          · refine ⟨⟨by show 0 <= k + 1; omega, by show k + 1 <= 2; omega, H20.nothing hw25, fun h => ?_, fun h => ⟨n1, hno (.inr ⟨a, hpl, fun h2 => ?_⟩)⟩⟩, by show (2 - (k + 1)).toNat < (2 - k).toNat; omega⟩
            · have hal2 := hr.1 h
              refine .inr ⟨n1, ?_⟩
              by_cases e : k = 0
              · rw [if_pos e] at hpl hle; exact .inl ⟨hle, hpl, hal2⟩
              · rw [if_neg e] at hpl hle; exact .inr ⟨n2 (by omega), hle, hpl, hal2⟩
            · have h' : r = false := h
              rw [hr.2 h2] at h'; cases h'
      · have hk2' : k = 2 := by omega
        subst hk2'
        cases ok with
        | false =>
          obtain ⟨n1, n2, n3⟩ := hn rfl
          exact CND_t rfl (hk2 hbad hrf ⟨n1, n2 (by decide), n3 (by decide)⟩ w20 (Sat.vmem.2 ⟨_, hI2, H20.tail⟩))
        | true =>
          have hch := hc rfl
          have hft := hch.fits hok1 (by omega)
          have hmul := hft.1
          have hne := hft.2.1
          have hat0 : 0 <= at_ := by
            rcases hch with ⟨p, r, h1, _, h2⟩ | ⟨_, ⟨_, h1, _⟩ | ⟨_, _, h1, _⟩⟩
            · rw [h2]; exact (hI.plw p (by rw [h1]; simp)).1
            · have := h1.low; omega
            · have := h1.low; omega
          have hat1 := hft.2.2.1
          have hbig : big = 4398046511104 := rfl
          rw [u64_id (n := at_ + pages) (by omega) (by omega)]
          refine CND_f rfl (add_sl hE H20.tail (o := 3) rfl rfl hat0 (by omega) (by omega) fun w27 s' H27 => hk3 hbad hrf at_ hch w27 (Sat.vmem.2 ⟨{ g with sr := sr, sp := sp, s1 := s' }, ?_, H27⟩))
          have hm : ∀ p, mem (addL V.laid at_ (at_ + pages)) p ↔ mem V.laid p ∨ (at_ <= p /\ p < at_ + pages) := fun p => mem_addL hok1 (by omega) hat0 (by omega) p
          refine ⟨hI.wd, hI.pg, hI.fi, fun p hp => (hm p).2 (.inl (hI.rl p hp)), fun p hp => (hm p).2 (.inl (hI.el p hp)), hI.re, fun p hp => ?_, hI2.plw⟩
          rcases (hm p).1 hp with h | h
          · exact hI.lim p h
          · omega
    refine used_u64 (o := 0) (H7.front2 3 rfl) rfl (fun hnil => ?_) fun x r hx w11 H11 => ?_
    · refine JOIN_in (CND_f rfl fun j => hloop g.sp V.pl 0 false w7 ?_ (fun h => by cases h) (fun _ p r h => ?_) H7)
      · have : V.pl = [] := hnil
        rw [this]; rfl
      · have : V.pl = [] := hnil
        rw [this] at h; cases h
    · have hx' : V.pl = x :: r := hx
      have H12 : Sat (vres E b { V with rf := V.rf.tail, pl := r } { g with sr := sr, sp := ⟨slB g.sp.base g.sp.cap 1 1, g.sp.len - 1, g.sp.cap - 1⟩ } ++ Rs) w11 := Sat.back2 3 H11 (by simp [vres])
      obtain ⟨x0, x1⟩ := hI.plw x (by rw [hx']; simp)
      refine JOIN_in (CND_t rfl (fits_spec hE H12 x0 x1 (by omega) (by omega) fun b16 w16 hb16 hw16 j => hloop _ r x b16 w16 (by rw [hx']; rfl) (fun h => .inl ⟨x, r, hx', hb16.1 h, rfl⟩) (fun h p r' hp hf => ?_) (H12.nothing hw16)))
      rw [hx'] at hp; cases hp
      rw [hb16.2 hf] at h; cases h
  refine used_bool H (fun hnil => CND_f rfl (hrest (fun r h => by rw [hnil] at h; cases h) g.sr w ?_)) fun x r hx w7 H7 => ?_
  · rw [hnil]
    have : { V with rf := [] } = V := by rw [<- hnil]
    show Sat (vres E b { V with rf := [] } { g with sr := g.sr } ++ Rs) w
    rw [this]; exact H
  · refine CND_intro (fun e => hk1 hbad r (by rw [hx, e]) w7 (Sat.vmem.2 ⟨{ g with sr := ⟨slB g.sr.base g.sr.cap 1 1, g.sr.len - 1, g.sr.cap - 1⟩ }, ⟨hI.wd, hI.pg, hI.fi, hI.rl, hI.el, hI.re, hI.lim, hI.plw⟩, H7⟩)) fun e => hrest (fun r' h => ?_) ⟨slB g.sr.base g.sr.cap 1 1, g.sr.len - 1, g.sr.cap - 1⟩ w7 ?_
    · rw [hx, e] at h; cases h
    · rw [hx]; exact H7
end
end Go.Sh

set_option linter.all false
set_option maxRecDepth 4000
set_option maxHeartbeats 1000000
namespace Go.Sh
theorem mem_within1 {p : Int × Int} {a b n : Int} : mem (within1 p a b) n ↔ (p.1 <= n /\ n < p.2) /\ a <= n /\ n < b := by
  unfold within1
  split
  · constructor
    · intro h; exact absurd h (mem_nil n)
    · intro h; omega
  · rw [mem_cons]
    constructor
    · rintro (h | h)
      · simp only at h; omega
      · exact absurd h (mem_nil n)
    · intro h; left; simp only; omega
theorem mem_withinL {l : Iv} {a b n : Int} : mem (withinL l a b) n ↔ mem l n /\ a <= n /\ n < b := by
  induction l with
  | nil => exact ⟨fun h => absurd h (mem_nil n), fun h => absurd h.1 (mem_nil n)⟩
  | cons p r ih =>
    rw [withinL, mem_append, mem_within1, ih, mem_cons]
    constructor
    · rintro (h | h)
      · exact ⟨.inl h.1, h.2⟩
      · exact ⟨.inr h.1, h.2⟩
    · rintro ⟨h | h, h2⟩
      · exact .inl ⟨h, h2⟩
      · exact .inr ⟨h, h2⟩
theorem Ok_withinL {l : Iv} (h : Ok l) {a b : Int} (hab : a < b) : Ok (withinL l a b) := by
  induction l with
  | nil => exact trivial
  | cons p r ih =>
    rw [withinL, Ok_append]
    refine ⟨?_, ih h.tail, ?_⟩
    · unfold within1
      split
      · exact trivial
      · have := h.1; have := h.2.1; have := h.2.2.1
        exact ⟨by simp only; omega, by simp only; omega, by simp only; omega, by simp, trivial⟩
    · intro q hq q' hq'
      obtain ⟨h1, h2, h3⟩ := withinL_in h.tail hab q' hq'
      have hm : mem r q'.1 := (mem_withinL.1 ⟨q', hq', Int.le_refl _, h2⟩).1
      obtain ⟨z, hz, h4, h5⟩ := hm
      have := h.2.2.2.1 z hz
      unfold within1 at hq
      split at hq
      · cases hq
      · rw [List.mem_singleton] at hq; subst hq; simp only; omega
def inL (l : Iv) (n : Int) : Bool := l.any fun q => decide (q.1 <= n /\ n < q.2)
theorem inL_iff {l : Iv} {n : Int} : inL l n = true ↔ mem l n := by
  unfold inL mem
  simp only [List.any_eq_true, decide_eq_true_iff]
section
variable {E : Env} {b : Nat} {V : VS} {Rs : List Pr} {w : World}
theorem right_spec {page pages : Int} (h0 : 0 <= page) (p0 : 0 <= pages) (p1 : pages < 18446744073709551616) {K : Bool -> World -> Prop} (hK : K (decide (pages ≠ 0 /\ page + pages <= 34359738368)) w) : F.vmem_right E page pages K w := by
  unfold F.vmem_right
  refine CND_ne (fun z => CND_dec (fun hle => ?_) fun hgt => ?_) fun z => ?_
  · rw [u64_id (n := 34359738368 - page) (by omega) (by omega)]
    rwa [show decide (pages <= 34359738368 - page) = decide (pages ≠ 0 /\ page + pages <= 34359738368) from decide_eq_decide.2 (by omega)]
  · rwa [show decide (pages ≠ 0 /\ page + pages <= 34359738368) = false from decide_eq_false (by omega)] at hK
  · rwa [show decide (pages ≠ 0 /\ page + pages <= 34359738368) = false from decide_eq_false (by omega)] at hK
theorem sum_sl {t o : Nat} {vs : List Value} {s : SlV} {l : Iv} {rest : List Pr} (H : Sat (Cells b t vs :: SetR E s l :: rest) w) (h1 : vs[o + 1]? = some (.int .u64 (tot l))) {K : Int -> World -> Prop} (hK : K (tot l) w) :
    F.stretch_Set_Sum E (some ⟨b, o, none⟩) K w := by
  unfold F.stretch_Set_Sum
  simp only [NC_some, add_eq]
  exact ⟨_, H.cell0 h1, hK⟩
variable (hE : EnvS E)
theorem countS_spec (H : Sat (VmemP E b V :: Rs) w) {k : Int} {K : Int -> World -> Prop}
    (hK : ∀ w', Ext Nothing w w' -> K (if k = 2 then tot V.ready else if k = 3 then tot V.rel else if k = 1 then tot V.laid - tot V.ready - tot V.rel else 0) w') (hle : tot V.ready + tot V.rel <= tot V.laid) :
    F.vmem_Mem_Count E (some ⟨b, 0, none⟩) k K w := by
  obtain ⟨g, hI, H⟩ := Sat.vmem.1 H
  obtain ⟨ok1, ok2, ok3⟩ := vres_oks H
  unfold F.vmem_Mem_Count T0.vmem_Mem_Count
  simp only [NC_some, add_eq, Nat.zero_add]
  refine CND_eq (fun e => sum_sl (o := 5) (H.front2 1 rfl) rfl ?_) fun e => CND_eq (fun e2 => sum_sl (o := 7) (H.front2 2 rfl) rfl ?_) fun e2 => CND_eq (fun e3 => ?_) fun e3 => ?_
  · have := hK w (Ext.refl _ _); rwa [if_pos e] at this
  · have := hK w (Ext.refl _ _); rwa [if_neg e, if_pos e2] at this
  · have Hd := H.drew
    refine sum_sl (o := 3) Hd rfl (sum_sl (o := 5) (Hd.front2 1 rfl) rfl (sum_sl (o := 7) (Hd.front2 2 rfl) rfl (LET_intro fun t ht => ?_)))
    have n1 := tot_nonneg ok2
    have n2 := tot_nonneg ok3
    have n3 := tot_max ok1
    rw [u64_id (n := tot V.laid - tot V.ready) (by omega) (by omega), u64_id (by omega) (by omega)] at ht
    have := hK w.drew (Ext.drew _ w)
    rw [if_neg e, if_neg e2, if_pos e3] at this
    rw [ht]; exact this
  · have := hK w (Ext.refl _ _); rwa [if_neg e, if_neg e2, if_neg e3] at this
include hE
theorem stateS_spec (H : Sat (VmemP E b V :: Rs) w) {x : Int} (h0 : 0 <= x) {K : Int -> World -> Prop}
    (hK : ∀ w', Ext Nothing w w' -> K (if inL V.laid x then if inL V.ready x then 2 else if inL V.rel x then 3 else 1 else 0) w') : F.vmem_Mem_State E (some ⟨b, 0, none⟩) x K w := by
  obtain ⟨g, hI, H⟩ := Sat.vmem.1 H
  unfold F.vmem_Mem_State T0.vmem_Mem_State
  simp only [NC_some, add_eq, Nat.zero_add]
  refine has_sl hE H (o := 3) rfl rfl h0 fun w1 r1 hr1 hw1 => ?_
  have e1 : r1 = inL V.laid x := Bool.eq_iff_iff.2 (hr1.trans inL_iff.symm)
  refine CND_not (CND_intro (fun h1 => ?_) fun h1 => ?_)
  · refine has_sl hE ((H.nothing hw1).front2 1 rfl) (o := 5) rfl rfl h0 fun w2 r2 hr2 hw2 => ?_
    have e2 : r2 = inL V.ready x := Bool.eq_iff_iff.2 (hr2.trans inL_iff.symm)
    refine CND_intro (fun h2 => ?_) fun h2 => ?_
    · have := hK w2 (hw1.trans' hw2); rwa [<- e1, h1, if_pos rfl, <- e2, h2, if_pos rfl] at this
    · refine has_sl hE (((H.nothing hw1).nothing hw2).front2 2 rfl) (o := 7) rfl rfl h0 fun w3 r3 hr3 hw3 => ?_
      have e3 : r3 = inL V.rel x := Bool.eq_iff_iff.2 (hr3.trans inL_iff.symm)
      have := hK w3 ((hw1.trans' hw2).trans' hw3)
      rw [<- e1, h1, if_pos rfl, <- e2, h2, if_neg (by decide), <- e3] at this
      refine CND_intro (fun h3 => ?_) fun h3 => ?_
      · rwa [h3, if_pos rfl] at this
      · rwa [h3, if_neg (by decide)] at this
  · have := hK w1 hw1; rwa [<- e1, h1, if_neg (by decide)] at this
theorem within_sl {t o : Nat} {vs : List Value} {s : SlV} {l : Iv} {rest : List Pr} (H : Sat (Cells b t vs :: SetR E s l :: rest) w) (h0 : vs[o]? = some (.slice s.base s.len s.cap)) (h1 : vs[o + 1]? = some (.int .u64 (tot l)))
    {x y : Int} (ha : 0 <= x) (hb : y < 18446744073709551616) {K : SlV -> World -> Prop}
    (hK : ∀ s' w', Sat (Row E.t_stretch_One 2 s' (flat (withinL l x y)) :: Cells b t vs :: SetR E s l :: rest) w' -> Ext Nothing w w' -> K s' w') : F.stretch_Set_Within E (some ⟨b, o, none⟩) x y K w := by
  refine within_spec hE (H.setAt h0 h1).row ha hb fun s' w' hown hw' => hK s' w' ?_ hw'
  exact H.new (P := Row E.t_stretch_One 2 s' (flat (withinL l x y))) (D := Blk' s') hw' ⟨fun _ => Iff.rfl, hown.lower (Nat.zero_le _)⟩ fun k hk => by
    obtain ⟨a, ha, rfl⟩ := hk
    exact (hown.lt ha).1
end
section
variable {E : Env} {b : Nat} {V : VS} {Rs : List Pr} {w : World}
theorem forget_fill {pb : Nat} {gm : Int -> Option Value} {rest : List Pr} (H : Sat (MapF pb .u64 gm :: rest) w) {x y : Int} (hx : 0 <= x) (hxy : x <= y) (hy : y < 18446744073709551616) {K : World -> Prop}
    (hK : ∀ w', Sat (MapF pb .u64 (fun i => if x <= i /\ i < y then none else gm i) :: rest) w' -> K w') :
    (∃ es1 : Array MapEntry, mapAt w (some pb) es1 /\
      CND (decide (((u64 (((es1.size : Nat) : Int))) : Int) < (u64 (y - x)))) (
        ∃ cl2, rngAt w (some pb) cl2 /\
        AL (rngObj (some pb) cl2) w fun b3 w4 =>
        LOOP (Unit) (()) w4 fun s5 _ w6 next7 =>
          JOIN (Bool × Unit) (fun J8 =>
            NEXT b3 w6 (fun w11 =>
              J8 (false, ()) w11
            ) fun k13 v14 w12 =>
              J8 (true, ()) w12
          ) fun s9 _ w10 =>
            JOIN (Bool × Unit) (fun J15 =>
              CND (s9.1) (
                J15 (s9.1, ()) w10
              ) (
                K  w10
              )
            ) fun s16 _ w17 =>
              ENT b3 w17 fun k18 v19 S20 =>
              unInt .u64 k18 fun x21 =>
              JOIN (Bool × Unit) (fun J22 =>
                CND (decide ((x21 : Int) ≥ x)) (
                  J22 (decide ((x21 : Int) < y), ()) w17
                ) (
                  J22 (false, ()) w17
                )
              ) fun s23 _ w24 =>
                CND (s23.1) (
                  MDEL .u64 x21 (some pb) w24 fun w25 =>
                  next7 (()) w25
                ) (
                  next7 (()) w24
                )
      ) (
        LOOP (Int × Unit) (x, ()) w fun s26 _ w27 next28 =>
          CND (decide ((s26.1 : Int) < y)) (
            MDEL .u64 s26.1 (some pb) w27 fun w29 =>
            next28 (u64 (s26.1 + 1), ()) w29
          ) (
            K  w27
          )
      )) := by
  obtain ⟨es, c, m, h1, h2, h3⟩ := H.mapOpen
  refine ⟨es, ⟨c, h1⟩, CND_intro (fun _ => ?_) fun _ => ?_⟩
  · refine ⟨c, ⟨es, h1⟩, AL_intro fun w4 hb4 hsz4 he4 => ?_⟩
    have hpb := block_lt h1
    have H4 := H.nothing he4
    have hne : w.heap.size ≠ pb := by omega
    refine range_del (K := K) (m0 := m) (m1 := m) (es0 := es) (seen0 := #[]) (mb := pb) (since := c) (a := x) (b := y) (getm := fun K' w => K' (some pb) w) (fun w' K' he hk => hk)
      ⟨⟨c, hb4, .inl rfl⟩, he4.obj h1 fun f => f, h2, fun _ _ => rfl, fun _ _ h => h, fun e _ h => by simp at h⟩ hne (by omega) (by omega) fun w' es' m' he' _ hmap' hok' hget' => ?_
    refine hK w' (H.mapStep (he4.trans he' (fun _ _ f => f.elim) fun i hi hs => ?_) hmap' hok' fun i => ?_)
    · rcases hs with e | e
      · omega
      · exact e
    · rw [hget', h3]
  · refine LOOP_intro (fun st w' => x <= st.1 /\ st.1 <= y /\ Sat (MapF pb .u64 (fun i => if x <= i /\ i < st.1 then none else gm i) :: rest) w') (fun st _ => (y - st.1).toNat) ⟨Int.le_refl _, hxy, ?_⟩ ?_
    · have : (fun i => if x <= i /\ i < x then none else gm i) = gm := by funext i; rw [if_neg (by omega)]
      simp only [this]; exact H
    rintro ⟨i, v⟩ _ w27 ⟨hi0, hi1, H27⟩
    simp only at hi0 hi1 H27 ⊢
    refine CND_dec (fun hlt => MDEL_sl H27 fun w29 H29 => ?_) fun hge => hK w27 ?_
    · rw [u64_id (n := i + 1) (by omega) (by omega)]
      refine ⟨⟨by show x <= i + 1; omega, by show i + 1 <= y; omega, ?_⟩, by show (y - (i + 1)).toNat < (y - i).toNat; omega⟩
      have : (fun j => if x <= j /\ j < i + 1 then none else gm j) = fun j => if j = i then none else if x <= j /\ j < i then none else gm j := by
        funext j
        by_cases e : j = i
        · rw [if_pos (by omega), if_pos e]
        · rw [if_neg e]
          by_cases e2 : x <= j /\ j < i
          · rw [if_pos (by omega), if_pos e2]
          · rw [if_neg (by omega), if_neg e2]
      simp only [this]; exact H29
    · have : i = y := by omega
      subst this; exact H27
end
end Go.Sh

set_option linter.all false
set_option maxRecDepth 4000
set_option maxHeartbeats 1000000
namespace Go.Sh
def fillAt (V : VS) (page p : Int) : Int := V.fl.getD (cnt V.rel page p).toNat 0
def commitV (V : VS) (page pages : Int) : VS :=
  { V with rf := V.rf.tail, ready := addL V.ready page (page + pages), rel := cutL V.rel page (page + pages), fl := V.fl.drop (cnt V.rel page (page + pages)).toNat, wd := fun p i => if page <= p /\ p < page + pages /\ inL V.rel p = true then fillAt V page p else V.wd p i }
def releaseV (V : VS) (page pages : Int) : VS :=
  { V with ready := cutL V.ready page (page + pages), rel := addL V.rel page (page + pages), wd := fun p i => if page <= p /\ p < page + pages then 0 else V.wd p i }
def rightV (page pages : Int) : Prop := pages ≠ 0 /\ page + pages <= 34359738368
theorem cnt_same {l : Iv} (h : Ok l) {a x y : Int} (h1 : a <= x) (h2 : x <= y) (hno : ∀ n, x <= n -> n < y -> ¬ mem l n) : cnt l a y = cnt l a x := by
  rw [cnt_add (Ok.lts h) h1 h2, (cnt_none h h2).2 hno]; omega
theorem Sat.addMid {P : Pr} {w : World} (Qs : List Pr) {T : List Pr} (H : Sat (P :: (Qs ++ T)) w) : Sat (Qs ++ P :: T) w := H.perm List.perm_middle.symm
theorem Sat.dropMid {P : Pr} {w : World} (Qs : List Pr) {T : List Pr} (H : Sat (Qs ++ P :: T) w) : Sat (Qs ++ T) w := (H.perm List.perm_middle).tail
def fxF (V : VS) (g : VG) (page x p : Int) : Option Int :=
  if page <= p /\ p < x /\ inL V.rel p = true then (if fillAt V page p = 0 then none else some (fillAt V page p)) else g.f p
theorem fxF_same {V : VS} {g : VG} {page x y : Int} (hxy : x <= y) (h : ∀ p, x <= p -> p < y -> mem V.rel p -> page <= p -> fillAt V page p = 0 /\ g.f p = none) : fxF V g page y = fxF V g page x := by
  funext p
  unfold fxF
  by_cases e : page <= p /\ p < x /\ inL V.rel p = true
  · rw [if_pos e, if_pos ⟨e.1, by omega, e.2.2⟩]
  · rw [if_neg e]
    by_cases e2 : page <= p /\ p < y /\ inL V.rel p = true
    · rw [if_pos e2]
      have hx : x <= p := by
        by_cases e3 : x <= p
        · exact e3
        · exact absurd ⟨e2.1, by omega, e2.2.2⟩ e
      obtain ⟨h1, h2⟩ := h p hx e2.2.1 (inL_iff.1 e2.2.2) e2.1
      rw [if_pos h1, h2]
    · rw [if_neg e2]
theorem fxF_next {V : VS} {g : VG} {page p : Int} (hp : page <= p) (hm : mem V.rel p) (q : Int) :
    fxF V g page (p + 1) q = if q = p then (if fillAt V page p = 0 then none else some (fillAt V page p)) else fxF V g page p q := by
  unfold fxF
  by_cases e : q = p
  · subst e
    rw [if_pos ⟨hp, by omega, inL_iff.2 hm⟩, if_pos rfl]
  · rw [if_neg e]
    by_cases e2 : page <= q /\ q < p /\ inL V.rel q = true
    · rw [if_pos e2, if_pos ⟨e2.1, by omega, e2.2.2⟩]
    · rw [if_neg e2, if_neg (fun h => e2 ⟨h.1, by omega, h.2.2⟩)]
section
variable {E : Env} {b : Nat} {V : VS} {Rs : List Pr} {w : World} (hE : EnvS E)
include hE
theorem commit_spec (H : Sat (VmemP E b V :: Rs) w) {page pages : Int} (h0 : 0 <= page) (h1 : page < 18446744073709551616) (p0 : 0 <= pages) (p1 : pages < 18446744073709551616) {K : Int -> World -> Prop}
    (hk0 : ¬ rightV page pages -> K 1 w)
    (hk1 : rightV page pages -> cnt V.laid page (page + pages) ≠ pages -> ∀ w', Ext Nothing w w' -> K 33 w')
    (hk2 : rightV page pages -> cnt V.laid page (page + pages) = pages -> cnt V.ready page (page + pages) = pages -> ∀ w', Ext Nothing w w' -> K 0 w')
    (hk3 : rightV page pages -> cnt V.laid page (page + pages) = pages -> cnt V.ready page (page + pages) ≠ pages -> ∀ r, V.rf = true :: r -> ∀ w', Sat (VmemP E b { V with rf := r } :: Rs) w' -> K 13 w')
    (hk4 : rightV page pages -> cnt V.laid page (page + pages) = pages -> cnt V.ready page (page + pages) ≠ pages -> (∀ r, V.rf ≠ true :: r) -> ∀ w', Sat (VmemP E b (commitV V page pages) :: Rs) w' -> K 0 w') :
    F.vmem_Mem_Commit E (some ⟨b, 0, none⟩) page pages K w := by
  obtain ⟨g, hI, H⟩ := Sat.vmem.1 H
  obtain ⟨ok1, ok2, ok3⟩ := vres_oks H
  unfold F.vmem_Mem_Commit T0.vmem_Mem_Commit
  refine right_spec h0 p0 p1 (CND_not (CND_dec (fun hr => ?_) fun hr => hk0 hr))
  have hr1 := hr.1
  have hr2 := hr.2
  simp only [NC_some, add_eq, Nat.zero_add]
  rw [u64_id (n := page + pages) (by omega) (by omega)]
  refine count_sl hE H (o := 3) rfl rfl h0 (by omega) (by omega) fun w5 hw5 => ?_
  refine CND_ne (fun hl => hk1 hr hl w5 hw5) fun hl => ?_
  refine count_sl hE ((H.nothing hw5).front2 1 rfl) (o := 5) rfl rfl h0 (by omega) (by omega) fun w8 hw8 => ?_
  have hw58 := hw5.trans' hw8
  refine CND_eq (fun hd => hk2 hr hl hd w8 hw58) fun hd => ?_
  have H8 := H.nothing hw58
  have hlaid : ∀ p, page <= p -> p < page + pages -> mem V.laid p := (cnt_full ok1 (a := page) (b := page + pages) (by omega)).1 (by omega)
  have hrest : (∀ r, V.rf ≠ true :: r) -> ∀ (sr : SlV) (w12 : World), Sat (vres E b { V with rf := V.rf.tail } { g with sr := sr } ++ Rs) w12 ->
      JOIN (Unit) (fun J13 =>
        F.stretch_Set_Within E (some ⟨b, 7, none⟩) page (page + pages) (fun r17 w18 =>
        LOOP (Int × Unit) (0, ()) w18 fun s19 _ w20 next21 =>
          CND (decide ((s19.1 : Int) < ((r17.len : Nat) : Int))) (
            NC r17.base fun p22 =>
            ((0 : Int) <= s19.1 /\ (s19.1 : Int) < (r17.len : Nat)) /\
            ∃ c23 : Int, w20.cell? ((p22.add (Int.toNat s19.1 * 2)).add 0) = some (.int .u64 c23) /\
            ∃ c24 : Int, w20.cell? ((p22.add (Int.toNat s19.1 * 2)).add 1) = some (.int .u64 c24) /\
            AL (.cells #[.int .u64 0, .int .u64 0] E.t_stretch_One) w20 fun b25 w26 =>
            stCells (Addr.mk b25 0 none) 0 [.int .u64 c23, .int .u64 c24] w26 fun w27 =>
            ∃ x28 : Int, w27.cell? (Addr.mk b25 0 none) = some (.int .u64 x28) /\
            LOOP (Int × Unit) (x28, ()) w27 fun s29 _ w30 next31 =>
              ∃ x32 : Int, w30.cell? (Addr.mk b25 1 none) = some (.int .u64 x32) /\
              CND (decide ((s29.1 : Int) < x32)) (
                ∃ x34 : SlV, w30.cell? (Addr.mk b 2 none) = some (.slice x34.base x34.len x34.cap) /\
                CND ((((x34.len : Nat) : Int) : Int) == 0) (
                  J13 (()) w30
                ) (
                  F.vmem_used_uint64_ E (some (Addr.mk b 2 none)) (fun r36 r37 w38 =>
                  CND ((r36 : Int) != 0) (
                    ∃ x40 : (Option Nat), w38.cell? (Addr.mk b 9 none) = some (.map x40) /\
                    MUPD .u64 s29.1 (.int .u64 r36) x40 w38 fun w41 =>
                    next31 (u64 (s29.1 + 1), ()) w41
                  ) (
                    next31 (u64 (s29.1 + 1), ()) w38
                  )
                  ) w30
                )
              ) (
                next21 (i64 (s19.1 + 1), ()) w30
              )
          ) (
            J13 (()) w20
          )
        ) w12
      ) fun s14 _ w15 =>
        F.stretch_Set_Cut E (some (Addr.mk b 7 none)) page (page + pages) (fun  w43 =>
        F.stretch_Set_Add E (some (Addr.mk b 5 none)) page (page + pages) (fun  w45 =>
        K 0 w45
        ) w43
        ) w15 := by
    intro hrf sr w12 H12
    have hfree : ∀ p, mem V.rel p -> g.f p = none := fun p hp => by
      cases hf : g.f p with
      | none => rfl
      | some v => exact absurd hp (hI.re p (hI.fi p (by rw [hf]; exact fun h => by cases h)))
    refine JOIN_intro (fun _ w' => ∃ sf, Sat (vres E b { V with rf := V.rf.tail, fl := V.fl.drop (cnt V.rel page (page + pages)).toNat } { g with sr := sr, sf := sf, f := fxF V g page (page + pages) } ++ Rs) w') ?_ ?_
    · refine within_sl hE (H12.front2 2 rfl) (o := 7) rfl rfl h0 (by omega) fun s' w18 H18 _ => ?_
      have H18' : Sat (vres E b { V with rf := V.rf.tail } { g with sr := sr } ++ Row E.t_stretch_One 2 s' (flat (withinL V.rel page (page + pages))) :: Rs) w18 :=
        Sat.addMid (vres E b { V with rf := V.rf.tail } { g with sr := sr }) (H18.perm (.cons _ (.cons _ (perm_front (i := 2) rfl).symm)))
      clear H18
      have hokW := Ok_withinL ok3 (a := page) (b := page + pages) (by omega)
      generalize hm : withinL V.rel page (page + pages) = m at H18' hokW
      have hmem : ∀ n, mem m n ↔ mem V.rel n /\ page <= n /\ n < page + pages := fun n => by rw [<- hm]; exact mem_withinL
      have hin : ∀ q ∈ m, page <= q.1 /\ q.1 < q.2 /\ q.2 <= page + pages := by rw [<- hm]; exact withinL_in ok3 (by omega)
      have hc0 := cnt_nonneg V.rel page
      have hgt : ∀ c, V.fl.length <= c -> V.fl.getD c 0 = 0 := fun c hc => by rw [List.getD_eq_getElem?_getD, List.getElem?_eq_none hc]; rfl
      have hfin : ∀ x, page <= x -> x <= page + pages -> (cnt V.rel page x).toNat <= V.fl.length -> ((∀ n, x <= n -> n < page + pages -> ¬ mem V.rel n) ∨ V.fl.drop (cnt V.rel page x).toNat = []) -> ∀ sf (T : List Pr) w', 
          Sat (vres E b { V with rf := V.rf.tail, fl := V.fl.drop (cnt V.rel page x).toNat } { g with sr := sr, sf := sf, f := fxF V g page x } ++ T) w' ->
          Sat (vres E b { V with rf := V.rf.tail, fl := V.fl.drop (cnt V.rel page (page + pages)).toNat } { g with sr := sr, sf := sf, f := fxF V g page (page + pages) } ++ T) w' := by
        intro x hx0 hx1 hcl hor sf T w' hS
        rcases hor with hno | hnil
        · have e1 := cnt_same ok3 hx0 hx1 hno
          have e2 : fxF V g page (page + pages) = fxF V g page x := fxF_same hx1 fun p h1 h2 h3 _ => absurd h3 (hno p h1 h2)
          rw [e1, e2]; exact hS
        · have hlen : V.fl.length <= (cnt V.rel page x).toNat := List.drop_eq_nil_iff.1 hnil
          have hle : ∀ p, x <= p -> cnt V.rel page x <= cnt V.rel page p := fun p hp => by
            rw [cnt_add (Ok.lts ok3) hx0 hp]
            have := cnt_nonneg V.rel x p
            omega
          have e1 : V.fl.drop (cnt V.rel page (page + pages)).toNat = V.fl.drop (cnt V.rel page x).toNat := by
            rw [hnil, List.drop_eq_nil_iff]
            have := hle _ hx1
            omega
          have e2 : fxF V g page (page + pages) = fxF V g page x := fxF_same hx1 fun p h1 h2 h3 _ => ⟨by
            unfold fillAt
            exact hgt _ (by have := hle p h1; omega), hfree p h3⟩
          rw [e1, e2]; exact hS
      have hrow : ∀ {T : List Pr} {sf fl f w'}, Sat (vres E b { V with rf := V.rf.tail, fl := fl } { g with sr := sr, sf := sf, f := f } ++ Row E.t_stretch_One 2 s' (flat m) :: T) w' -> Own w' 0 E.t_stretch_One 2 s' (flat m) := fun h => (h.front 10 rfl).own
      have hslen : s'.len = m.length := by
        have := (hrow (T := Rs) (sf := g.sf) (fl := V.fl) (f := g.f) H18').len
        rw [flat_length] at this; omega
      have hmlen : m.length <= 34359738368 := by
        have : ∀ (l : Iv) (B : Int), Ok l -> (∀ q ∈ l, B <= q.1 /\ q.2 <= 34359738368) -> B <= 34359738368 -> (l.length : Int) <= 34359738368 - B := by
          intro l
          induction l with
          | nil => intro B _ _ h; simp; omega
          | cons q r ih =>
            intro B ho hb _
            have h1 := hb q List.mem_cons_self
            have h2 := ho.2.1
            have := ih q.2 ho.tail (fun q' hq' => ⟨by have := ho.2.2.2.1 q' hq'; omega, (hb q' (List.mem_cons_of_mem _ hq')).2⟩) h1.2
            simp only [List.length_cons]; omega
        have := this m 0 hokW (fun q hq => ⟨by have := hin q hq; omega, by have := hin q hq; omega⟩) (by decide)
        omega
      refine LOOP_intro (fun st w' => ∃ (k : Nat) (x : Int) (sf : SlV), st.1 = (k : Int) /\ k <= m.length /\ page <= x /\ x <= page + pages /\ (cnt V.rel page x).toNat <= V.fl.length /\ (∀ q ∈ m.take k, q.2 <= x) /\ (∀ q ∈ m.drop k, x <= q.1) /\
          Sat (vres E b { V with rf := V.rf.tail, fl := V.fl.drop (cnt V.rel page x).toNat } { g with sr := sr, sf := sf, f := fxF V g page x } ++ Row E.t_stretch_One 2 s' (flat m) :: Rs) w') (fun st _ => (m.length - st.1).toNat)
        ⟨0, page, g.sf, rfl, Nat.zero_le _, Int.le_refl _, by omega, ?_, by simp, fun q hq => (hin q (by simpa using hq)).1, ?_⟩ ?_
      · have : cnt V.rel page page = 0 := (cnt_none ok3 (Int.le_refl _)).2 fun n h1 h2 => by omega
        rw [this]; exact Nat.zero_le _
      · have e1 : cnt V.rel page page = 0 := (cnt_none ok3 (Int.le_refl _)).2 fun n h1 h2 => by omega
        have e2 : fxF V g page page = g.f := by funext p; unfold fxF; rw [if_neg (by omega)]
        rw [e1, e2]; exact H18'
      rintro ⟨i, v⟩ _ w20 ⟨k, x, sf, hk, hkl, hx0, hx1, hcl, htk, hdk, H20⟩
      simp only at hk ⊢
      subst hk
      refine CND_dec (fun hlt => ?_) fun hge => ?_
      · have hk2 : k < m.length := by omega
        obtain ⟨q, hq⟩ : ∃ q, m[k]? = some q := ⟨_, List.getElem?_eq_getElem hk2⟩
        have hqm := List.mem_of_getElem? hq
        obtain ⟨g1, g2⟩ := flat_get m k q hq
        obtain ⟨q1, q2, q3⟩ := hin q hqm
        have hown := hrow H20
        obtain ⟨bb, hb⟩ := hown.base_of (by omega)
        have c1 := hown.cell hb g1
        have c2 := hown.cell hb g2
        rw [add_eq, Nat.zero_add] at c1 c2
        rw [hb]
        simp only [NC_some, add_eq, Nat.zero_add, Int.toNat_natCast, Nat.add_zero]
        refine ⟨⟨by omega, by omega⟩, q.1, c1, q.2, c2, ?_⟩
        refine AL_cells H20 fun b25 w26 H26 _ => st_all H26 (by rfl) (by simp [Value.oneCell']) fun w27 H27 => ?_
        refine ⟨q.1, H27.cell0 rfl, ?_⟩
        have H27' := Sat.addMid (vres E b { V with rf := V.rf.tail, fl := V.fl.drop (cnt V.rel page x).toNat } { g with sr := sr, sf := sf, f := fxF V g page x }) H27
        have hxq : x <= q.1 := hdk q (List.mem_of_getElem? (i := 0) (by simpa using hq))
        have hno : ∀ n, x <= n -> n < q.1 -> ¬ mem V.rel n := by
          intro n h1 h2 hn
          obtain ⟨z, hz, h3, h4⟩ := (hmem n).2 ⟨hn, by omega, by omega⟩
          obtain ⟨j, hj⟩ := List.mem_iff_getElem?.1 hz
          rcases Nat.lt_trichotomy j k with e | e | e
          · have := htk z (List.mem_of_getElem? (i := j) (by rw [List.getElem?_take, if_pos e]; exact hj)); omega
          · subst e; rw [hq] at hj; cases hj; omega
          · have := hokW.lt e hq hj; omega
        have ec : cnt V.rel page q.1 = cnt V.rel page x := cnt_same ok3 hx0 hxq hno
        have ef : fxF V g page q.1 = fxF V g page x := fxF_same hxq fun p h1 h2 h3 _ => absurd h3 (hno p h1 h2)
        refine LOOP_intro (fun st w' => q.1 <= st.1 /\ st.1 <= q.2 /\ (cnt V.rel page st.1).toNat <= V.fl.length /\ ∃ sf, 
            Sat (vres E b { V with rf := V.rf.tail, fl := V.fl.drop (cnt V.rel page st.1).toNat } { g with sr := sr, sf := sf, f := fxF V g page st.1 } ++ Cells b25 E.t_stretch_One [.int .u64 q.1, .int .u64 q.2] :: Row E.t_stretch_One 2 s' (flat m) :: Rs) w')
          (fun st _ => (q.2 - st.1).toNat) ⟨Int.le_refl _, by show q.1 <= q.2; omega, by rw [ec]; exact hcl, sf, by rw [ec, ef]; exact H27'⟩ ?_
        rintro ⟨p, v⟩ _ w30 ⟨hp0, hp1, hpl, sf, H30⟩
        simp only at hp0 hp1 hpl H30 ⊢
        refine ⟨q.2, (H30.front 10 rfl).cell0 rfl, CND_dec (fun hlt => ?_) fun hge => ?_⟩
        · have hpm : mem V.rel p := ((hmem p).1 ⟨q, hqm, hp0, hlt⟩).1
          have hcn := (cnt_succ ok3 (a := page) (k := p) (by omega)).1 hpm
          have hcnn := hc0 p
          refine ⟨sf, H30.cell0 rfl, CND_eq (fun hz => ?_) fun hnz => ?_⟩
          · have hnil : V.fl.drop (cnt V.rel page p).toNat = [] := by
              have : (ints .u64 (V.fl.drop (cnt V.rel page p).toNat)).length = sf.len := (H30.front 6 rfl).rowVlen.1
              have h0 : (ints .u64 (V.fl.drop (cnt V.rel page p).toNat)).length = 0 := by omega
              rw [List.drop_eq_nil_iff]
              simp [ints] at h0
              omega
            exact ⟨sf, Sat.dropMid _ (Sat.dropMid _ (hfin p (by omega) (by omega) hpl (.inr hnil) sf _ w30 H30))⟩
          · refine used_u64 (o := 2) (H30.front2 5 rfl) rfl (fun hnil => ?_) fun y r hy w38 H38 => ?_
            · exfalso
              have := (H30.front 6 rfl).rowVlen.1
              have hnil' : V.fl.drop (cnt V.rel page p).toNat = [] := hnil
              rw [hnil'] at this
              simp [ints] at this; omega
            · have hy' : V.fl.drop (cnt V.rel page p).toNat = y :: r := hy
              have hclt : (cnt V.rel page p).toNat < V.fl.length := by
                have := congrArg List.length hy'
                simp at this; omega
              have hr' : r = V.fl.drop (cnt V.rel page (p + 1)).toNat := by
                rw [hcn, show (cnt V.rel page p + 1).toNat = (cnt V.rel page p).toNat + 1 by omega, <- List.drop_drop, hy']; rfl
              have hfa : fillAt V page p = y := by
                unfold fillAt
                rw [List.getD_eq_getElem?_getD, <- Nat.add_zero (cnt V.rel page p).toNat, <- List.getElem?_drop, hy']; rfl
              have H39 : Sat (vres E b { V with rf := V.rf.tail, fl := V.fl.drop (cnt V.rel page (p + 1)).toNat } { g with sr := sr, sf := ⟨slB sf.base sf.cap 1 1, sf.len - 1, sf.cap - 1⟩, f := fxF V g page p } ++ Cells b25 E.t_stretch_One [.int .u64 q.1, .int .u64 q.2] :: Row E.t_stretch_One 2 s' (flat m) :: Rs) w38 := by
                rw [<- hr']
                exact Sat.back2 5 H38 (by simp [vres])
              rw [u64_id (n := p + 1) (by omega) (by omega)]
              refine CND_ne (fun hy0 => ?_) fun hy0 => ?_
              · refine ⟨some g.fb, H39.cell0 rfl, MUPD_sl (H39.front 7 rfl) fun w41 H41 => ?_⟩
                refine ⟨⟨by show q.1 <= p + 1; omega, by show p + 1 <= q.2; omega, by show (cnt V.rel page (p + 1)).toNat <= _; rw [hcn]; omega, ⟨slB sf.base sf.cap 1 1, sf.len - 1, sf.cap - 1⟩, ?_⟩, by show (q.2 - (p + 1)).toNat < (q.2 - p).toNat; omega⟩
                have H42 := Sat.back 7 H41 (by simp [vres])
                have : fillM { g with f := fxF V g page (p + 1) } = fun i => if i = p then some (.int .u64 y) else fillM { g with f := fxF V g page p } i := by
                  funext i
                  show (fxF V g page (p + 1) i).map _ = if i = p then _ else (fxF V g page p i).map _
                  rw [fxF_next (by omega) hpm i, hfa, if_neg hy0]
                  split <;> rfl
                show Sat (vres E b _ { g with sr := sr, sf := _, f := fxF V g page (p + 1) } ++ _) w41
                unfold vres
                have e : fillM { g with sr := sr, sf := ⟨slB sf.base sf.cap 1 1, sf.len - 1, sf.cap - 1⟩, f := fxF V g page (p + 1) } = fillM { g with f := fxF V g page (p + 1) } := rfl
                rw [e, this]
                exact H42
              · refine ⟨⟨by show q.1 <= p + 1; omega, by show p + 1 <= q.2; omega, by show (cnt V.rel page (p + 1)).toNat <= _; rw [hcn]; omega, ⟨slB sf.base sf.cap 1 1, sf.len - 1, sf.cap - 1⟩, ?_⟩, by show (q.2 - (p + 1)).toNat < (q.2 - p).toNat; omega⟩
                have : fxF V g page (p + 1) = fxF V g page p := fxF_same (by omega) fun p' h1 h2 h3 _ => by
                  have : p' = p := by omega
                  subst this
                  exact ⟨by rw [hfa, hy0], hfree _ h3⟩
                show Sat (vres E b _ { g with sr := sr, sf := _, f := fxF V g page (p + 1) } ++ _) w38
                rw [this]; exact H39
        · have hpe : p = q.2 := by omega
          subst hpe
          have ei : i64 ((k : Int) + 1) = ((k + 1 : Nat) : Int) := by rw [i64_id (by omega) (by omega)]; omega
          refine ⟨⟨k + 1, q.2, sf, ei, by omega, by omega, by omega, hpl, fun z hz => ?_, fun z hz => ?_, Sat.dropMid _ H30⟩, by simp only [ei]; omega⟩
          · rw [List.take_succ_eq_append_getElem hk2, List.mem_append, List.mem_singleton] at hz
            rcases hz with hz | rfl
            · have := htk z hz; omega
            · have : m[k] = q := by rw [List.getElem?_eq_getElem hk2] at hq; exact Option.some.inj hq
              rw [this]; exact Int.le_refl _
          · obtain ⟨j, hj⟩ := List.mem_iff_getElem?.1 hz
            rw [List.getElem?_drop] at hj
            have := hokW.lt (i := k) (j := k + 1 + j) (by omega) hq hj
            omega
      · have hke : k = m.length := by omega
        refine ⟨sf, Sat.dropMid _ (hfin x hx0 hx1 hcl (.inl fun n h1 h2 hn => ?_) sf _ w20 H20)⟩
        obtain ⟨z, hz, h3, h4⟩ := (hmem n).2 ⟨hn, by omega, h2⟩
        have := htk z (by rw [hke, List.take_length]; exact hz)
        omega
    · rintro _ _ w15 ⟨sf, H15⟩
      have hbig : big = 4398046511104 := rfl
      refine cut_sl hE (H15.front2 2 rfl) (o := 7) rfl rfl h0 (by omega) (by omega) fun w43 s3' H43 => ?_
      have H44 := Sat.back2 2 H43 (by simp [vres])
      refine add_sl hE (H44.front2 1 rfl) (o := 5) rfl rfl h0 (by omega) (by omega) fun w45 s2' H45 => ?_
      have H46 := Sat.back2 1 H45 (by simp [vres])
      refine hk4 hr hl hd hrf w45 (Sat.vmem.2 ⟨{ g with sr := sr, sf := sf, s2 := s2', s3 := s3', f := fxF V g page (page + pages) }, ?_, H46⟩)
      have ma : ∀ p, mem (addL V.ready page (page + pages)) p ↔ mem V.ready p ∨ (page <= p /\ p < page + pages) := fun p => mem_addL ok2 (by omega) h0 (by omega) p
      have mc : ∀ p, mem (cutL V.rel page (page + pages)) p ↔ mem V.rel p /\ ¬ (page <= p /\ p < page + pages) := fun p => mem_cutL (by omega)
      refine ⟨fun p i hi0 hi1 => ?_, fun p hp => (ma p).2 (.inl (hI.pg p hp)), fun p hp => ?_, fun p hp => ?_, fun p hp => hI.el p ((mc p).1 hp).1, fun p hp hq => ?_, hI.lim, hI.plw⟩
      · show (if page <= p /\ p < page + pages /\ inL V.rel p = true then fillAt V page p else V.wd p i) = match g.G p with | some x => x.2 i | none => (fxF V g page (page + pages) p).getD 0
        by_cases e : page <= p /\ p < page + pages /\ inL V.rel p = true
        · rw [if_pos e]
          have hrel := inL_iff.1 e.2.2
          have : g.G p = none := by
            cases hG : g.G p with
            | none => rfl
            | some x => exact absurd hrel (hI.re p (hI.pg p (by rw [hG]; exact fun h => by cases h)))
          rw [this]
          unfold fxF
          rw [if_pos e]
          by_cases e2 : fillAt V page p = 0
          · rw [if_pos e2, e2]; rfl
          · rw [if_neg e2]; rfl
        · rw [if_neg e, hI.wd p i hi0 hi1]
          unfold wordOf fxF
          rw [if_neg e]
          try rfl
      · have hp' : fxF V g page (page + pages) p ≠ none := hp
        unfold fxF at hp'
        by_cases e : page <= p /\ p < page + pages /\ inL V.rel p = true
        · exact (ma p).2 (.inr ⟨e.1, e.2.1⟩)
        · rw [if_neg e] at hp'; exact (ma p).2 (.inl (hI.fi p hp'))
      · rcases (ma p).1 hp with h | h
        · exact hI.rl p h
        · exact hlaid p h.1 h.2
      · rcases (ma p).1 hp with h | h
        · exact hI.re p h ((mc p).1 hq).1
        · exact ((mc p).1 hq).2 h
  refine used_bool H8 (fun hnil => CND_f rfl (hrest (fun r h => by rw [hnil] at h; cases h) g.sr w8 ?_)) fun x r hx w7 H7 => ?_
  · have : { V with rf := V.rf.tail } = V := by
      have : V.rf.tail = V.rf := by rw [hnil]; rfl
      rw [this]
    show Sat (vres E b { V with rf := V.rf.tail } { g with sr := g.sr } ++ Rs) w8
    rw [this]; exact H8
  · refine CND_intro (fun e => hk3 hr hl hd r (by rw [hx, e]) w7 (Sat.vmem.2 ⟨{ g with sr := ⟨slB g.sr.base g.sr.cap 1 1, g.sr.len - 1, g.sr.cap - 1⟩ }, ⟨hI.wd, hI.pg, hI.fi, hI.rl, hI.el, hI.re, hI.lim, hI.plw⟩, H7⟩)) fun e => hrest (fun r' h => ?_) ⟨slB g.sr.base g.sr.cap 1 1, g.sr.len - 1, g.sr.cap - 1⟩ w7 ?_
    · rw [hx, e] at h; cases h
    · rw [hx]; exact H7
end
end Go.Sh

set_option linter.all false
set_option maxRecDepth 40000
set_option maxHeartbeats 1000000
namespace Go.Sh
section
variable {n : Nat} {G : Pgs} {Rs : List Pr} {p : Int}
end
section
variable {E : Env} {b : Nat} {V : VS} {Rs : List Pr} {w : World}
variable (hE : EnvS E)
include hE
end
end Go.Sh

set_option linter.all false
set_option maxRecDepth 40000
set_option maxHeartbeats 1000000
namespace Go.Sh
def newV (pl : List Int) (rf : List Bool) (fl : List Int) : VS := ⟨[], [], [], fun _ _ => 0, pl, rf, fl⟩
section
variable {E : Env} {b : Nat} {V : VS} {Rs : List Pr} {w : World}
theorem forget_both {g : VG} (H : Sat (vres E b V g ++ Rs) w) {x y : Int} (hx : 0 <= x) (hxy : x <= y) (hy : y < 18446744073709551616) {K : World -> Prop}
    (hK : ∀ w', Sat (vres E b V { g with f := fun p => if x <= p /\ p < y then none else g.f p, G := fun p => if x <= p /\ p < y then none else g.G p } ++ Rs) w' -> K w') :
    ∃ x11 : (Option Nat), w.cell? (Addr.mk b 9 none) = some (.map x11) /\
      F.vmem_forget_uint64_ E x11 x y (fun  w12 =>
      ∃ x14 : (Option Nat), w12.cell? (Addr.mk b 10 none) = some (.map x14) /\
      F.vmem_forget___1024_uint64_ E x14 x y (fun  w15 => K w15) w12) w := by
  refine ⟨some g.fb, H.cell0 rfl, ?_⟩
  unfold F.vmem_forget_uint64_
  refine forget_fill (H.front 7 rfl) hx hxy hy fun w12 H12 => ?_
  have H13 := Sat.back 7 H12 (by simp [vres])
  refine ⟨some g.pb, H13.cell0 rfl, ?_⟩
  unfold F.vmem_forget___1024_uint64_
  refine forget_fill (H13.front 8 rfl) hx hxy hy fun w15 H15 => hK w15 ?_
  have H16 := Sat.back 8 H15 (by simp [vres])
  have H17 := Sat.back 9 ((H16.front 9 rfl).pgDrop (G' := fun p => if x <= p /\ p < y then none else g.G p) fun p z hz => by
    by_cases e : x <= p /\ p < y
    · rw [if_pos e] at hz; cases hz
    · rw [if_neg e] at hz; exact hz) (by simp [vres])
  have e1 : pageM { g with f := fun p => if x <= p /\ p < y then none else g.f p, G := fun p => if x <= p /\ p < y then none else g.G p } = fun i => if x <= i /\ i < y then none else pageM g i := by
    funext q; unfold pageM; by_cases e : x <= q /\ q < y <;> simp [e]
  have e2 : fillM { g with f := fun p => if x <= p /\ p < y then none else g.f p, G := fun p => if x <= p /\ p < y then none else g.G p } = fun i => if x <= i /\ i < y then none else fillM g i := by
    funext q; unfold fillM; by_cases e : x <= q /\ q < y <;> simp [e]
  unfold vres
  rw [e1, e2]
  exact H17
theorem forget_inv {g : VG} (hI : VInv V g) {x y : Int} {V' : VS} (hV : V'.laid = V.laid /\ V'.pl = V.pl) (hwd : ∀ p i, 0 <= i -> i < 1024 -> V'.wd p i = if x <= p /\ p < y then 0 else V.wd p i)
    (hrd : ∀ p, ¬ (x <= p /\ p < y) -> mem V.ready p -> mem V'.ready p) (h1 : ∀ p, mem V'.ready p -> mem V.laid p) (h2 : ∀ p, mem V'.rel p -> mem V.laid p) (h3 : ∀ p, mem V'.ready p -> ¬ mem V'.rel p) :
    VInv V' { g with f := fun p => if x <= p /\ p < y then none else g.f p, G := fun p => if x <= p /\ p < y then none else g.G p } := by
  refine ⟨fun p i h0 hi => ?_, fun p hp => ?_, fun p hp => ?_, fun p hp => by rw [hV.1]; exact h1 p hp, fun p hp => by rw [hV.1]; exact h2 p hp, h3, by rw [hV.1]; exact hI.lim, by rw [hV.2]; exact hI.plw⟩
  · rw [hwd p i h0 hi]
    unfold wordOf
    by_cases e : x <= p /\ p < y
    · simp only [if_pos e]; try rfl
    · simp only [if_neg e]; rw [hI.wd p i h0 hi]; try rfl
  · by_cases e : x <= p /\ p < y
    · simp [e] at hp
    · exact hrd p e (hI.pg p (by simpa [e] using hp))
  · by_cases e : x <= p /\ p < y
    · simp [e] at hp
    · exact hrd p e (hI.fi p (by simpa [e] using hp))
variable (hE : EnvS E)
include hE
theorem release_spec (H : Sat (VmemP E b V :: Rs) w) {page pages : Int} (h0 : 0 <= page) (h1 : page < 18446744073709551616) (p0 : 0 <= pages) (p1 : pages < 18446744073709551616) {K : Int -> World -> Prop}
    (hk0 : ¬ rightV page pages -> K 1 w)
    (hk1 : rightV page pages -> cnt V.ready page (page + pages) ≠ pages -> ∀ w', Ext Nothing w w' -> K 33 w')
    (hk2 : rightV page pages -> cnt V.ready page (page + pages) = pages -> ∀ w', Sat (VmemP E b (releaseV V page pages) :: Rs) w' -> K 0 w') :
    F.vmem_Mem_Release E (some ⟨b, 0, none⟩) page pages K w := by
  obtain ⟨g, hI, H⟩ := Sat.vmem.1 H
  obtain ⟨ok1, ok2, ok3⟩ := vres_oks H
  unfold F.vmem_Mem_Release T0.vmem_Mem_Release
  refine right_spec h0 p0 p1 (CND_not (CND_dec (fun hr => ?_) fun hr => hk0 hr))
  have hr1 := hr.1
  have hr2 := hr.2
  have hbig : big = 4398046511104 := rfl
  simp only [NC_some, add_eq, Nat.zero_add]
  rw [u64_id (n := page + pages) (by omega) (by omega)]
  refine count_sl hE (H.front2 1 rfl) (o := 5) rfl rfl h0 (by omega) (by omega) fun w5 hw5 => ?_
  refine CND_ne (fun hl => hk1 hr hl w5 hw5) fun hl => ?_
  have hall : ∀ p, page <= p -> p < page + pages -> mem V.ready p := (cnt_full ok2 (a := page) (b := page + pages) (by omega)).1 (by omega)
  refine cut_sl hE ((H.nothing hw5).front2 1 rfl) (o := 5) rfl rfl h0 (by omega) (by omega) fun w7 s2' H7 => ?_
  have H8 := Sat.back2 1 H7 (by simp [vres])
  refine add_sl hE (H8.front2 2 rfl) (o := 7) rfl rfl h0 (by omega) (by omega) fun w9 s3' H9 => ?_
  have H10 : Sat (vres E b (releaseV V page pages) { g with s2 := s2', s3 := s3' } ++ Rs) w9 := Sat.back2 2 H9 (by simp [vres])
  refine forget_both H10 h0 (by omega) (by omega) fun w15 H15 => hk2 hr hl w15 (Sat.vmem.2 ⟨_, ?_, H15⟩)
  have mc : ∀ p, mem (cutL V.ready page (page + pages)) p ↔ mem V.ready p /\ ¬ (page <= p /\ p < page + pages) := fun p => mem_cutL (by omega)
  have ma : ∀ p, mem (addL V.rel page (page + pages)) p ↔ mem V.rel p ∨ (page <= p /\ p < page + pages) := fun p => mem_addL ok3 (by omega) h0 (by omega) p
  refine forget_inv (g := { g with s2 := s2', s3 := s3' }) (V := V) ⟨hI.wd, hI.pg, hI.fi, hI.rl, hI.el, hI.re, hI.lim, hI.plw⟩ ⟨rfl, rfl⟩ (fun p i _ _ => rfl) (fun p h hp => (mc p).2 ⟨hp, h⟩) (fun p hp => hI.rl p ((mc p).1 hp).1) (fun p hp => ?_) fun p hp hq => ?_
  · rcases (ma p).1 hp with h | h
    · exact hI.el p h
    · exact hI.rl p (hall p h.1 h.2)
  · obtain ⟨h3, h4⟩ := (mc p).1 hp
    rcases (ma p).1 hq with h | h
    · exact hI.re p h3 h
    · exact h4 h
end
end Go.Sh

set_option linter.all false
set_option maxRecDepth 40000
set_option maxHeartbeats 4000000
namespace Go.Sh
section
variable {E : Env} {Ps Rs : List Pr} {w : World}
theorem AL_map_slot (i : Nat) {K : Nat -> World -> Prop} (H : Sat Ps w) (hi : Ps[i]? = some Emp) (hK : ∀ b w', Sat (Ps.set i (MapF b .u64 fun _ => none)) w' -> K b w') : AL (.map #[] 0) w K :=
  AL_map (H.front i hi).tail .u64 fun b w' H' _ => hK b w' (Sat.back i H' (List.getElem?_eq_some_iff.1 hi).1)
theorem copy_row {t : Nat} {zs : Array Value} {bytes : Nat} {a : SlV} {vs : List Value} {K : SlV -> World -> Prop} (H : Sat Rs w) (hz : zs.size = 1) (hrow : ∀ w', Sat Rs w' -> rowAt w' a.base a.len vs) (hl : vs.length = a.len) (hlen : a.len <= 1099511627776) (hby : bytes <= 8)
    (ho : ∀ v ∈ vs, v.oneCell' = true) (hK : ∀ s' w', Sat (RowV s' vs :: Rs) w' -> K s' w') :
    CND (a.base.isNone) (K ⟨none, 0, 0⟩ w) (AL (.cells ⟨[]⟩ t) w fun b1 w2 => APP t 1 bytes zs ⟨(some (Addr.mk b1 0 none)), 0, 0⟩ a w2 fun s3 w4 => K s3 w4) := by
  refine CND_intro (fun e => ?_) fun e => ?_
  · have hb : a.base = none := by simpa using e
    have := hrow w H
    rw [hb] at this
    have hv : vs = [] := this
    rw [hv] at hK
    exact hK _ w H.rowVnil
  · refine AL_intro fun w2 hb2 hs2 he2 => ?_
    have H2 : Sat (Row t 1 ⟨some ⟨w.heap.size, 0, none⟩, 0, 0⟩ [] :: Rs) w2 := H.new (P := Row t 1 ⟨some ⟨w.heap.size, 0, none⟩, 0, 0⟩ []) (D := Blk' ⟨some ⟨w.heap.size, 0, none⟩, 0, 0⟩) he2
      ⟨fun _ => Iff.rfl, own_new hb2 rfl (Nat.zero_le _) (by decide)⟩ fun k hk => by obtain ⟨x, hx, rfl⟩ := hk; cases hx; exact Nat.le_refl _
    have hm : (0 + a.len) * bytes <= 1099511627776 * 8 := Nat.mul_le_mul (by omega) hby
    refine APP_row H2 hz (by simpa using hrow w2 H2.tail) (by simpa using hl) ho (by simp only; omega) (by simp only; omega) fun s' w' H' _ => hK s' w' ?_
    exact Sat.rowV H'
theorem clone_u64 (i : Nat) {a : SlV} {l : List Int} {K : SlV -> World -> Prop} (H : Sat Ps w) (hi : Ps[i]? = some Emp) (hrow : ∀ w', Sat (Ps.eraseIdx i) w' -> rowAt w' a.base a.len (ints .u64 l)) (hl : l.length = a.len) (hlen : a.len <= 1099511627776)
    (hK : ∀ s' w', Sat (Ps.set i (RowV s' (ints .u64 l))) w' -> K s' w') : F.slices_Clone___uint64_uint64_ E a K w := by
  unfold F.slices_Clone___uint64_uint64_
  exact copy_row (H.front i hi).tail rfl hrow (by simpa [ints] using hl) hlen (Nat.le_refl _) (by intro v hv; simp [ints] at hv; obtain ⟨x, _, rfl⟩ := hv; rfl) fun s' w' H' => hK s' w' (Sat.back i H' (List.getElem?_eq_some_iff.1 hi).1)
theorem clone_bool (i : Nat) {a : SlV} {l : List Bool} {K : SlV -> World -> Prop} (H : Sat Ps w) (hi : Ps[i]? = some Emp) (hrow : ∀ w', Sat (Ps.eraseIdx i) w' -> rowAt w' a.base a.len (bools l)) (hl : l.length = a.len) (hlen : a.len <= 1099511627776)
    (hK : ∀ s' w', Sat (Ps.set i (RowV s' (bools l))) w' -> K s' w') : F.slices_Clone___bool_bool_ E a K w := by
  unfold F.slices_Clone___bool_bool_
  exact copy_row (H.front i hi).tail rfl hrow (by simpa [bools] using hl) hlen (by decide) (by intro v hv; simp [bools] at hv; rcases hv with ⟨_, rfl⟩ | ⟨_, rfl⟩ <;> rfl) fun s' w' H' => hK s' w' (Sat.back i H' (List.getElem?_eq_some_iff.1 hi).1)
theorem new_fin {b t1 b1 t2 m1 m2 : Nat} {r1 r2 r3 : SlV} {vs : List Value} {pl : List Int} {rf : List Bool} {fl : List Int} (hpl : ∀ x ∈ pl, 0 <= x /\ x < 18446744073709551616)
    (H : Sat (Cells b t1 [slV r1, slV r2, slV r3, .slice none 0 0, .int .u64 0, .slice none 0 0, .int .u64 0, .slice none 0 0, .int .u64 0, .map (some m1), .map (some m2)] :: Cells b1 t2 vs ::
      RowV r1 (ints .u64 pl) :: RowV r2 (bools rf) :: RowV r3 (ints .u64 fl) :: MapF m1 .u64 (fun _ => none) :: MapF m2 .u64 (fun _ => none) :: Rs) w) : Sat (VmemP E b (newV pl rf fl) :: Rs) w := by
  have H1 := (H.perm (.swap _ _ _)).tail
  have H2 := (Sat.addMid [Cells b t1 _, RowV r1 _, RowV r2 _, RowV r3 _, MapF m1 _ _, MapF m2 _ _] (H1.pgNil 1024))
  have H3 := ((H2.setNil (E := E)).perm (.swap _ _ _))
  have H4 := ((H3.setNil (E := E)).perm (.swap _ _ _))
  have H5 := ((H4.setNil (E := E)).perm (.swap _ _ _))
  exact Sat.vmem.2 ⟨⟨r1, r2, r3, ⟨none, 0, 0⟩, ⟨none, 0, 0⟩, ⟨none, 0, 0⟩, m1, m2, fun _ => none, fun _ => none⟩,
    ⟨fun _ _ _ _ => rfl, fun _ h => absurd rfl h, fun _ h => absurd rfl h, fun _ h => h, fun _ h => h, fun p h => absurd h (mem_nil p), fun p h => absurd h (mem_nil p), hpl⟩, H5⟩
theorem vnew_spec (H : Sat Rs w) {a0 a1 a2 : SlV} {pl : List Int} {rf : List Bool} {fl : List Int} (hpl : ∀ x ∈ pl, 0 <= x /\ x < 18446744073709551616)
    (h0 : ∀ w', Sat Rs w' -> rowAt w' a0.base a0.len (ints .u64 pl)) (l0 : pl.length = a0.len) (k0 : a0.len <= 1099511627776)
    (h1 : ∀ w', Sat Rs w' -> rowAt w' a1.base a1.len (bools rf)) (l1 : rf.length = a1.len) (k1 : a1.len <= 1099511627776)
    (h2 : ∀ w', Sat Rs w' -> rowAt w' a2.base a2.len (ints .u64 fl)) (l2 : fl.length = a2.len) (k2 : a2.len <= 1099511627776)
    {K : Option Addr -> World -> Prop} (hK : ∀ b w', Sat (VmemP E b (newV pl rf fl) :: Rs) w' -> K (some ⟨b, 0, none⟩) w') : F.vmem_New E a0 a1 a2 K w := by
  unfold F.vmem_New T0.vmem_New
  refine AL_cells H.emp.emp.emp.emp.emp fun b1 w2 H2 _ => ?_
  have Hd := H2.drew
  clear H2
  have t5 : ∀ {P0 P1 P2 P3 P4 : Pr} {w'}, Sat (P0 :: P1 :: P2 :: P3 :: P4 :: Rs) w' -> Sat Rs w' := fun h => h.tail.tail.tail.tail.tail
  refine ⟨a0, Hd.cell0 rfl, a1, Hd.cell rfl, a2, Hd.cell rfl, ?_⟩
  repeat' first
    | (exact Sat.cell (by assumption) (by rfl))
    | (exact Sat.cell0 (by assumption) (by rfl))
    | (refine clone_u64 1 (a := a0) (l := pl) (by assumption) (by rfl) (by intro w' h; exact h0 w' (t5 h)) l0 k0 fun s' w' H' => ?_)
    | (refine clone_bool 2 (a := a1) (l := rf) (by assumption) (by rfl) (by intro w' h; exact h1 w' (t5 h)) l1 k1 fun s' w' H' => ?_)
    | (refine clone_u64 3 (a := a2) (l := fl) (by assumption) (by rfl) (by intro w' h; exact h2 w' (t5 h)) l2 k2 fun s' w' H' => ?_)
    | (refine AL_map_slot 4 (by assumption) (by rfl) fun b' w' H' => ?_)
    | (refine AL_map_slot 5 (by assumption) (by rfl) fun b' w' H' => ?_)
    | (refine AL_cells (by assumption) fun b' w' H' _ => ?_; exact hK _ _ (new_fin hpl H'))
    | (refine AL_cells (by assumption) fun b' w' H' _ => ?_; exact hK _ _ (new_fin hpl (H'.perm (.cons _ (.cons _ (.cons _ (.cons _ (.cons _ (.swap _ _ _)))))))))
    | (refine And.intro ?_ ?_)
theorem cnt_two : ∀ (n : Nat) {l m k : Iv}, Ok l -> Ok m -> Ok k -> (∀ p, mem m p -> mem l p) -> (∀ p, mem k p -> mem l p) -> (∀ p, mem m p -> ¬ mem k p) -> ∀ a : Int, cnt m a (a + n) + cnt k a (a + n) <= cnt l a (a + n)
  | 0, l, m, k, hl, hm, hk, _, _, _, a => by
    have h1 := cnt_split hm (show a <= a + (0 : Nat) by omega)
    have h2 := cnt_split hk (show a <= a + (0 : Nat) by omega)
    have h3 := cnt_nonneg l a (a + (0 : Nat))
    omega
  | n + 1, l, m, k, hl, hm, hk, h1, h2, h3, a => by
    have ih := cnt_two n hl hm hk h1 h2 h3 a
    have e : a + ((n + 1 : Nat) : Int) = (a + n) + 1 := by omega
    rw [e]
    have sl := cnt_succ hl (a := a) (k := a + n) (by omega)
    have sm := cnt_succ hm (a := a) (k := a + n) (by omega)
    have sk := cnt_succ hk (a := a) (k := a + n) (by omega)
    by_cases c1 : mem m (a + n)
    · have := sm.1 c1; have := sk.2 (h3 _ c1); have := sl.1 (h1 _ c1); omega
    · have := sm.2 c1
      by_cases c2 : mem k (a + n)
      · have := sk.1 c2; have := sl.1 (h2 _ c2); omega
      · have := sk.2 c2
        by_cases c3 : mem l (a + n)
        · have := sl.1 c3; omega
        · have := sl.2 c3; omega
structure VOk (V : VS) : Prop where
  ok1 : Ok V.laid
  ok2 : Ok V.ready
  ok3 : Ok V.rel
  rl : ∀ p, mem V.ready p -> mem V.laid p
  el : ∀ p, mem V.rel p -> mem V.laid p
  re : ∀ p, mem V.ready p -> ¬ mem V.rel p
  lim : ∀ p, mem V.laid p -> 512 <= p /\ p < 34359738368
  clean : ∀ p i, 0 <= i -> i < 1024 -> ¬ mem V.ready p -> V.wd p i = 0
  sums : tot V.ready + tot V.rel <= tot V.laid
theorem Sat.vok {b : Nat} {V : VS} (H : Sat (VmemP E b V :: Rs) w) : VOk V := by
  obtain ⟨g, hI, H⟩ := Sat.vmem.1 H
  obtain ⟨ok1, ok2, ok3⟩ := vres_oks H
  refine ⟨ok1, ok2, ok3, hI.rl, hI.el, hI.re, hI.lim, fun p i h0 h1 hn => ?_, ?_⟩
  · rw [hI.wd p i h0 h1]
    unfold wordOf
    cases hG : g.G p with
    | some x => exact absurd (hI.pg p (by rw [hG]; exact fun h => by cases h)) hn
    | none =>
      cases hf : g.f p with
      | none => rfl
      | some x => exact absurd (hI.fi p (by rw [hf]; exact fun h => by cases h)) hn
  · have h1 := cnt_all (Ok.lts ok1) (a := 0) (b := 0 + (34359738368 : Nat)) fun n hn => by have := hI.lim n hn; omega
    have h2 := cnt_all (Ok.lts ok2) (a := 0) (b := 0 + (34359738368 : Nat)) fun n hn => by have := hI.lim n (hI.rl n hn); omega
    have h3 := cnt_all (Ok.lts ok3) (a := 0) (b := 0 + (34359738368 : Nat)) fun n hn => by have := hI.lim n (hI.el n hn); omega
    have := cnt_two 34359738368 ok1 ok2 ok3 hI.rl hI.el hI.re 0
    omega
end
end Go.Sh

set_option linter.all false
set_option maxRecDepth 40000
set_option maxHeartbeats 4000000
namespace Go.Sh
section
variable {E : Env} {b : Nat} {V : VS} {Rs : List Pr} {w : World}
theorem vcount_spec (H : Sat (VmemP E b V :: Rs) w) {k : Int} {K : Int -> World -> Prop}
    (hK : ∀ w', Sat (VmemP E b V :: Rs) w' -> K (if k = 2 then tot V.ready else if k = 3 then tot V.rel else if k = 1 then tot V.laid - tot V.ready - tot V.rel else 0) w') :
    F.vmem_Mem_Count E (some ⟨b, 0, none⟩) k K w := countS_spec H (fun w' hw' => hK w' (H.nothing hw')) H.vok.sums
variable (hE : EnvS E)
include hE
theorem vstate_spec (H : Sat (VmemP E b V :: Rs) w) {x : Int} (h0 : 0 <= x) {K : Int -> World -> Prop}
    (hK : ∀ w', Sat (VmemP E b V :: Rs) w' -> K (if inL V.laid x then if inL V.ready x then 2 else if inL V.rel x then 3 else 1 else 0) w') : F.vmem_Mem_State E (some ⟨b, 0, none⟩) x K w :=
  stateS_spec hE H h0 fun w' hw' => hK w' (H.nothing hw')
theorem release_ok (H : Sat (VmemP E b V :: Rs) w) {page pages : Int} (h0 : 0 <= page) (p0 : 0 < pages) (p1 : page + pages <= 34359738368) (hn : ∀ p, page <= p -> p < page + pages -> mem V.ready p)
    {K : Int -> World -> Prop} (hK : ∀ w', Sat (VmemP E b (releaseV V page pages) :: Rs) w' -> K 0 w') : F.vmem_Mem_Release E (some ⟨b, 0, none⟩) page pages K w := by
  have hv := H.vok
  have c2 : cnt V.ready page (page + pages) = pages := by have := (cnt_full hv.ok2 (a := page) (b := page + pages) (by omega)).2 hn; omega
  exact release_spec hE H h0 (by omega) (by omega) (by omega) (fun h => absurd ⟨by omega, p1⟩ h) (fun _ h => absurd c2 h) fun _ _ w' H' => hK w' H'
theorem vnew_nil (H : Sat Rs w) {K : Option Addr -> World -> Prop} (hK : ∀ b w', Sat (VmemP E b (newV [] [] []) :: Rs) w' -> K (some ⟨b, 0, none⟩) w') : F.vmem_New E ⟨none, 0, 0⟩ ⟨none, 0, 0⟩ ⟨none, 0, 0⟩ K w :=
  vnew_spec (a0 := ⟨none, 0, 0⟩) (a1 := ⟨none, 0, 0⟩) (a2 := ⟨none, 0, 0⟩) H (pl := []) (rf := []) (fl := []) (by simp) (fun _ _ => show ([] : List Value) = [] from rfl) rfl (by decide) (fun _ _ => show ([] : List Value) = [] from rfl) rfl (by decide) (fun _ _ => show ([] : List Value) = [] from rfl) rfl (by decide) hK
end
end Go.Sh
