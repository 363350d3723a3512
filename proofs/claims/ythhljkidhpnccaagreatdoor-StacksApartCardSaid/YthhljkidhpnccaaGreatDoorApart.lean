/- The law StacksApart holds (its card: math/bits' table as the program's text lays it): for every input the Go function returns true and leaves its arguments alone. No further condition. -/
import Derived.Test.YthhljkidhpnccaaGreatDoorK
import Derived.Test.YthhljkidhpnccaaGreatDoorA
import Derived.Test.YthhljkidhpnccaaGreatDoorQ
import Derived.Test.YthhljkidhpnccaaGreatDoorCards
import Derived.Test.YthhljkidhpnccaaGreatDoorTie
import Derived.WalkKit
import Derived.ProofKit
import Derived.OpenShut
import Derived.Deep.DeepHandedRow
import Derived.Lib.LaidTab
set_option linter.all false
set_option maxRecDepth 8000
set_option maxHeartbeats 4000000
namespace Go.Sh
abbrev UB := Int -> Nat -> Bool
def Slot (S : HS) (p : Int -> Bool) (U : UB) (o : Nat) (a : Int) : Prop := ∃ id x, ∃ n : Nat, p id = true /\ S.sp id = some x /\ (n : Int) < x.2.slots /\ U id n = true /\ a = x.2.base + n * byO o
def Large (S : HS) (a n : Int) : Prop := ∃ id x, ∃ j : Nat, 4 <= j /\ j <= 15 /\ n = 2048 * 2 ^ j /\ S.sp id = some x /\ x.2.base = a /\ x.2.pages * 8192 = n /\ x.2.state = 2 /\ x.2.slots = 1 /\ SpU x.2 fun k => decide (k < 1)
def Pooled (S : HS) (U : UB) (o : Nat) (id : Int) : Prop := ∃ x, S.sp id = some x /\ x.2.state = 2 /\ x.2.magic = 0 /\ x.2.elem = byO o /\ x.2.slots = 4 * 8192 / byO o /\ x.2.pages = 4 /\ SpU x.2 (U id) /\ ∃ n, U id n = true
structure StI (T : ST) (U : UB) (B : Int) : Prop where
  inv : HInv T.S no
  la : ∃ b, LaidB T.S b /\ b <= B
  po : ∀ o, o < 4 -> ∀ id, T.pool o id = true -> Pooled T.S U o id
  us : ∀ o, o < 4 -> ∀ a, Slot T.S (T.pool o) U o a ↔ (∃ p, p < 64 /\ a ∈ T.row (4 * p + o)) ∨ T.out a = some (byO o)
  nd : ∀ k, (T.row k).Nodup
  dj : ∀ o p q a, o < 4 -> p < 64 -> q < 64 -> a ∈ T.row (4 * p + o) -> a ∈ T.row (4 * q + o) -> p = q
  ro : ∀ o p a, o < 4 -> p < 64 -> a ∈ T.row (4 * p + o) -> T.out a = none
  ou : ∀ a n, T.out a = some n -> (∃ o, o < 4 /\ n = byO o) ∨ Large T.S a n
  al : ∀ id x, T.S.sp id = some x -> (∃ o, o < 4 /\ T.pool o id = true) ∨ (T.out x.2.base = some (x.2.pages * 8192) /\ Large T.S x.2.base (x.2.pages * 8192))
  ln : ∀ o p, o < 4 -> p < 64 -> ((T.row (4 * p + o)).length : Int) * byO o <= 32768
theorem byO_inj {o q : Nat} (h1 : o < 4) (h2 : q < 4) (h : byO o = byO q) : o = q := by
  match o, h1, q, h2 with
  | 0, _, 0, _ | 1, _, 1, _ | 2, _, 2, _ | 3, _, 3, _ => rfl
  | 0, _, 1, _ | 0, _, 2, _ | 0, _, 3, _ | 1, _, 0, _ | 1, _, 2, _ | 1, _, 3, _ | 2, _, 0, _ | 2, _, 1, _ | 2, _, 3, _ | 3, _, 0, _ | 3, _, 1, _ | 3, _, 2, _ => exact absurd h (by decide)
theorem byO_slots {o : Nat} (h : o < 4) : 4 * 8192 / byO o * byO o = 32768 := by
  match o, h with
  | 0, _ => decide
  | 1, _ => decide
  | 2, _ => decide
  | 3, _ => decide
theorem span_own {S : HS} (hI : HInv S no) {id z : Int} {x : Nat × SI} (hx : S.sp id = some x) (h1 : x.2.base <= z) (h2 : z < x.2.base + x.2.pages * 8192) : S.own (z / 8192) = id := by
  obtain ⟨_, hb, _, _, h⟩ := hI.sp id x hx
  exact h (z / 8192) (by omega) (by omega)
section
variable {T : ST} {U : UB} {B : Int} {o : Nat} {a : Int}
theorem slot_in {S : HS} (hb : o < 4) {x : Nat × SI} {n : Nat} (h1 : x.2.slots = 4 * 8192 / byO o) (h2 : x.2.pages = 4) (hn : (n : Int) < x.2.slots) : x.2.base <= x.2.base + n * byO o /\ x.2.base + n * byO o + byO o <= x.2.base + x.2.pages * 8192 := by
  have hbo := (byO_bnd hb).1
  have e := byO_slots hb
  rw [h1] at hn
  have h3 : (0 : Int) <= (n : Int) * byO o := Int.mul_nonneg (by omega) (by omega)
  have h4 : ((n : Int) + 1) * byO o <= 4 * 8192 / byO o * byO o := Int.mul_le_mul_of_nonneg_right (by omega) (by omega)
  rw [Int.add_mul, Int.one_mul, e] at h4
  rw [h2]
  omega
theorem StI.place (h : StI T U B) {n : Int} (ho : T.out a = some n) : ∃ id x, T.S.sp id = some x /\ x.2.base <= a /\ a + n <= x.2.base + x.2.pages * 8192 /\ 2048 <= n /\ n <= 67108864 /\
    ((∃ o, ∃ m : Nat, o < 4 /\ n = byO o /\ T.pool o id = true /\ (m : Int) < x.2.slots /\ U id m = true /\ a = x.2.base + m * byO o) ∨ (x.2.base = a /\ x.2.slots = 1)) := by
  rcases h.ou a n ho with ⟨o, h4, rfl⟩ | ⟨id, x, j, h1, h2, h3, h5, h6, h7, _, h8, _⟩
  · obtain ⟨id, x, m, q1, q2, q3, q4, q5⟩ := (h.us o h4 a).2 (.inr ho)
    obtain ⟨y, p1, _, _, _, p5, p6, _⟩ := h.po o h4 id q1
    rw [q2] at p1; cases p1
    have hs := slot_in (S := T.S) h4 p5 p6 q3
    have hb := byO_bnd h4
    exact ⟨id, x, q2, by rw [q5]; exact hs.1, by rw [q5]; exact hs.2, hb.1, by omega, .inl ⟨o, m, h4, rfl, q1, q3, q4, q5⟩⟩
  · have hp : (2 : Int) ^ 4 <= 2 ^ j := by
      have := Nat.pow_le_pow_right (n := 2) (by decide) h1
      exact_mod_cast this
    have hp2 : (2 : Int) ^ j <= 2 ^ 15 := by
      have := Nat.pow_le_pow_right (n := 2) (by decide) h2
      exact_mod_cast this
    exact ⟨id, x, h5, by omega, by omega, by omega, by omega, .inr ⟨h6, h8⟩⟩
theorem StI.apart (h : StI T U B) {n a' n' : Int} (h1 : T.out a = some n) (h2 : T.out a' = some n') (h3 : a < a' + n') (h4 : a' < a + n) : a = a' := by
  obtain ⟨id, x, p1, p2, p3, p4, _, p6⟩ := h.place h1
  obtain ⟨id', x', q1, q2, q3, q4, _, q6⟩ := h.place h2
  have e : id = id' := by
    by_cases g : a <= a'
    · rw [<- span_own h.inv p1 (z := a') (by omega) (by omega), <- span_own h.inv q1 (z := a') (by omega) (by omega)]
    · rw [<- span_own h.inv p1 (z := a) (by omega) (by omega), <- span_own h.inv q1 (z := a) (by omega) (by omega)]
  subst e
  rw [p1] at q1; cases q1
  rcases p6 with ⟨o, m, r1, r2, r3, r4, r5, r6⟩ | ⟨r1, r2⟩
  · obtain ⟨y, s1, _, _, s4, s5, _⟩ := h.po o r1 id r3
    rw [p1] at s1; cases s1
    rcases q6 with ⟨o', m', t1, t2, t3, t4, t5, t6⟩ | ⟨t1, t2⟩
    · obtain ⟨y, u1, _, _, u4, _⟩ := h.po o' t1 id t3
      rw [p1] at u1; cases u1
      have : o = o' := byO_inj r1 t1 (s4.symm.trans u4)
      subst this
      rw [r2] at h4; rw [t2] at h3
      have hb := (byO_bnd r1).1
      have : m = m' := by
        refine Classical.byContradiction fun g => ?_
        rcases Nat.lt_or_gt_of_ne g with g | g
        · have : ((m : Int) + 1) * byO o <= (m' : Int) * byO o := Int.mul_le_mul_of_nonneg_right (by omega) (by omega)
          rw [Int.add_mul, Int.one_mul] at this
          omega
        · have : ((m' : Int) + 1) * byO o <= (m : Int) * byO o := Int.mul_le_mul_of_nonneg_right (by omega) (by omega)
          rw [Int.add_mul, Int.one_mul] at this
          omega
      rw [r6, t6, this]
    · have := byO_bnd r1; omega
  · rcases q6 with ⟨o', m', t1, t2, t3, t4, t5, t6⟩ | ⟨t1, t2⟩
    · obtain ⟨y, u1, _, _, _, u5, _⟩ := h.po o' t1 id t3
      rw [p1] at u1; cases u1
      have := byO_bnd t1; omega
    · rw [<- r1, <- t1]
theorem StI.mem (h : StI T U B) (hk : HOk T.S) {n : Int} (h1 : T.out a = some n) : 0 <= a /\ a % 2048 = 0 /\ 2048 <= n /\ n <= 67108864 /\ a + n <= 281474976710656 /\ ∀ z, a <= z -> z < a + n -> Go.Sh.mem T.S.V.ready (z / 8192) := by
  obtain ⟨id, x, p1, p2, p3, p4, p5, p6⟩ := h.place h1
  obtain ⟨k1, k2, k3, k4, k5⟩ := h.inv.sp id x p1
  have l1 := hk.tv.lim _ (h.inv.ow _ (show 0 < T.S.own (x.2.base / 8192) by rw [k5 _ (Int.le_refl _) (by omega)]; exact k1)).1
  have l2 := hk.tv.lim _ (h.inv.ow _ (show 0 < T.S.own (x.2.base / 8192 + x.2.pages - 1) by rw [k5 _ (by omega) (by omega)]; exact k1)).1
  refine ⟨by omega, ?_, p4, p5, by omega, fun z z0 z1 => h.inv.ready hk (by rw [span_own h.inv p1 (by omega) (by omega)]; exact k1)⟩
  rcases p6 with ⟨o, m, r1, r2, r3, r4, r5, r6⟩ | ⟨r1, r2⟩
  · rw [r6]
    match o, r1 with
    | 0, _ => show (x.2.base + m * 2048) % 2048 = 0; omega
    | 1, _ => show (x.2.base + m * 4096) % 2048 = 0; omega
    | 2, _ => show (x.2.base + m * 8192) % 2048 = 0; omega
    | 3, _ => show (x.2.base + m * 16384) % 2048 = 0; omega
  · omega
theorem StI.pl (h : StI T U B) : ∀ j, j < 4 -> ∀ id, T.pool j id = true -> T.S.sp id ≠ none := fun j hj id hid => by
  obtain ⟨x, hx, _⟩ := h.po j hj id hid
  rw [hx]; simp
theorem StI.mono (h : StI T U B) {B' : Int} (hB : B <= B') : StI T U B' := by
  obtain ⟨b, h1, h2⟩ := h.la
  exact ⟨h.inv, ⟨b, h1, by omega⟩, h.po, h.us, h.nd, h.dj, h.ro, h.ou, h.al, h.ln⟩
theorem StI.memV (h : StI T U B) {f : Int -> Int -> Int} : StI { T with S := { T.S with V := { T.S.V with wd := f } } } U B := by
  obtain ⟨b, h1, h2⟩ := h.la
  exact ⟨h.inv.memV rfl rfl, ⟨b, ⟨h1.la, h1.b0, h1.b1, h1.h0, h1.h1, h1.pl, h1.rf⟩, h2⟩, h.po, h.us, h.nd, h.dj, h.ro, h.ou, h.al, h.ln⟩
theorem StI.new (fl : List Int) : StI ⟨HS.new (newV [] [] fl), fun _ => [], fun _ _ => false, fun _ => none⟩ (fun _ _ => false) 512 :=
  ⟨HInv.newV [] [] fl, ⟨512, LaidB.new fl, Int.le_refl _⟩, fun _ _ _ h => (by cases h), fun o _ a => ⟨fun ⟨_, _, _, h, _⟩ => (by cases h), fun h => h.elim (fun ⟨_, _, h⟩ => (by cases h)) fun h => (by cases h)⟩,
    fun _ => List.nodup_nil, fun _ _ _ _ _ _ _ h => (by cases h), fun _ _ _ _ _ h => (by cases h), fun _ _ h => (by cases h), fun _ _ h => (by cases h), fun o p ho _ => by simp⟩
end
section
variable {T : ST} {U : UB} {B B' : Int} {o p : Nat} {a : Int}
theorem rowk {o p q r : Nat} (ho : o < 4) (hr : r < 4) (h : 4 * q + r = 4 * p + o) : q = p /\ r = o := by omega
theorem StI.took (h : StI T U B) (ho : o < 4) (hp : p < 64) {S' : HS} {pool' : Int -> Bool} {id : Int} {n : Nat} {x' : Nat × SI} {U0 : Nat -> Bool}
    (hI' : HInv S' no) (hla : ∃ b, LaidB S' b /\ b <= B') (hx' : S'.sp id = some x') (hst : x'.2.state = 2) (hmg : x'.2.magic = 0) (hel : x'.2.elem = byO o) (hsl : x'.2.slots = 4 * 8192 / byO o) (hpg : x'.2.pages = 4)
    (hsu : SpU x'.2 fun m => U0 m || m == n) (hn : (n : Int) < x'.2.slots) (hun : U0 n = false) (hoth : ∀ i, i ≠ id -> S'.sp i = T.S.sp i) (hpool : ∀ i, pool' i = true ↔ i = id ∨ T.pool o i = true)
    (hc : (T.pool o id = true /\ (∃ x, T.S.sp id = some x /\ x.2.base = x'.2.base) /\ U0 = U id) ∨ (T.S.sp id = none /\ U0 = fun _ => false)) (ha : a = x'.2.base + n * byO o) (hlen : ((T.row (4 * p + o)).length : Int) * byO o + byO o <= 32768) :
    StI { T with S := S', pool := fun j => if j = o then pool' else T.pool j, row := fun j => if j = 4 * p + o then T.row (4 * p + o) ++ [a] else T.row j } (fun i => if i = id then (fun m => U0 m || m == n) else U i) B' := by
  have hbo := byO_bnd ho
  have hoid : ∀ q, q < 4 -> q ≠ o -> ∀ i, T.pool q i = true -> i ≠ id := fun q hq hqo i hi e => by
    subst e
    obtain ⟨y, y1, _, _, y4, _⟩ := h.po q hq i hi
    rcases hc with ⟨c1, ⟨x, c2, c3⟩, _⟩ | ⟨c1, _⟩
    · obtain ⟨z, z1, _, _, z4, _⟩ := h.po o ho i c1
      rw [y1] at z1; cases z1
      exact hqo (byO_inj hq ho (y4.symm.trans z4))
    · rw [c1] at y1; cases y1
  have hain := slot_in (S := S') ho hsl hpg hn
  have hown : S'.own (a / 8192) = id := span_own hI' hx' (by rw [ha]; exact hain.1) (by rw [ha]; omega)
  have hnew : ∀ i y, T.S.sp i = some y -> y.2.base <= a -> a < y.2.base + y.2.pages * 8192 -> i = id := fun i y hy y1 y2 => by
    refine Classical.byContradiction fun g => ?_
    have := span_own hI' (id := i) ((hoth i g).trans hy) y1 y2
    exact g (this.symm.trans hown)
  have hns : ¬ Slot T.S (T.pool o) U o a := fun ⟨i, y, m, s1, s2, s3, s4, s5⟩ => by
    obtain ⟨z, z1, _, _, _, z5, z6, _⟩ := h.po o ho i s1
    rw [s2] at z1; cases z1
    have hs := slot_in (S := T.S) ho z5 z6 s3
    have e := hnew i y s2 (by rw [s5]; exact hs.1) (by rw [s5]; omega)
    subst e
    rcases hc with ⟨_, ⟨x, c2, c3⟩, c4⟩ | ⟨c1, _⟩
    · rw [s2] at c2; cases c2
      rw [ha, c3] at s5
      have : (m : Int) * byO o = (n : Int) * byO o := by omega
      have := Int.eq_of_mul_eq_mul_right (by omega) this
      have e2 : m = n := by omega
      rw [e2] at s4
      rw [c4] at hun
      rw [hun] at s4; cases s4
    · rw [c1] at s2; cases s2
  have hno : T.out a = none := by
    cases hout : T.out a with
    | none => rfl
    | some k =>
      exfalso
      obtain ⟨i, y, q1, q2, q3, q4, _, q6⟩ := h.place hout
      have e := hnew i y q1 q2 (by omega)
      subst e
      rcases q6 with ⟨o', m, r1, r2, r3, r4, r5, r6⟩ | ⟨r1, r2⟩
      · by_cases g : o' = o
        · subst g; exact hns ⟨i, y, m, r3, q1, r4, r5, r6⟩
        · exact hoid o' r1 g i r3 rfl
      · rcases hc with ⟨c1, ⟨x, c2, c3⟩, c4⟩ | ⟨c1, _⟩
        · obtain ⟨z, z1, _, _, _, z5, _⟩ := h.po o ho i c1
          rw [q1] at z1; cases z1
          omega
        · rw [c1] at q1; cases q1
  have hnr : ∀ q, q < 64 -> a ∉ T.row (4 * q + o) := fun q hq hm => hns ((h.us o ho a).2 (.inl ⟨q, hq, hm⟩))
  have hrow : ∀ q r, r < 4 -> ∀ z, (z ∈ (fun j => if j = 4 * p + o then T.row (4 * p + o) ++ [a] else T.row j) (4 * q + r) ↔ z ∈ T.row (4 * q + r) ∨ (q = p /\ r = o /\ z = a)) := fun q r hr z => by
    show z ∈ (if 4 * q + r = 4 * p + o then T.row (4 * p + o) ++ [a] else T.row (4 * q + r)) ↔ _
    by_cases e : 4 * q + r = 4 * p + o
    · obtain ⟨rfl, rfl⟩ := rowk ho hr e
      rw [if_pos rfl, List.mem_append, List.mem_singleton]; simp
    · rw [if_neg e]
      constructor
      · exact .inl
      · rintro (h | ⟨rfl, rfl, _⟩)
        · exact h
        · exact absurd rfl e
  refine ⟨hI', hla, fun q hq i hi => ?_, fun q hq z => ?_, fun k => ?_, fun q r t z hq hr ht z1 z2 => ?_, fun q r z hq hr hz => ?_, fun z k hz => ?_, fun i y hy => ?_, fun q r hq hr => ?_⟩
  · -- pools
    by_cases e : q = o
    · subst e
      have hi : (if q = q then pool' else T.pool q) i = true := hi
      rw [if_pos rfl] at hi
      by_cases e2 : i = id
      · subst e2
        exact ⟨x', hx', hst, hmg, hel, hsl, hpg, by simpa using hsu, n, by simp⟩
      · have hi2 := ((hpool i).1 hi).resolve_left e2
        obtain ⟨y, y1, y2⟩ := h.po q hq i hi2
        exact ⟨y, (hoth i e2).trans y1, by simpa [e2] using y2⟩
    · have hi : (if q = o then pool' else T.pool q) i = true := hi
      rw [if_neg e] at hi
      have e2 := hoid q hq e i hi
      obtain ⟨y, y1, y2⟩ := h.po q hq i hi
      exact ⟨y, (hoth i e2).trans y1, by simpa [e2] using y2⟩
  · -- used slots
    have hrow2 : (∃ r, r < 64 /\ z ∈ (fun j => if j = 4 * p + o then T.row (4 * p + o) ++ [a] else T.row j) (4 * r + q)) ↔ (∃ r, r < 64 /\ z ∈ T.row (4 * r + q)) ∨ (q = o /\ z = a) := by
      constructor
      · rintro ⟨r, hr, hz⟩
        rcases (hrow r q hq z).1 hz with hz | ⟨_, e1, e2⟩
        · exact .inl ⟨r, hr, hz⟩
        · exact .inr ⟨e1, e2⟩
      · rintro (⟨r, hr, hz⟩ | ⟨e1, e2⟩)
        · exact ⟨r, hr, (hrow r q hq z).2 (.inl hz)⟩
        · exact ⟨p, hp, (hrow p q hq z).2 (.inr ⟨rfl, e1, e2⟩)⟩
    show Slot S' (if q = o then pool' else T.pool q) _ q z ↔ (∃ r, r < 64 /\ z ∈ (fun j => if j = 4 * p + o then T.row (4 * p + o) ++ [a] else T.row j) (4 * r + q)) ∨ T.out z = some (byO q)
    rw [hrow2]
    have hold : Slot S' (if q = o then pool' else T.pool q) (fun i => if i = id then (fun m => U0 m || m == n) else U i) q z ↔ Slot T.S (T.pool q) U q z ∨ (q = o /\ z = a) := by
      by_cases e : q = o
      · subst e
        rw [if_pos rfl]
        constructor
        · rintro ⟨i, y, m, s1, s2, s3, s4, s5⟩
          by_cases e2 : i = id
          · subst e2
            rw [hx'] at s2; cases s2
            simp only [if_true, Bool.or_eq_true, beq_iff_eq] at s4
            rcases s4 with s4 | rfl
            · rcases hc with ⟨c1, ⟨x, c2, c3⟩, c4⟩ | ⟨_, c2⟩
              · rw [c4] at s4
                obtain ⟨w, w1, _, _, _, w5, _⟩ := h.po q hq i c1
                rw [c2] at w1; cases w1
                exact .inl ⟨i, x, m, c1, c2, by rw [w5, <- hsl]; exact s3, s4, by rw [c3]; exact s5⟩
              · rw [c2] at s4; cases s4
            · exact .inr ⟨rfl, s5.trans ha.symm⟩
          · simp only [e2, if_false] at s4
            exact .inl ⟨i, y, m, ((hpool i).1 s1).resolve_left e2, (hoth i e2).symm.trans s2, s3, s4, s5⟩
        · rintro (⟨i, y, m, s1, s2, s3, s4, s5⟩ | ⟨_, rfl⟩)
          · by_cases e2 : i = id
            · subst e2
              rcases hc with ⟨c1, ⟨x, c2, c3⟩, c4⟩ | ⟨c1, _⟩
              · rw [s2] at c2; cases c2
                obtain ⟨w, w1, _, _, _, w5, _⟩ := h.po q hq i c1
                rw [s2] at w1; cases w1
                exact ⟨i, x', m, (hpool i).2 (.inl rfl), hx', by rw [hsl, <- w5]; exact s3, by rw [c4]; simp [s4], by rw [<- c3]; exact s5⟩
              · rw [c1] at s2; cases s2
            · exact ⟨i, y, m, (hpool i).2 (.inr s1), (hoth i e2).trans s2, s3, by simp [e2, s4], s5⟩
          · exact ⟨id, x', n, (hpool id).2 (.inl rfl), hx', hn, by simp, ha⟩
      · rw [if_neg e]
        have : ∀ i, T.pool q i = true -> i ≠ id := hoid q hq e
        constructor
        · rintro ⟨i, y, m, s1, s2, s3, s4, s5⟩
          have e2 := this i s1
          simp only [e2, if_false] at s4
          exact .inl ⟨i, y, m, s1, (hoth i e2).symm.trans s2, s3, s4, s5⟩
        · rintro (⟨i, y, m, s1, s2, s3, s4, s5⟩ | ⟨e3, _⟩)
          · have e2 := this i s1
            exact ⟨i, y, m, s1, (hoth i e2).trans s2, s3, by simp [e2, s4], s5⟩
          · exact absurd e3 e
    rw [hold, h.us q hq z]
    constructor
    · rintro ((h1 | h1) | h1)
      · exact .inl (.inl h1)
      · exact .inr h1
      · exact .inl (.inr h1)
    · rintro ((h1 | h1) | h1)
      · exact .inl (.inl h1)
      · exact .inr h1
      · exact .inl (.inr h1)
  · show (if k = 4 * p + o then T.row (4 * p + o) ++ [a] else T.row k).Nodup
    by_cases e : k = 4 * p + o
    · rw [if_pos e]
      exact List.nodup_append.2 ⟨h.nd _, (by simp), fun y hy z hz => by rw [List.mem_singleton] at hz; subst hz; exact fun e2 => hnr p hp (e2 ▸ hy)⟩
    · rw [if_neg e]; exact h.nd k
  · rcases (hrow r q hq z).1 z1 with y1 | ⟨e1, e2, e3⟩
    · rcases (hrow t q hq z).1 z2 with y2 | ⟨e1, e2, e3⟩
      · exact h.dj q r t z hq hr ht y1 y2
      · subst e2; subst e3; exact absurd y1 (hnr r hr)
    · rcases (hrow t q hq z).1 z2 with y2 | ⟨e4, e5, e6⟩
      · subst e2; subst e3; exact absurd y2 (hnr t ht)
      · rw [e1, e4]
  · rcases (hrow r q hq z).1 hz with hz | ⟨_, _, e3⟩
    · exact h.ro q r z hq hr hz
    · rw [e3]; exact hno
  · rcases h.ou z k hz with h1 | ⟨i, y, j, h1, h2, h3, h4, h5⟩
    · exact .inl h1
    · refine .inr ⟨i, y, j, h1, h2, h3, (hoth i fun e => ?_).trans h4, h5⟩
      subst e
      rcases hc with ⟨c1, _⟩ | ⟨c1, _⟩
      · obtain ⟨w, w1, _, _, _, w5, _⟩ := h.po o ho i c1
        rw [h4] at w1; cases w1
        obtain ⟨_, _, _, h9, _⟩ := h5
        omega
      · rw [c1] at h4; cases h4
  · by_cases e : i = id
    · subst e
      exact .inl ⟨o, ho, by show (if o = o then pool' else T.pool o) i = true; rw [if_pos rfl]; exact (hpool i).2 (.inl rfl)⟩
    · rw [hoth i e] at hy
      rcases h.al i y hy with ⟨q, hq, h1⟩ | ⟨h1, i2, y2, j, h2, h3, h4, h5, h6⟩
      · refine .inl ⟨q, hq, ?_⟩
        show (if q = o then pool' else T.pool q) i = true
        by_cases e2 : q = o
        · subst e2; rw [if_pos rfl]; exact (hpool i).2 (.inr h1)
        · rw [if_neg e2]; exact h1
      · refine .inr ⟨h1, i2, y2, j, h2, h3, h4, (hoth i2 fun e2 => ?_).trans h5, h6⟩
        subst e2
        rcases hc with ⟨c1, _⟩ | ⟨c1, _⟩
        · obtain ⟨w, w1, _, _, _, w5, _⟩ := h.po o ho i2 c1
          rw [h5] at w1; cases w1
          obtain ⟨_, _, _, h9, _⟩ := h6
          omega
        · rw [c1] at h5; cases h5
  · show (((if 4 * r + q = 4 * p + o then T.row (4 * p + o) ++ [a] else T.row (4 * r + q)).length : Nat) : Int) * byO q <= _
    by_cases e : 4 * r + q = 4 * p + o
    · obtain ⟨rfl, rfl⟩ := rowk ho hq e
      rw [if_pos rfl, List.length_append, List.length_singleton, Int.natCast_add, Int.add_mul]
      simpa using hlen
    · rw [if_neg e]; exact h.ln q r hq hr
end
end Go.Sh

set_option linter.all false
set_option maxRecDepth 8000
set_option maxHeartbeats 4000000
namespace Go.Sh
section
variable {T : ST} {U : UB} {B B' : Int} {o p : Nat} {a : Int} {l : List Int}
theorem StI.slotOwn (h : StI T U B) {q : Nat} (hq : q < 4) {z : Int} {i : Int} {y : Nat × SI} {m : Nat} (s1 : T.pool q i = true) (s2 : T.S.sp i = some y) (s3 : (m : Int) < y.2.slots) (s5 : z = y.2.base + m * byO q) : T.S.own (z / 8192) = i /\ y.2.base <= z /\ z < y.2.base + y.2.pages * 8192 := by
  obtain ⟨w, z1, _, _, _, z5, z6, _⟩ := h.po q hq i s1
  rw [s2] at z1; cases z1
  have hs := slot_in (S := T.S) hq z5 z6 s3
  have := (byO_bnd hq).1
  exact ⟨span_own h.inv s2 (by rw [s5]; exact hs.1) (by rw [s5]; omega), by rw [s5]; exact hs.1, by rw [s5]; omega⟩
theorem StI.slotOrder (h : StI T U B) {q r : Nat} (hq : q < 4) (hr : r < 4) {z : Int} (h1 : Slot T.S (T.pool q) U q z) (h2 : Slot T.S (T.pool r) U r z) : q = r := by
  obtain ⟨i, y, m, s1, s2, s3, s4, s5⟩ := h1
  obtain ⟨i', y', m', t1, t2, t3, t4, t5⟩ := h2
  obtain rfl : i = i' := (h.slotOwn hq s1 s2 s3 s5).1.symm.trans (h.slotOwn hr t1 t2 t3 t5).1
  obtain ⟨w, w1, _, _, w4, _⟩ := h.po q hq i s1
  obtain ⟨v, v1, _, _, v4, _⟩ := h.po r hr i t1
  rw [w1] at v1; cases v1
  exact byO_inj hq hr (w4.symm.trans v4)
theorem StI.rowDrop (h : StI T U B) (ho : o < 4) (hp : p < 64) (hl : T.row (4 * p + o) = l ++ [a]) {q r : Nat} (hq : q < 4) (hr : r < 64) {z : Int} :
    z ∈ (fun j => if j = 4 * p + o then l else T.row j) (4 * r + q) ↔ z ∈ T.row (4 * r + q) /\ z ≠ a := by
  have ham : a ∈ T.row (4 * p + o) := by rw [hl]; simp
  have hsa := (h.us o ho a).2 (.inl ⟨p, hp, ham⟩)
  show z ∈ (if 4 * r + q = 4 * p + o then l else T.row (4 * r + q)) ↔ _
  by_cases e : 4 * r + q = 4 * p + o
  · obtain ⟨rfl, rfl⟩ := rowk ho hq e
    rw [if_pos rfl]
    have hn := h.nd (4 * r + q)
    rw [hl] at hn
    have hn := List.nodup_append.1 hn
    constructor
    · intro hz
      exact ⟨by rw [hl]; simp [hz], fun e2 => hn.2.2 z hz a (by simp) e2⟩
    · rintro ⟨hz, e2⟩
      rw [hl] at hz
      rcases List.mem_append.1 hz with hz | hz
      · exact hz
      · simp at hz; exact absurd hz e2
  · rw [if_neg e]
    refine ⟨fun hz => ⟨hz, fun e2 => ?_⟩, fun hz => hz.1⟩
    subst e2
    have : o = q := h.slotOrder ho hq hsa ((h.us q hq z).2 (.inl ⟨r, hr, hz⟩))
    subst this
    have := h.dj o p r z ho hp hr ham hz
    subst this
    exact e rfl
theorem row_sub {q r : Nat} {z : Int} (hz : z ∈ (fun j => if j = 4 * p + o then l else T.row j) (4 * r + q)) (hs : ∀ z ∈ l, z ∈ T.row (4 * p + o)) : z ∈ T.row (4 * r + q) := by
  have hz : z ∈ (if 4 * r + q = 4 * p + o then l else T.row (4 * r + q)) := hz
  split at hz
  · rename_i e; rw [e]; exact hs z hz
  · exact hz
theorem StI.popout (h : StI T U B) (ho : o < 4) (hp : p < 64) (hl : T.row (4 * p + o) = l ++ [a]) : StI { T with row := fun j => if j = 4 * p + o then l else T.row j, out := fun x => if x = a then some (byO o) else T.out x } U B := by
  have ham : a ∈ T.row (4 * p + o) := by rw [hl]; simp
  have hna := h.ro o p a ho hp ham
  have hsub : ∀ z ∈ l, z ∈ T.row (4 * p + o) := fun z hz => by rw [hl]; simp [hz]
  have hnd := h.nd (4 * p + o)
  rw [hl] at hnd
  refine ⟨h.inv, h.la, h.po, fun q hq z => ?_, fun k => ?_, fun q r t z hq hr ht z1 z2 => ?_, fun q r z hq hr hz => ?_, fun z k hz => ?_, fun i y hy => ?_, fun q r hq hr => ?_⟩
  · have hex : (∃ r, r < 64 /\ z ∈ (fun j => if j = 4 * p + o then l else T.row j) (4 * r + q)) ↔ (∃ r, r < 64 /\ z ∈ T.row (4 * r + q)) /\ z ≠ a := by
      constructor
      · rintro ⟨r, hr, hz⟩
        have := (h.rowDrop ho hp hl hq hr).1 hz
        exact ⟨⟨r, hr, this.1⟩, this.2⟩
      · rintro ⟨⟨r, hr, hz⟩, e⟩
        exact ⟨r, hr, (h.rowDrop ho hp hl hq hr).2 ⟨hz, e⟩⟩
    show Slot T.S (T.pool q) U q z ↔ (∃ r, r < 64 /\ z ∈ (fun j => if j = 4 * p + o then l else T.row j) (4 * r + q)) ∨ (if z = a then some (byO o) else T.out z) = some (byO q)
    rw [hex, h.us q hq z]
    by_cases e : z = a
    · subst e
      rw [if_pos rfl, hna]
      constructor
      · rintro (⟨r, hr, hz⟩ | hz)
        · have := h.slotOrder ho hq ((h.us o ho z).2 (.inl ⟨p, hp, ham⟩)) ((h.us q hq z).2 (.inl ⟨r, hr, hz⟩))
          exact .inr (by rw [this])
        · cases hz
      · rintro (⟨_, h1⟩ | h1)
        · exact absurd rfl h1
        · have : o = q := byO_inj ho hq (Option.some.inj h1)
          subst this
          exact .inl ⟨p, hp, ham⟩
    · rw [if_neg e]
      constructor
      · rintro (h1 | h1)
        · exact .inl ⟨h1, e⟩
        · exact .inr h1
      · rintro (h1 | h1)
        · exact .inl h1.1
        · exact .inr h1
  · show (if k = 4 * p + o then l else T.row k).Nodup
    split
    · exact (List.nodup_append.1 hnd).1
    · exact h.nd k
  · exact h.dj q r t z hq hr ht (row_sub z1 hsub) (row_sub z2 hsub)
  · have h1 := (h.rowDrop ho hp hl hq hr).1 hz
    show (if z = a then some (byO o) else T.out z) = none
    rw [if_neg h1.2]
    exact h.ro q r z hq hr h1.1
  · have hz : (if z = a then some (byO o) else T.out z) = some k := hz
    by_cases e : z = a
    · rw [if_pos e] at hz; cases hz; exact .inl ⟨o, ho, rfl⟩
    · rw [if_neg e] at hz; exact h.ou z k hz
  · rcases h.al i y hy with h1 | ⟨h1, h2⟩
    · exact .inl h1
    · refine .inr ⟨?_, h2⟩
      show (if y.2.base = a then some (byO o) else T.out y.2.base) = _
      rw [if_neg (fun e => by rw [e, hna] at h1; cases h1)]
      exact h1
  · show (((if 4 * r + q = 4 * p + o then l else T.row (4 * r + q)).length : Nat) : Int) * byO q <= _
    have hb := byO_bnd hq
    have := h.ln q r hq hr
    by_cases e : 4 * r + q = 4 * p + o
    · rw [if_pos e]
      rw [e, hl, List.length_append, List.length_singleton, Int.natCast_add, Int.add_mul] at this
      have e1 : ((1 : Nat) : Int) * byO q = byO q := by simp
      rw [e1] at this
      omega
    · rw [if_neg e]; exact this
theorem StI.pushed (h : StI T U B) (ho : o < 4) (hp : p < 64) (hout : T.out a = some (byO o)) (hlen : ((T.row (4 * p + o)).length : Int) * byO o + byO o <= 32768) :
    StI { T with row := fun j => if j = 4 * p + o then T.row (4 * p + o) ++ [a] else T.row j, out := fun x => if x = a then none else T.out x } U B := by
  have hnr : ∀ q r, q < 4 -> r < 64 -> a ∉ T.row (4 * r + q) := fun q r hq hr hm => by rw [h.ro q r a hq hr hm] at hout; cases hout
  have hrow : ∀ q r, q < 4 -> ∀ z, (z ∈ (fun j => if j = 4 * p + o then T.row (4 * p + o) ++ [a] else T.row j) (4 * r + q) ↔ z ∈ T.row (4 * r + q) ∨ (r = p /\ q = o /\ z = a)) := fun q r hq z => by
    show z ∈ (if 4 * r + q = 4 * p + o then T.row (4 * p + o) ++ [a] else T.row (4 * r + q)) ↔ _
    by_cases e : 4 * r + q = 4 * p + o
    · obtain ⟨rfl, rfl⟩ := rowk ho hq e
      rw [if_pos rfl, List.mem_append, List.mem_singleton]; simp
    · rw [if_neg e]
      constructor
      · exact .inl
      · rintro (h | ⟨rfl, rfl, _⟩)
        · exact h
        · exact absurd rfl e
  refine ⟨h.inv, h.la, h.po, fun q hq z => ?_, fun k => ?_, fun q r t z hq hr ht z1 z2 => ?_, fun q r z hq hr hz => ?_, fun z k hz => ?_, fun i y hy => ?_, fun q r hq hr => ?_⟩
  · have hex : (∃ r, r < 64 /\ z ∈ (fun j => if j = 4 * p + o then T.row (4 * p + o) ++ [a] else T.row j) (4 * r + q)) ↔ (∃ r, r < 64 /\ z ∈ T.row (4 * r + q)) ∨ (q = o /\ z = a) := by
      constructor
      · rintro ⟨r, hr, hz⟩
        rcases (hrow q r hq z).1 hz with h1 | ⟨_, h2, h3⟩
        · exact .inl ⟨r, hr, h1⟩
        · exact .inr ⟨h2, h3⟩
      · rintro (⟨r, hr, hz⟩ | ⟨h2, h3⟩)
        · exact ⟨r, hr, (hrow q r hq z).2 (.inl hz)⟩
        · exact ⟨p, hp, (hrow q p hq z).2 (.inr ⟨rfl, h2, h3⟩)⟩
    show Slot T.S (T.pool q) U q z ↔ (∃ r, r < 64 /\ z ∈ (fun j => if j = 4 * p + o then T.row (4 * p + o) ++ [a] else T.row j) (4 * r + q)) ∨ (if z = a then none else T.out z) = some (byO q)
    rw [hex, h.us q hq z]
    by_cases e : z = a
    · subst e
      rw [if_pos rfl, hout]
      constructor
      · rintro (h1 | h1)
        · exact .inl (.inl h1)
        · exact .inl (.inr ⟨(byO_inj ho hq (Option.some.inj h1)).symm, rfl⟩)
      · rintro ((h1 | ⟨h1, _⟩) | h1)
        · exact .inl h1
        · exact .inr (by rw [h1])
        · cases h1
    · rw [if_neg e]
      constructor
      · rintro (h1 | h1)
        · exact .inl (.inl h1)
        · exact .inr h1
      · rintro ((h1 | ⟨_, h1⟩) | h1)
        · exact .inl h1
        · exact absurd h1 e
        · exact .inr h1
  · show (if k = 4 * p + o then T.row (4 * p + o) ++ [a] else T.row k).Nodup
    split
    · exact List.nodup_append.2 ⟨h.nd _, by simp, fun y hy z hz e => by simp at hz; rw [e, hz] at hy; exact hnr o p ho hp hy⟩
    · exact h.nd k
  · rcases (hrow q r hq z).1 z1 with y1 | ⟨e1, e2, e3⟩
    · rcases (hrow q t hq z).1 z2 with y2 | ⟨e4, e5, e6⟩
      · exact h.dj q r t z hq hr ht y1 y2
      · rw [e6] at y1; exact absurd y1 (hnr q r hq hr)
    · rcases (hrow q t hq z).1 z2 with y2 | ⟨e4, e5, e6⟩
      · rw [e3] at y2; exact absurd y2 (hnr q t hq ht)
      · rw [e1, e4]
  · show (if z = a then none else T.out z) = none
    split
    · rfl
    · rename_i e
      rcases (hrow q r hq z).1 hz with h1 | ⟨_, _, h3⟩
      · exact h.ro q r z hq hr h1
      · exact absurd h3 e
  · have hz : (if z = a then none else T.out z) = some k := hz
    by_cases e : z = a
    · rw [if_pos e] at hz; cases hz
    · rw [if_neg e] at hz; exact h.ou z k hz
  · rcases h.al i y hy with h1 | ⟨h1, h2⟩
    · exact .inl h1
    · refine .inr ⟨?_, h2⟩
      show (if y.2.base = a then none else T.out y.2.base) = _
      rw [if_neg (fun e => ?_)]
      · exact h1
      · rw [e, hout] at h1
        have h1 := Option.some.inj h1
        obtain ⟨_, _, j, h4, _, h5, _⟩ := h2
        have hp : (2 : Int) ^ 4 <= 2 ^ j := by
          have := Nat.pow_le_pow_right (n := 2) (by decide) h4
          exact_mod_cast this
        have := byO_bnd ho
        omega
  · show (((if 4 * r + q = 4 * p + o then T.row (4 * p + o) ++ [a] else T.row (4 * r + q)).length : Nat) : Int) * byO q <= _
    by_cases e : 4 * r + q = 4 * p + o
    · obtain ⟨rfl, rfl⟩ := rowk ho hq e
      rw [if_pos rfl, List.length_append, List.length_singleton, Int.natCast_add, Int.add_mul]
      simpa using hlen
    · rw [if_neg e]; exact h.ln q r hq hr
theorem StI.gave (h : StI T U B) (ho : o < 4) (hp : p < 64) (hl : T.row (4 * p + o) = l ++ [a]) {S' : HS} {pool' : Int -> Bool} {id : Int} {n : Nat} {x : Nat × SI}
    (hI' : HInv S' no) (hla : ∃ b, LaidB S' b /\ b <= B') (hx : T.S.sp id = some x) (hpo : T.pool o id = true) (hn : (n : Int) < x.2.slots) (hun : U id n = true) (ha : a = x.2.base + n * byO o) (hoth : ∀ i, i ≠ id -> S'.sp i = T.S.sp i)
    (hc : ((∃ x', S'.sp id = some x' /\ x'.2.base = x.2.base /\ x'.2.slots = x.2.slots /\ Pooled S' (fun i => if i = id then (fun m => U id m && !(m == n)) else U i) o id) /\ ∀ i, pool' i = true ↔ T.pool o i = true) ∨
      (S'.sp id = none /\ (∀ m, (U id m && !(m == n)) = false) /\ ∀ i, pool' i = true ↔ i ≠ id /\ T.pool o i = true)) :
    StI { T with S := S', pool := fun j => if j = o then pool' else T.pool j, row := fun j => if j = 4 * p + o then l else T.row j } (fun i => if i = id then (fun m => U id m && !(m == n)) else U i) B' := by
  have ham : a ∈ T.row (4 * p + o) := by rw [hl]; simp
  have hna := h.ro o p a ho hp ham
  have hsub : ∀ z ∈ l, z ∈ T.row (4 * p + o) := fun z hz => by rw [hl]; simp [hz]
  have hnd := h.nd (4 * p + o)
  rw [hl] at hnd
  have hbo := byO_bnd ho
  have hoid : ∀ q, q < 4 -> q ≠ o -> ∀ i, T.pool q i = true -> i ≠ id := fun q hq hqo i hi e => by
    subst e
    obtain ⟨y, y1, _, _, y4, _⟩ := h.po q hq i hi
    obtain ⟨z, z1, _, _, z4, _⟩ := h.po o ho i hpo
    rw [y1] at z1; cases z1
    exact hqo (byO_inj hq ho (y4.symm.trans z4))
  have hsub2 : ∀ i, pool' i = true -> T.pool o i = true := fun i hi => by
    rcases hc with ⟨_, c2⟩ | ⟨_, _, c3⟩
    · exact (c2 i).1 hi
    · exact ((c3 i).1 hi).2
  have hback : ∀ i, i ≠ id -> T.pool o i = true -> pool' i = true := fun i e hi => by
    rcases hc with ⟨_, c2⟩ | ⟨_, _, c3⟩
    · exact (c2 i).2 hi
    · exact (c3 i).2 ⟨e, hi⟩
  obtain ⟨x0, p1, _, _, _, p5, p6, _⟩ := h.po o ho id hpo
  rw [hx] at p1; cases p1
  have hoa := h.slotOwn ho hpo hx hn ha
  have hlid : ∀ z k, Large T.S z k -> ∀ i y, T.S.sp i = some y -> y.2.base = z -> y.2.slots = 1 -> i ≠ id := fun z k _ i y hy _ h1 e => by
    subst e
    rw [hx] at hy; cases hy
    omega
  refine ⟨hI', hla, fun q hq i hi => ?_, fun q hq z => ?_, fun k => ?_, fun q r t z hq hr ht z1 z2 => ?_, fun q r z hq hr hz => ?_, fun z k hz => ?_, fun i y hy => ?_, fun q r hq hr => ?_⟩
  · have hi : (if q = o then pool' else T.pool q) i = true := hi
    by_cases e : q = o
    · subst e
      rw [if_pos rfl] at hi
      by_cases e2 : i = id
      · subst e2
        rcases hc with ⟨⟨_, _, _, _, c4⟩, _⟩ | ⟨_, _, c3⟩
        · exact c4
        · exact absurd rfl ((c3 i).1 hi).1
      · obtain ⟨y, y1, y2⟩ := h.po q hq i (hsub2 i hi)
        exact ⟨y, (hoth i e2).trans y1, by simpa [e2] using y2⟩
    · rw [if_neg e] at hi
      have e2 := hoid q hq e i hi
      obtain ⟨y, y1, y2⟩ := h.po q hq i hi
      exact ⟨y, (hoth i e2).trans y1, by simpa [e2] using y2⟩
  · have hex : (∃ r, r < 64 /\ z ∈ (fun j => if j = 4 * p + o then l else T.row j) (4 * r + q)) ↔ (∃ r, r < 64 /\ z ∈ T.row (4 * r + q)) /\ z ≠ a := by
      constructor
      · rintro ⟨r, hr, hz⟩
        have := (h.rowDrop ho hp hl hq hr).1 hz
        exact ⟨⟨r, hr, this.1⟩, this.2⟩
      · rintro ⟨⟨r, hr, hz⟩, e⟩
        exact ⟨r, hr, (h.rowDrop ho hp hl hq hr).2 ⟨hz, e⟩⟩
    have hold : Slot S' (if q = o then pool' else T.pool q) (fun i => if i = id then (fun m => U id m && !(m == n)) else U i) q z ↔ Slot T.S (T.pool q) U q z /\ z ≠ a := by
      by_cases e : q = o
      · subst e
        rw [if_pos rfl]
        constructor
        · rintro ⟨i, y, m, s1, s2, s3, s4, s5⟩
          by_cases e2 : i = id
          · subst e2
            simp only [if_true, Bool.and_eq_true, Bool.not_eq_true', beq_eq_false_iff_ne] at s4
            rcases hc with ⟨⟨x', c1, c2, c3, _⟩, _⟩ | ⟨c1, _⟩
            · rw [c1] at s2; cases s2
              refine ⟨⟨i, x, m, hpo, hx, by rw [<- c3]; exact s3, s4.1, by rw [<- c2]; exact s5⟩, fun e => s4.2 ?_⟩
              rw [e, ha, c2] at s5
              have : (n : Int) * byO q = (m : Int) * byO q := by omega
              have := Int.eq_of_mul_eq_mul_right (by omega) this
              omega
            · rw [c1] at s2; cases s2
          · simp only [e2, if_false] at s4
            have s2' := (hoth i e2).symm.trans s2
            refine ⟨⟨i, y, m, hsub2 i s1, s2', s3, s4, s5⟩, fun e => e2 ?_⟩
            have := (h.slotOwn hq (hsub2 i s1) s2' s3 s5).1
            rw [e] at this
            exact this.symm.trans hoa.1
        · rintro ⟨⟨i, y, m, s1, s2, s3, s4, s5⟩, e⟩
          by_cases e2 : i = id
          · subst e2
            rw [hx] at s2; cases s2
            have hm : m ≠ n := fun e3 => e (by rw [s5, ha, e3])
            have s4' : (U i m && !(m == n)) = true := by simp [s4, hm]
            rcases hc with ⟨⟨x', c1, c2, c3, _⟩, c5⟩ | ⟨_, c2, _⟩
            · exact ⟨i, x', m, (c5 i).2 s1, c1, by rw [c3]; exact s3, by simpa using s4', by rw [c2]; exact s5⟩
            · rw [c2] at s4'; cases s4'
          · exact ⟨i, y, m, hback i e2 s1, (hoth i e2).trans s2, s3, by simp [e2, s4], s5⟩
      · rw [if_neg e]
        have hi := hoid q hq e
        constructor
        · rintro ⟨i, y, m, s1, s2, s3, s4, s5⟩
          have e2 := hi i s1
          simp only [e2, if_false] at s4
          have s2' := (hoth i e2).symm.trans s2
          refine ⟨⟨i, y, m, s1, s2', s3, s4, s5⟩, fun e3 => e2 ?_⟩
          have := (h.slotOwn hq s1 s2' s3 s5).1
          rw [e3] at this
          exact this.symm.trans hoa.1
        · rintro ⟨⟨i, y, m, s1, s2, s3, s4, s5⟩, _⟩
          have e2 := hi i s1
          exact ⟨i, y, m, s1, (hoth i e2).trans s2, s3, by simp [e2, s4], s5⟩
    show Slot S' (if q = o then pool' else T.pool q) _ q z ↔ (∃ r, r < 64 /\ z ∈ (fun j => if j = 4 * p + o then l else T.row j) (4 * r + q)) ∨ T.out z = some (byO q)
    rw [hold, hex, h.us q hq z]
    constructor
    · rintro ⟨h1 | h1, e⟩
      · exact .inl ⟨h1, e⟩
      · exact .inr h1
    · rintro (⟨h1, e⟩ | h1)
      · exact ⟨.inl h1, e⟩
      · exact ⟨.inr h1, fun e => by rw [e, hna] at h1; cases h1⟩
  · show (if k = 4 * p + o then l else T.row k).Nodup
    split
    · exact (List.nodup_append.1 hnd).1
    · exact h.nd k
  · exact h.dj q r t z hq hr ht (row_sub z1 hsub) (row_sub z2 hsub)
  · exact h.ro q r z hq hr (row_sub hz hsub)
  · rcases h.ou z k hz with h1 | ⟨i, y, j, h1, h2, h3, h4, h5, h6, h7, h8, h9⟩
    · exact .inl h1
    · exact .inr ⟨i, y, j, h1, h2, h3, (hoth i fun e => by subst e; rw [hx] at h4; cases h4; omega).trans h4, h5, h6, h7, h8, h9⟩
  · by_cases e : i = id
    · subst e
      rcases hc with ⟨_, c5⟩ | ⟨c1, _⟩
      · exact .inl ⟨o, ho, by show (if o = o then pool' else T.pool o) i = true; rw [if_pos rfl]; exact (c5 i).2 hpo⟩
      · rw [c1] at hy; cases hy
    · rw [hoth i e] at hy
      rcases h.al i y hy with ⟨q, hq, h1⟩ | ⟨h1, i2, y2, j, h2, h3, h4, h5, h6, h7, h8, h9, h10⟩
      · refine .inl ⟨q, hq, ?_⟩
        show (if q = o then pool' else T.pool q) i = true
        by_cases e2 : q = o
        · subst e2; rw [if_pos rfl]; exact hback i e h1
        · rw [if_neg e2]; exact h1
      · exact .inr ⟨h1, i2, y2, j, h2, h3, h4, (hoth i2 fun e => by subst e; rw [hx] at h5; cases h5; omega).trans h5, h6, h7, h8, h9, h10⟩
  · show (((if 4 * r + q = 4 * p + o then l else T.row (4 * r + q)).length : Nat) : Int) * byO q <= _
    have hb := byO_bnd hq
    have := h.ln q r hq hr
    by_cases e : 4 * r + q = 4 * p + o
    · rw [if_pos e]
      rw [e, hl, List.length_append, List.length_singleton, Int.natCast_add, Int.add_mul] at this
      have e1 : ((1 : Nat) : Int) * byO q = byO q := by simp
      rw [e1] at this
      omega
    · rw [if_neg e]; exact this
theorem StI.lalloc (h : StI T U B) {S' : HS} {id n : Int} {x' : Nat × SI} (hI' : HInv S' no) (hla : ∃ b, LaidB S' b /\ b <= B') (hx' : S'.sp id = some x') (hnone : T.S.sp id = none) (hoth : ∀ i, i ≠ id -> S'.sp i = T.S.sp i) {j : Nat} (hj : 4 <= j) (hj2 : j <= 15) (hn : n = 2048 * 2 ^ j)
    (hb : x'.2.base = a) (hpg : x'.2.pages * 8192 = n) (hst : x'.2.state = 2) (hsl : x'.2.slots = 1) (hsu : SpU x'.2 fun k => decide (k < 1)) : T.out a = none /\ StI { T with S := S', out := fun x => if x = a then some n else T.out x } U B' := by
  have hp : (2 : Int) ^ 4 <= 2 ^ j := by
    have := Nat.pow_le_pow_right (n := 2) (by decide) hj
    exact_mod_cast this
  have hne : ∀ i y, T.S.sp i = some y -> i ≠ id := fun i y hy e => by rw [e, hnone] at hy; cases hy
  have hown : S'.own (a / 8192) = id := span_own hI' hx' (by omega) (by omega)
  have hnew : ∀ i y, T.S.sp i = some y -> y.2.base <= a -> a < y.2.base + y.2.pages * 8192 -> False := fun i y hy y1 y2 => by
    have := span_own hI' (id := i) ((hoth i (hne i y hy)).trans hy) y1 y2
    exact hne i y hy (this.symm.trans hown)
  have hns : ∀ q, q < 4 -> ¬ Slot T.S (T.pool q) U q a := fun q hq ⟨i, y, m, s1, s2, s3, s4, s5⟩ => by
    have := h.slotOwn hq s1 s2 s3 s5
    exact hnew i y s2 this.2.1 this.2.2
  have hno : T.out a = none := by
    cases hout : T.out a with
    | none => rfl
    | some k =>
      obtain ⟨i, y, q1, q2, q3, q4, _⟩ := h.place hout
      exact (hnew i y q1 q2 (by omega)).elim
  refine ⟨hno, hI', hla, fun q hq i hi => ?_, fun q hq z => ?_, h.nd, h.dj, fun q r z hq hr hz => ?_, fun z k hz => ?_, fun i y hy => ?_, h.ln⟩
  · obtain ⟨y, y1, y2⟩ := h.po q hq i hi
    exact ⟨y, (hoth i (hne i y y1)).trans y1, y2⟩
  · have hold : Slot S' (T.pool q) U q z ↔ Slot T.S (T.pool q) U q z := by
      constructor
      · rintro ⟨i, y, m, s1, s2, s3⟩
        obtain ⟨y', y1, _⟩ := h.po q hq i s1
        exact ⟨i, y, m, s1, (hoth i (hne i y' y1)).symm.trans s2, s3⟩
      · rintro ⟨i, y, m, s1, s2, s3⟩
        exact ⟨i, y, m, s1, (hoth i (hne i y s2)).trans s2, s3⟩
    show Slot S' (T.pool q) U q z ↔ _ ∨ (if z = a then some n else T.out z) = some (byO q)
    rw [hold, h.us q hq z]
    by_cases e : z = a
    · subst e
      rw [if_pos rfl, hno]
      have hb := byO_bnd hq
      constructor
      · rintro (h1 | h1)
        · exact .inl h1
        · cases h1
      · rintro (h1 | h1)
        · exact .inl h1
        · have := Option.some.inj h1; omega
    · rw [if_neg e]
  · show (if z = a then some n else T.out z) = none
    rw [if_neg (show ¬ z = a from fun e => hns q hq ((h.us q hq a).2 (.inl ⟨r, hr, by rw [<- e]; exact hz⟩)))]
    exact h.ro q r z hq hr hz
  · have hz : (if z = a then some n else T.out z) = some k := hz
    by_cases e : z = a
    · rw [if_pos e] at hz; cases hz
      exact .inr ⟨id, x', j, hj, hj2, hn, hx', hb.trans e.symm, hpg, hst, hsl, hsu⟩
    · rw [if_neg e] at hz
      rcases h.ou z k hz with h1 | ⟨i, y, j, h1, h2, h3, h4, h5⟩
      · exact .inl h1
      · exact .inr ⟨i, y, j, h1, h2, h3, (hoth i (hne i y h4)).trans h4, h5⟩
  · by_cases e : i = id
    · subst e
      rw [hx'] at hy; cases hy
      refine .inr ⟨?_, i, x', j, hj, hj2, hpg.trans hn, hx', rfl, rfl, hst, hsl, hsu⟩
      show (if x'.2.base = a then some n else T.out x'.2.base) = _
      rw [if_pos hb, hpg]
    · rw [hoth i e] at hy
      rcases h.al i y hy with h1 | ⟨h1, i2, y2, j, h2, h3, h4, h5, h6⟩
      · exact .inl h1
      · refine .inr ⟨?_, i2, y2, j, h2, h3, h4, (hoth i2 (hne i2 y2 h5)).trans h5, h6⟩
        show (if y.2.base = a then some n else T.out y.2.base) = _
        rw [if_neg fun e2 => by rw [e2, hno] at h1; cases h1]
        exact h1
theorem StI.lfree (h : StI T U B) {S' : HS} {id n : Int} {x : Nat × SI} (hI' : HInv S' no) (hla : ∃ b, LaidB S' b /\ b <= B') (hout : T.out a = some n) (hx : T.S.sp id = some x) (hb : x.2.base = a) (hpg : x.2.pages * 8192 = n) (hsl : x.2.slots = 1) (hn : 32768 <= n) (hnone : S'.sp id = none) (hoth : ∀ i, i ≠ id -> S'.sp i = T.S.sp i) :
    StI { T with S := S', out := fun x => if x = a then none else T.out x } U B' := by
  have hpi : ∀ q, q < 4 -> ∀ i, T.pool q i = true -> i ≠ id := fun q hq i hi e => by
    subst e
    obtain ⟨y, y1, _, _, _, y5, _⟩ := h.po q hq i hi
    rw [hx] at y1; cases y1
    have := byO_bnd hq
    omega
  have hbi : ∀ i y, T.S.sp i = some y -> 0 < y.2.pages -> y.2.base = a -> i = id := fun i y hy hp0 e => by
    rw [<- span_own h.inv hy (z := a) (by omega) (by omega), <- span_own h.inv hx (z := a) (by omega) (by omega)]
  refine ⟨hI', hla, fun q hq i hi => ?_, fun q hq z => ?_, h.nd, h.dj, fun q r z hq hr hz => ?_, fun z k hz => ?_, fun i y hy => ?_, h.ln⟩
  · obtain ⟨y, y1, y2⟩ := h.po q hq i hi
    exact ⟨y, (hoth i (hpi q hq i hi)).trans y1, y2⟩
  · have hold : Slot S' (T.pool q) U q z ↔ Slot T.S (T.pool q) U q z := by
      constructor
      · rintro ⟨i, y, m, s1, s2, s3⟩
        exact ⟨i, y, m, s1, (hoth i (hpi q hq i s1)).symm.trans s2, s3⟩
      · rintro ⟨i, y, m, s1, s2, s3⟩
        exact ⟨i, y, m, s1, (hoth i (hpi q hq i s1)).trans s2, s3⟩
    show Slot S' (T.pool q) U q z ↔ _ ∨ (if z = a then none else T.out z) = some (byO q)
    rw [hold, h.us q hq z]
    by_cases e : z = a
    · subst e
      rw [if_pos rfl, hout]
      have hb := byO_bnd hq
      constructor
      · rintro (h1 | h1)
        · exact .inl h1
        · have := Option.some.inj h1; omega
      · rintro (h1 | h1)
        · exact .inl h1
        · cases h1
    · rw [if_neg e]
  · show (if z = a then none else T.out z) = none
    split
    · rfl
    · exact h.ro q r z hq hr hz
  · have hz : (if z = a then none else T.out z) = some k := hz
    by_cases e : z = a
    · rw [if_pos e] at hz; cases hz
    · rw [if_neg e] at hz
      rcases h.ou z k hz with h1 | ⟨i, y, j, h1, h2, h3, h4, h5, h6, h7⟩
      · exact .inl h1
      · refine .inr ⟨i, y, j, h1, h2, h3, (hoth i fun e2 => ?_).trans h4, h5, h6, h7⟩
        subst e2
        rw [hx] at h4; cases h4
        exact e (h5.symm.trans hb)
  · by_cases e : i = id
    · subst e; rw [hnone] at hy; cases hy
    · rw [hoth i e] at hy
      have hp0 := (h.inv.sp i y hy).2.2.1
      rcases h.al i y hy with h1 | ⟨h1, i2, y2, j, h2, h3, h4, h5, h6, h7, h8⟩
      · exact .inl h1
      · have h5p := (h.inv.sp i2 y2 h5).2.2.1
        refine .inr ⟨?_, i2, y2, j, h2, h3, h4, (hoth i2 fun e2 => ?_).trans h5, h6, h7, h8⟩
        · show (if y.2.base = a then none else T.out y.2.base) = _
          rw [if_neg fun e2 => e (hbi i y hy hp0 e2)]
          exact h1
        · subst e2
          rw [hx] at h5; cases h5
          exact e (hbi i y hy hp0 (h6.symm.trans hb))
end
end Go.Sh

set_option linter.all false
set_option maxRecDepth 8000
set_option maxHeartbeats 4000000
namespace Go.Sh
theorem pool_same {f : Nat -> Int -> Bool} {o : Nat} : (fun j => if j = o then f o else f j) = f := by
  funext j; split
  · rename_i e; rw [e]
  · rfl
theorem SpU.none {I : SI} {U : Nat -> Bool} (h : SpU I U) (h0 : I.used = 0) (m : Nat) : U m = false := by
  cases hm : U m with
  | false => rfl
  | true =>
    exfalso
    have := cN_clear hm 64
    have hl := h.lim m hm
    have hs := h.sl
    rw [if_pos (by omega)] at this
    have hc := h.cnt
    omega
theorem SpU.some {I : SI} {U : Nat -> Bool} (h : SpU I U) (h0 : I.used ≠ 0) : ∃ m, U m = true := by
  refine Classical.byContradiction fun g => h0 ?_
  have : U = fun _ => false := funext fun m => by
    cases hm : U m with
    | false => rfl
    | true => exact absurd ⟨m, hm⟩ g
  rw [h.cnt, this, cN_full (m := 0) (fun i => ⟨fun h => (by cases h), fun h => by omega⟩)]; rfl
section
variable {E : Env} {w : World} {Z : List Pr} {b h : Nat} {T Tr : ST} {g : SG} {U : UB} {B : Int} {o p : Nat} {a : Int} {l : List Int}
theorem stlen (H : Sat (stres E b h T g ++ Z) w) {k : Nat} (hk : k < 256) : (g.sl k).len = (T.row k).length := by
  obtain ⟨M, R, HR, _⟩ := H.stRow hk
  have := HR.rowLen
  simp only [ints, List.length_map] at this
  omega
theorem stok (H : Sat (stres E b h T g ++ Z) w) : HOk T.S := by
  obtain ⟨R, HH, _, _⟩ := H.stHeap
  exact HH.hok
theorem stpush_spec (H : Sat (stres E b h T g ++ Z) w) {k : Nat} (hk : k < 256) (hlen : (T.row k).length <= 1000) {K : World -> Prop}
    (hK : ∀ g' w', Sat (stres E b h { T with row := fun j => if j = k then T.row k ++ [a] else T.row j } g' ++ Z) w' -> K w') :
    ∃ x14 : SlV, w.cell? ((Addr.mk b 0 none).add (k + 1)) = some (.slice x14.base x14.len x14.cap) /\
            AL (.cells ⟨[.int .u64 a]⟩ E.t_uint64) w fun b15 w16 =>
            APP E.t_uint64 1 8 #[.int .u64 0] x14 ⟨(some (Addr.mk b15 0 none)), 1, 1⟩ w16 fun s17 w18 =>
            stCells ((Addr.mk b 0 none).add (k + 1)) 0 [.slice s17.base s17.len s17.cap] w18 fun w19 => K w19 := by
  refine ⟨_, (stcell H).2.1 _ hk, ?_⟩
  obtain ⟨M, R, HR, hb⟩ := H.stRow hk
  have hrl := HR.rowLen
  simp only [ints, List.length_map] at hrl
  refine AL_cells (vs := [.int .u64 a]) HR fun b15 w16 H16 _ => ?_
  refine APP_one (zs := #[.int .u64 0]) (bytes := 8) H16 rfl rfl (by simp [Value.oneCell']) (by show ((g.sl k).len + 1) * 8 <= _; omega) (by omega) fun s17 w18 H18 _ => ?_
  rw [show ints .u64 (T.row k) ++ [.int .u64 a] = ints .u64 (T.row k ++ [a]) by simp [ints]] at H18
  refine st_cell (H18.front 2 rfl) (v := slV s17) (o := 0) (m := k + 1) rfl (by rw [sc_len]; omega) fun w19 H19 => ?_
  rw [Nat.zero_add] at H19
  exact hK _ w19 (hb (s := s17) (l := T.row k ++ [a]) (H19.perm ((List.Perm.swap _ _ _).trans (.cons _ (.swap _ _ _)))))
theorem stpop2_spec (H : Sat (stres E b h T g ++ Z) w) {k : Nat} (hk : k < 256) (hl : T.row k = l ++ [a]) {K : Int -> World -> Prop}
    (hK : ∀ g' w', Sat (stres E b h { T with row := fun j => if j = k then l else T.row j } g' ++ Z) w' -> K a w') : F.stack_row_pop E (some ((Addr.mk b 0 none).add (k + 1))) K w := by
  obtain ⟨M, R, HR, hb⟩ := H.stRow hk
  rw [hl] at HR
  exact stpop_spec (sc_row _ _ _ _ hk) HR fun s' w' H' => hK _ w' (hb H')
variable (hE : EnvA E)
include hE
theorem sttake_gen (hT : ∀ w', Sat Z w' -> TabAt E.g_math_bits_deBruijn64tab w') (H : Sat (stres E b h T g ++ Z) w) (hI : StI T U B) (hB : B <= 34359737000) (ho : o < 4) (hp : p < 64) (hlen : ((T.row (4 * p + o)).length : Int) * byO o + byO o <= 32768) {K : Int -> Int -> World -> Prop}
    (hK : ∀ S' q V a w', StI { T with S := S', pool := fun j => if j = o then q else T.pool j, row := fun j => if j = 4 * p + o then T.row (4 * p + o) ++ [a] else T.row j } V (B + 512) ->
      Sat (stres E b h { T with S := S', pool := fun j => if j = o then q else T.pool j } g ++ Z) w' -> K a 0 w') : F.stack_Stacks_take E (some ⟨b, 0, none⟩) o K w := by
  have hbo := byO_bnd ho
  have hok := stok H
  obtain ⟨bb, hL, hbb⟩ := hI.la
  have hu4 : upN 4 = 512 := by decide
  refine sttake_spec hE hT H hI.inv ho hI.pl (U := U) (fun id x hid hx => ?_) (fun id x n hid hx hn hun hlow _ w' H' => ?_) (fun _ S2 hl => (hL.lost (by decide) (by rw [hu4]; omega) hl).elim) fun _ page S2 bl id X hf q0 q1 hX hI3 w' H' => ?_
  · obtain ⟨y, y1, y2, _, _, _, _, y3, _⟩ := hI.po o ho id hid
    rw [hx] at y1; cases y1
    exact ⟨y3, y2⟩
  · obtain ⟨y, y1, y2, y3, y4, y5, y6, y7, _⟩ := hI.po o ho id hid
    rw [hx] at y1; cases y1
    obtain ⟨k1, k2, k3, k4, k5⟩ := hI.inv.sp id x hx
    have l1 := hok.tv.lim _ (hI.inv.ow _ (show 0 < T.S.own (x.2.base / 8192) by rw [k5 _ (Int.le_refl _) (by omega)]; exact k1)).1
    have hs := y7.sl
    have hsb := byO_slots ho
    have hnn : (0 : Int) <= (n : Int) * byO o := Int.mul_nonneg (by omega) (by omega)
    have hn2 : (n : Int) * byO o <= 63 * 16384 := Int.mul_le_mul (by omega) (by omega) (by omega) (by decide)
    have ea : u64 (x.2.base + u64 (u64 n * u64 x.2.elem)) = x.2.base + n * byO o := by
      rw [y4, u64_id (n := (n : Int)) (by omega) (by omega), u64_id (n := byO o) (by omega) (by omega), u64_id (n := (n : Int) * byO o) (by omega) (by omega), u64_id (by omega) (by omega)]
    rw [ea]
    have hput := hI.inv.put (I := x.2.set (U id) n) hx rfl rfl (by show x.2.state ≠ 0; rw [y2]; decide)
    refine hK (T.S.put id (x.1, x.2.set (U id) n)) (T.pool o) _ _ w' (hI.took ho hp (n := n) (x' := (x.1, x.2.set (U id) n)) (U0 := U id) hput ⟨bb, hL.sameV rfl rfl, by omega⟩ HS.put_sp y2 y3 y4 y5 y6 (y7.set hn hun hlow) hn hun (fun i hi => HS.put_ne hi) (fun i => ⟨.inr, fun e => e.elim (fun e => by rw [e]; exact hid) fun e => e⟩) (.inl ⟨hid, ⟨x, hx, rfl⟩, rfl⟩) rfl hlen) ?_
    rw [pool_same]
    exact H'
  · have es := hf.same
    have hnone : T.S.sp id = none := by
      refine Classical.byContradiction fun g => ?_
      obtain ⟨a, ha, h2, h3⟩ := (hI.inv.sf id).1 g
      rcases hX with ⟨q1, q2, _⟩ | ⟨b', r', q1, q2, _⟩
      · rw [es.fx] at q2; omega
      · rw [es.fx] at q1
        have : a = b' := by omega
        subst this
        exact h3 (by rw [q1]; exact List.mem_cons_self)
    have hsp : (S2.keep id (bl, manOf page 4 (byO o)) page 4 X).sp id = some (bl, manOf page 4 (byO o)) := if_pos rfl
    have hoth : ∀ i, i ≠ id -> ((S2.keep id (bl, manOf page 4 (byO o)) page 4 X).put id (bl, (manOf page 4 (byO o)).set (fun _ => false) 0)).sp i = T.S.sp i := fun i hi => by
      rw [HS.put_ne hi]
      show (if i = id then _ else S2.sp i) = _
      rw [if_neg hi, es.sp]
    obtain ⟨b2, hb2, hL2⟩ := hf.laid hL hok (by decide) (by rw [hu4]; omega)
    have hput := hI3.put (I := (manOf page 4 (byO o)).set (fun _ => false) 0) hsp rfl rfl (by show (2 : Int) ≠ 0; decide)
    have hsl : (manOf page 4 (byO o)).slots = 4 * 8192 / byO o := rfl
    have hsu := (manOf_spU (page := page) (pages := 4) (elem := byO o) (by omega)).set (n := 0) (by rw [hsl]; omega) rfl (fun k hk => by omega)
    refine hK ((S2.keep id (bl, manOf page 4 (byO o)) page 4 X).put id (bl, (manOf page 4 (byO o)).set (fun _ => false) 0)) (fun i => if i = id then true else T.pool o i) _ _ w' (hI.took ho hp (n := 0) (x' := (bl, (manOf page 4 (byO o)).set (fun _ => false) 0)) (U0 := fun _ => false) hput
      ⟨b2, (hL2.keep id (bl, manOf page 4 (byO o)) page 4 X).sameV rfl rfl, by rw [hu4] at hb2; omega⟩ HS.put_sp rfl rfl rfl rfl rfl hsu (by show ((0 : Nat) : Int) < 4 * 8192 / byO o; omega) rfl hoth (fun i => ?_) (.inr ⟨hnone, rfl⟩) ?_ hlen) H'
    · by_cases e : i = id
      · simp [e]
      · simp [e]
    · show page * 8192 = page * 8192 + ((0 : Nat) : Int) * byO o
      rw [show ((0 : Nat) : Int) * byO o = 0 from Int.zero_mul _]; omega
theorem small_gen (hT : ∀ w', Sat Z w' -> TabAt E.g_math_bits_deBruijn64tab w') (H : Sat (stres E b h T g ++ Z) w) (hI : StI T U B) (hB : B <= 34359730000) (ho : o < 4) (hp : p < 64) {K : Int -> Int -> World -> Prop}
    (hK : ∀ T1 U1 g1 a l w', StI T1 U1 (B + 4096) -> T1.out = T.out -> T1.row (4 * p + o) = l ++ [a] -> Sat (stres E b h { T1 with row := fun j => if j = 4 * p + o then l else T1.row j } g1 ++ Z) w' -> K a 0 w') :
    F.stack_Stacks_small E (some ⟨b, 0, none⟩) p o K w := by
  have hbo := byO_bnd ho
  have hc := byO_c ho
  obtain ⟨c, hcc⟩ := Int.eq_ofNat_of_zero_le (show 0 <= 16384 / byO o by omega)
  have hc1 : 1 <= c /\ c <= 8 := by omega
  have hcb : (c : Int) * byO o = 16384 := by rw [<- hcc]; exact hc.2.2.2
  have hk : 4 * p + o < 256 := by omega
  unfold F.stack_Stacks_small T0.stack_Stacks_small
  simp only [NC_some, add_add, Int.toNat_natCast, Nat.mul_one]
  rw [show 1 + p * 4 + o = (4 * p + o) + 1 by omega]
  refine ⟨⟨by omega, by omega⟩, ⟨by omega, by omega⟩, ?_⟩
  refine JOIN_intro (fun _ w' => ∃ T1 U1 g1, StI T1 U1 (B + 4096) /\ T1.out = T.out /\ T1.row (4 * p + o) ≠ [] /\ Sat (stres E b h T1 g1 ++ Z) w') ?_ ?_
  · refine ⟨_, (stcell H).2.1 _ hk, CND_eq (fun e0 => stbytes_spec ho ⟨by omega, ?_⟩) fun e => ⟨T, U, g, hI.mono (by omega), rfl, fun e2 => e (by rw [stlen H hk, e2]; rfl), H⟩⟩
    have hr0 : (T.row (4 * p + o)).length = 0 := by rw [<- stlen H hk]; omega
    have ec : u64 (Int.tdiv 16384 (byO o)) = (c : Int) := by
      rw [Int.tdiv_eq_ediv_of_nonneg (by decide), hcc, u64_id (by omega) (by omega)]
    rw [ec]
    refine LOOP_intro (fun st w' => ∃ (j : Nat) (T1 : ST) (U1 : UB) (g1 : SG), st.1 = (j : Int) /\ j <= c /\ (T1.row (4 * p + o)).length = j /\ T1.out = T.out /\ StI T1 U1 (B + 512 * j) /\ Sat (stres E b h T1 g1 ++ Z) w') (fun st _ => ((c : Int) - st.1).toNat)
      ⟨0, T, U, g, rfl, Nat.zero_le _, hr0, rfl, hI.mono (by omega), H⟩ ?_
    rintro ⟨j', u⟩ _ w9 ⟨j, T1, U1, g1, hj, hjc, h1, h2, h3, H9⟩
    dsimp only at hj ⊢
    subst hj
    refine CND_dec (fun hlt => ?_) fun hge => ?_
    · have hjb : ((j : Int) + 1) * byO o <= (c : Int) * byO o := Int.mul_le_mul_of_nonneg_right (by omega) (by omega)
      rw [Int.add_mul, Int.one_mul] at hjb
      refine sttake_gen hE hT H9 h3 (by omega) ho hp (by rw [h1]; omega) fun S' q V a w' hI2 H2 => CND_f rfl ?_
      refine stpush_spec H2 hk (by show (T1.row (4 * p + o)).length <= 1000; omega) fun g2 w19 H19 => ?_
      rw [u64_id (n := (j : Int) + 1) (by omega) (by omega)]
      refine ⟨⟨j + 1, { T1 with S := S', pool := fun j => if j = o then q else T1.pool j, row := fun j => if j = 4 * p + o then T1.row (4 * p + o) ++ [a] else T1.row j }, V, g2, rfl, by omega, ?_, h2, hI2.mono (by omega), H19⟩, by omega⟩
      show (if 4 * p + o = 4 * p + o then T1.row (4 * p + o) ++ [a] else _).length = _
      rw [if_pos rfl, List.length_append, h1]; rfl
    · obtain rfl : j = c := by omega
      exact ⟨T1, U1, g1, h3.mono (by omega), h2, fun e => by rw [e] at h1; simp at h1; omega, H9⟩
  · rintro u _ w4 ⟨T1, U1, g1, q1, q2, q3, H4⟩
    obtain ⟨l, a, hl⟩ : ∃ l a, T1.row (4 * p + o) = l ++ [a] := ⟨_, _, (List.dropLast_concat_getLast q3).symm⟩
    refine ⟨_, (stcell H4).2.1 _ hk, CND_eq (fun e => ?_) fun _ => ?_⟩
    · have := stlen H4 hk
      rw [hl, List.length_append, List.length_singleton] at this
      exact absurd e (by omega)
    · exact stpop2_spec H4 hk hl fun g2 w' H' => hK T1 U1 g2 a l w' q1 q2 hl H'
theorem large_gen (hT : ∀ w', Sat Z w' -> TabAt E.g_math_bits_deBruijn64tab w') (H : Sat (stres E b h T g ++ Z) w) (hI : StI T U B) (hB : B <= 34359600000) {j : Nat} {n : Int} (hj : 4 <= j) (hj2 : j <= 15) (hn : n = 2048 * 2 ^ j) {K : Int -> Int -> World -> Prop}
    (hK : ∀ S' a w', StI { T with S := S', out := fun x => if x = a then some n else T.out x } U (B + upN (n / 8192)) -> T.out a = none -> Sat (stres E b h { T with S := S' } g ++ Z) w' -> K a 0 w') :
    F.stack_Stacks_large E (some ⟨b, 0, none⟩) n K w := by
  have hp : (2 : Int) ^ 4 <= 2 ^ j := by
    have := Nat.pow_le_pow_right (n := 2) (by decide) hj
    exact_mod_cast this
  have hp2 : (2 : Int) ^ j <= 2 ^ 15 := by
    have := Nat.pow_le_pow_right (n := 2) (by decide) hj2
    exact_mod_cast this
  have hn8 : n % 8192 = 0 := by
    have e : (2 : Int) ^ j = 2 ^ (j - 4) * 2 ^ 4 := by rw [<- Int.pow_add, show j - 4 + 4 = j by omega]
    omega
  have hok := stok H
  obtain ⟨bb, hL, hbb⟩ := hI.la
  have hu := upN_le (n / 8192)
  unfold F.stack_Stacks_large T0.stack_Stacks_large
  simp only [NC_some]
  have cp : ∀ {w'} {T' : ST}, Sat (stres E b h T' g ++ Z) w' -> w'.cell? (Addr.mk b 0 none) = some (.pointer (some ⟨h, 0, none⟩)) := fun h' => (stcell h').1
  refine ⟨_, cp H, by decide, ?_⟩
  rw [Int.tdiv_eq_ediv_of_nonneg (by omega), u64_id (n := n / 8192) (by omega) (by omega), i64_id (n := n) (by omega) (by omega)]
  obtain ⟨R2, HH, hz, hb⟩ := H.stHeap
  have hgood : ¬ manBad (n / 8192) n := by unfold manBad; omega
  refine hmanual_spec hE (fun w' h' => hT w' (hz h')) HH hI.inv (by omega) (by omega) (by omega) (fun hb => absurd hb hgood) (fun _ S2 hl => (hL.lost (by omega) (by omega) hl).elim) fun _ page S2 bl id X hf hI2 q0 q1 hX hI3 w5 H5 => ?_
  have es := hf.same
  have hnone : T.S.sp id = none := by
    refine Classical.byContradiction fun g => ?_
    obtain ⟨a, ha, h2, h3⟩ := (hI.inv.sf id).1 g
    rcases hX with ⟨q1, q2, _⟩ | ⟨b', r', q1, q2, _⟩
    · rw [es.fx] at q2; omega
    · rw [es.fx] at q1
      have : a = b' := by omega
      subst this
      exact h3 (by rw [q1]; exact List.mem_cons_self)
  have hsp : (S2.keep id (bl, manOf page (n / 8192) n) page (n / 8192) X).sp id = some (bl, manOf page (n / 8192) n) := if_pos rfl
  have hne : ∀ k, k ≠ id -> (S2.keep id (bl, manOf page (n / 8192) n) page (n / 8192) X).sp k = T.S.sp k := fun k hk => by
    show (if k = id then _ else S2.sp k) = _
    rw [if_neg hk, es.sp]
  have hnp : ∀ j, j < 4 -> ∀ k, T.pool j k = true -> k ≠ id := fun j hj k hk e => hI.pl j hj k hk (e ▸ hnone)
  obtain ⟨b2, hb2, hL2⟩ := hf.laid hL hok (by omega) (by omega)
  have H6 := hb (S2 := S2.keep id (bl, manOf page (n / 8192) n) page (n / 8192) X) (fun j hj k hk => by rw [hne k (hnp j hj k hk)]) H5
  refine CND_f rfl ⟨_, cp H6, ?_⟩
  obtain ⟨R3, HH3, hz3, hb3⟩ := H6.stHeap
  refine hspan_spec HH3 (fun e => by rw [hsp] at e; cases e) fun z hz' => ?_
  rw [hsp] at hz'
  cases hz'
  obtain ⟨R6, hs6, hb6⟩ := HH3.heapPut hsp
  have hsl : (manOf page (n / 8192) n).slots = 1 := by
    show n / 8192 * 8192 / n = 1
    rw [show n / 8192 * 8192 = n by omega, Int.ediv_self (by omega)]
  have hU0 : SpU (manOf page (n / 8192) n) fun _ => false := manOf_spU (by have : n / 8192 * 8192 / n = 1 := hsl; omega)
  refine spnext_spec (hT _ (stTail H6)) hs6 hU0 (by show (2 : Int) ≠ 0; decide) (fun hall2 => ?_) fun q hq _ hlow w13 H13 => ?_
  · have := hall2 0 (by rw [hsl]; decide)
    cases this
  · rw [hsl] at hq
    obtain rfl : q = 0 := by omega
    refine spinfo_spec H13 fun w24 H24 => ?_
    have hput := hI3.put (I := (manOf page (n / 8192) n).set (fun _ => false) 0) hsp rfl rfl (by show (2 : Int) ≠ 0; decide)
    have hsu : SpU ((manOf page (n / 8192) n).set (fun _ => false) 0) fun k => decide (k < 1) := (hU0.set (n := 0) (by rw [hsl]; decide) rfl (fun k hk => by omega)).congr fun k => by
      rw [Bool.eq_iff_iff, Bool.or_eq_true, beq_iff_eq, decide_eq_true_eq]
      constructor
      · rintro (h | h)
        · cases h
        · omega
      · intro h; exact .inr (by omega)
    have hl := hI.lalloc (a := page * 8192) (S' := (S2.keep id (bl, manOf page (n / 8192) n) page (n / 8192) X).put id (bl, (manOf page (n / 8192) n).set (fun _ => false) 0)) hput ⟨b2, (hL2.keep id (bl, manOf page (n / 8192) n) page (n / 8192) X).sameV rfl rfl, (by omega : b2 <= B + upN (n / 8192))⟩ HS.put_sp hnone (fun i hi => (HS.put_ne hi).trans (hne i hi)) hj hj2 hn rfl (by show n / 8192 * 8192 = n; omega) rfl hsl hsu
    refine hK _ _ w24 hl.2 hl.1 (hb3 (fun j hj k hk => ?_) (hb6 H24))
    rw [HS.put_ne (hnp j hj k hk)]
theorem stalloc_gen (hT : ∀ w', Sat Z w' -> TabAt E.g_math_bits_deBruijn64tab w') (H : Sat (stres E b h T g ++ Z) w) (hI : StI T U B) (hB : B <= 34359600000) (hp : p < 64) {j : Nat} {n : Int} (hj : j <= 15) (hn : n = 2048 * 2 ^ j) (htest : bitK .u64 0 n (u64 (n - 1)) = 0) {K : Int -> Int -> World -> Prop}
    (hK : ∀ T' U' g' a w', StI T' U' (B + 4096 + upN (n / 8192)) -> T.out a = none -> (T'.out = fun x => if x = a then some n else T.out x) -> Sat (stres E b h T' g' ++ Z) w' -> K a 0 w') :
    F.stack_Stacks_Alloc E (some ⟨b, 0, none⟩) p n K w := by
  have hp1 : (1 : Int) <= 2 ^ j := by
    have := Nat.pow_le_pow_right (n := 2) (by decide) (Nat.zero_le j)
    exact_mod_cast this
  have hp2 : (2 : Int) ^ j <= 2 ^ 15 := by
    have := Nat.pow_le_pow_right (n := 2) (by decide) hj
    exact_mod_cast this
  have hu := upN_le (n / 8192)
  refine stalloc_right (hT _ (stTail H)) hp hj hn (by omega) (by omega) htest (fun ho => ?_) fun hj4 => ?_
  · refine small_gen hE hT H hI (by omega) ho hp fun T1 U1 g1 a l w' q1 q2 q3 H' => ?_
    refine afterA_ok H' fun w2 H2 => hK _ U1 g1 a w2 ((q1.popout ho hp q3).mono (by omega)) ?_ ?_ ?_
    · rw [<- q2]; exact q1.ro j p a ho hp (by rw [q3]; simp)
    · funext x
      show (if x = a then some (byO j) else T1.out x) = _
      rw [q2, hn]; rfl
    · rw [hn] at H2; exact H2
  · refine large_gen hE hT H hI hB hj4 hj hn fun S' a w' q1 q2 H' => ?_
    exact afterA_ok H' fun w2 H2 => hK _ U g a w2 (q1.mono (by omega)) q2 rfl H2
theorem stgive_gen (H : Sat (stres E b h Tr g ++ Z) w) (hI : StI T U B) (hS : Tr.S = T.S) (hP : Tr.pool = T.pool) (ho : o < 4) (hp : p < 64) (hl : T.row (4 * p + o) = l ++ [a]) {K : World -> Prop}
    (hK : ∀ S' q V w', StI { T with S := S', pool := fun j => if j = o then q else T.pool j, row := fun j => if j = 4 * p + o then l else T.row j } V B -> Sat (stres E b h { Tr with S := S', pool := fun j => if j = o then q else T.pool j } g ++ Z) w' -> K w') :
    F.stack_Stacks_give E (some ⟨b, 0, none⟩) o a K w := by
  have hbo := byO_bnd ho
  have ham : a ∈ T.row (4 * p + o) := by rw [hl]; simp
  obtain ⟨id, x, n, s1, s2, s3, s4, s5⟩ := (hI.us o ho a).2 (.inl ⟨p, hp, ham⟩)
  obtain ⟨y, y1, y2, y3, y4, y5, y6, y7, _⟩ := hI.po o ho id s1
  rw [s2] at y1; cases y1
  have hok : HOk T.S := by rw [<- hS]; exact stok H
  obtain ⟨k1, k2, k3, k4, k5⟩ := hI.inv.sp id x s2
  have l1 := hok.tv.lim _ (hI.inv.ow _ (show 0 < T.S.own (x.2.base / 8192) by rw [k5 _ (Int.le_refl _) (by omega)]; exact k1)).1
  have hsl7 := y7.sl
  obtain ⟨hown, ha1, ha2⟩ := hI.slotOwn ho s1 s2 s3 s5
  obtain ⟨bb, hL, hbb⟩ := hI.la
  have hsp0 : Tr.S.sp id = some x := by rw [hS]; exact s2
  have hpo0 : Tr.pool o id = true := by rw [hP]; exact s1
  unfold F.stack_Stacks_give T0.stack_Stacks_give
  simp only [NC_some, add_add, Int.toNat_natCast, Nat.mul_one]
  refine ⟨_, (stcell H).1, ?_⟩
  obtain ⟨R, HH, hz, hb⟩ := H.stHeap
  refine hof_spec HH (by omega) (by omega) fun w4 H4 => ?_
  rw [hS, hown]
  have H5 := hb (S2 := Tr.S) (fun _ _ _ _ => rfl) H4
  have e0 : ({ Tr with S := Tr.S } : ST) = Tr := rfl
  rw [e0] at H5
  obtain ⟨M, R2, HP, hbp⟩ := H5.stPool ho
  refine ⟨⟨by omega, by omega⟩, _, (stcell (HP.front 2 rfl)).2.2.1 o ho, LKP_sl HP fun es _ => ⟨some ⟨x.1, 0, none⟩, ?_, CND_f rfl ?_⟩⟩
  · unfold poolM
    rw [if_pos hpo0, hsp0]; rfl
  obtain ⟨R6, hs6, hb6⟩ := H4.heapPut hsp0
  rw [s5, <- y4]
  refine spindex_spec hs6 y3 (by omega) (by omega) hsl7.2 ⟨by omega, by omega⟩ s3 fun w13 H13 => ?_
  refine spgive_spec H13 y7 y2 s3 (fun e => by rw [s4] at e; cases e) fun _ w15 H15 => ?_
  refine spinfo_spec H15 fun w26 H26 => ?_
  have H27 := hb6 H26
  rw [hS] at H27
  have hput := hI.inv.put (I := x.2.clr (U id) n) s2 rfl rfl (by show x.2.state ≠ 0; rw [y2]; decide)
  have hlaid : LaidB (T.S.put id (x.1, x.2.clr (U id) n)) bb := hL.sameV rfl rfl
  have hspu := y7.clr s4
  have hb' : ∀ {S2 : HS} {w'}, (∀ j, j < 4 -> ∀ i, Tr.pool j i = true -> (S2.sp i).map (·.1) = (Tr.S.sp i).map (·.1)) -> Sat (HeapP E h S2 :: R) w' -> Sat (stres E b h { Tr with S := S2 } g ++ Z) w' := fun q h' => hb q h'
  have hsame : ∀ j, j < 4 -> ∀ i, Tr.pool j i = true -> ((T.S.put id (x.1, x.2.clr (U id) n)).sp i).map (·.1) = (Tr.S.sp i).map (·.1) := fun j hj i hi => by
    by_cases e : i = id
    · rw [e, HS.put_sp, hsp0]; rfl
    · rw [HS.put_ne e, hS]
  have H28 := hb' hsame H27
  refine CND_eq (fun h0 => ?_) fun h0 => ?_
  · -- its span is empty
    have hused : (x.2.clr (U id) n).used = 0 := h0
    obtain ⟨M2, R3, HP2, hbp2⟩ := H28.stPool ho
    refine ⟨⟨by omega, by omega⟩, _, (stcell (HP2.front 2 rfl)).2.2.1 o ho, MDEL_sl HP2 fun w29 H29 => ?_⟩
    have em : (fun i => if i = id then none else poolM (T.S.put id (x.1, x.2.clr (U id) n)).sp (Tr.pool o) i) = poolM (T.S.put id (x.1, x.2.clr (U id) n)).sp (fun i => if i = id then false else T.pool o i) := by
      funext i
      unfold poolM
      rw [hP]
      by_cases e : i = id
      · simp [e]
      · simp [e]
    have H30 := hbp2 (S2 := T.S.put id (x.1, x.2.clr (U id) n)) (q := fun i => if i = id then false else T.pool o i) (fun j _ i _ => rfl) (em ▸ H29)
    refine ⟨_, (stcell H30).1, ?_⟩
    obtain ⟨R4, HH4, hz4, hb4⟩ := H30.stHeap
    have hsp2 : (T.S.put id (x.1, x.2.clr (U id) n)).sp id = some (x.1, x.2.clr (U id) n) := HS.put_sp
    refine hfree_spec hE HH4 hput (fun e => by rw [show (T.S.put id (x.1, x.2.clr (U id) n)).sp id = none from e] at hsp2; cases hsp2) (fun z e hz5 => ?_) fun z c hz5 _ hc hI6 w33 H33 => ?_
    · have e : (T.S.put id (x.1, x.2.clr (U id) n)).sp id = some z := e
      rw [hsp2] at e; cases e
      rw [hused] at hz5; omega
    · have hz5 : (T.S.put id (x.1, x.2.clr (U id) n)).sp id = some z := hz5
      rw [hsp2] at hz5; cases hz5
      have hnone : ((T.S.put id (x.1, x.2.clr (U id) n)).free c ((x.2.clr (U id) n).base / 8192) (x.2.clr (U id) n).pages).sp id = none := by
        show (if id = (c : Int) + 1 then none else _) = none
        rw [if_pos hc]
      have hoth : ∀ i, i ≠ id -> ((T.S.put id (x.1, x.2.clr (U id) n)).free c ((x.2.clr (U id) n).base / 8192) (x.2.clr (U id) n).pages).sp i = T.S.sp i := fun i hi => by
        show (if i = (c : Int) + 1 then none else (T.S.put id (x.1, x.2.clr (U id) n)).sp i) = _
        rw [if_neg (by omega), HS.put_ne hi]
      refine hK _ (fun i => if i = id then false else T.pool o i) _ w33 (hI.gave ho hp hl (S' := (T.S.put id (x.1, x.2.clr (U id) n)).free c ((x.2.clr (U id) n).base / 8192) (x.2.clr (U id) n).pages) hI6 ⟨bb, hlaid.sameV rfl rfl, hbb⟩ s2 s1 s3 s4 s5 hoth (.inr ⟨hnone, fun m => hspu.none hused m, fun i => ?_⟩)) ?_
      · by_cases e : i = id
        · simp [e]
        · simp [e]
      · have := hb4 (S2 := (T.S.put id (x.1, x.2.clr (U id) n)).free c ((x.2.clr (U id) n).base / 8192) (x.2.clr (U id) n).pages) (fun j hj i hi => ?_) H33
        · rw [hP] at this; exact this
        · have hi : (if j = o then (fun i => if i = id then false else T.pool o i) else Tr.pool j) i = true := hi
          have e : i ≠ id := fun e => by
            subst e
            by_cases e2 : j = o
            · rw [if_pos e2] at hi; simp at hi
            · rw [if_neg e2, hP] at hi
              obtain ⟨v, v1, _, _, v4, _⟩ := hI.po j hj i hi
              rw [s2] at v1; cases v1
              exact e2 (byO_inj hj ho (v4.symm.trans y4))
          rw [hoth i e]
          show _ = ((T.S.put id (x.1, x.2.clr (U id) n)).sp i).map (·.1)
          rw [HS.put_ne e]
  · have hused : (x.2.clr (U id) n).used ≠ 0 := h0
    refine hK (T.S.put id (x.1, x.2.clr (U id) n)) (T.pool o) _ w26 (hI.gave ho hp hl hput ⟨bb, hlaid, hbb⟩ s2 s1 s3 s4 s5 (fun i hi => HS.put_ne hi) (.inl ⟨⟨_, HS.put_sp, rfl, rfl, _, HS.put_sp, y2, y3, y4, y5, y6, by simpa using hspu, by simpa using hspu.some hused⟩, fun i => Iff.rfl⟩)) ?_
    rw [pool_same, <- hP]
    exact H28
end
end Go.Sh

set_option linter.all false
set_option maxRecDepth 8000
set_option maxHeartbeats 4000000
namespace Go.Sh
theorem outDel {o : Int -> Option Int} {a : Int} : (fun x => if x = a then none else outM o x) = outM fun x => if x = a then none else o x := by
  funext x
  unfold outM
  by_cases e : x = a
  · simp [e]
  · simp [e]
def lenAt (a : Addr) (w : World) : Nat := match w.cell? a with
  | some (.slice _ n _) => n
  | _ => 0
section
variable {E : Env} {w : World} {Z : List Pr} {b h : Nat} {T : ST} {g : SG} {U : UB} {B : Int} {o p : Nat} {a : Int} {l : List Int}
theorem lenAt_row (H : Sat (stres E b h T g ++ Z) w) {k : Nat} (hk : k < 256) : lenAt ((Addr.mk b 0 none).add (k + 1)) w = (T.row k).length := by
  unfold lenAt
  rw [(stcell H).2.1 k hk]
  exact stlen H hk
variable (hE : EnvA E)
include hE
theorem stflush_gen (hT : ∀ w', Sat Z w' -> TabAt E.g_math_bits_deBruijn64tab w') (H : Sat (stres E b h T g ++ Z) w) (hI : StI T U B) (hp : p < 64) {K : World -> Prop}
    (hK : ∀ T' U' g' w', StI T' U' B -> T'.out = T.out -> (∀ o, o < 4 -> T'.row (4 * p + o) = []) -> (∀ q o, o < 4 -> q ≠ p -> T'.row (4 * q + o) = T.row (4 * q + o)) -> Sat (stres E b h T' g' ++ Z) w' -> K w') :
    F.stack_Stacks_Flush E (some ⟨b, 0, none⟩) p K w := by
  unfold F.stack_Stacks_Flush T0.stack_Stacks_Flush F.stack_is
  refine CND_dec (fun _ => ?_) fun g => absurd (by omega) g
  rw [decide_eq_true (show (p : Int) < 64 by omega)]
  refine CND_f rfl ?_
  refine LOOP_intro (fun st w' => ∃ (i : Nat) (T1 : ST) (U1 : UB) (g1 : SG), st.1 = (i : Int) /\ i <= 4 /\ StI T1 U1 B /\ T1.out = T.out /\ (∀ o, o < i -> T1.row (4 * p + o) = []) /\ (∀ q o, o < 4 -> q ≠ p -> T1.row (4 * q + o) = T.row (4 * q + o)) /\ Sat (stres E b h T1 g1 ++ Z) w') (fun st _ => (4 - st.1).toNat)
    ⟨0, T, U, g, rfl, by decide, hI, rfl, fun _ h => absurd h (Nat.not_lt_zero _), fun _ _ _ _ => rfl, H⟩ ?_
  rintro ⟨i', u⟩ _ w4 ⟨i, T1, U1, g1, hi, hi4, h1, h2, h3, h4, H4⟩
  dsimp only at hi ⊢
  subst hi
  refine CND_dec (fun hlt => ?_) fun hge => ?_
  · have hio : i < 4 := by omega
    have hk : 4 * p + i < 256 := by omega
    simp only [NC_some, add_add, Int.toNat_natCast, Nat.mul_one]
    rw [show 1 + p * 4 + i = (4 * p + i) + 1 by omega]
    refine ⟨⟨by omega, by omega⟩, ⟨by omega, by omega⟩, ?_⟩
    refine LOOP_intro (fun _ w' => ∃ (T2 : ST) (U2 : UB) (g2 : SG), StI T2 U2 B /\ T2.out = T.out /\ (∀ o, o < i -> T2.row (4 * p + o) = []) /\ (∀ q o, o < 4 -> q ≠ p -> T2.row (4 * q + o) = T.row (4 * q + o)) /\ Sat (stres E b h T2 g2 ++ Z) w') (fun _ w' => lenAt ((Addr.mk b 0 none).add (4 * p + i + 1)) w')
      ⟨T1, U1, g1, h1, h2, h3, h4, H4⟩ ?_
    rintro u _ w8 ⟨T2, U2, g2, q1, q2, q3, q4, H8⟩
    rw [lenAt_row H8 hk]
    refine ⟨_, (stcell H8).2.1 _ hk, ?_⟩
    rw [stlen H8 hk]
    refine CND_dec (fun hl => ?_) fun hl => ?_
    · obtain ⟨l, a, hla⟩ : ∃ l a, T2.row (4 * p + i) = l ++ [a] := ⟨_, _, (List.dropLast_concat_getLast (l := T2.row (4 * p + i)) (fun e => by rw [e] at hl; exact absurd hl (by decide))).symm⟩
      refine stpop2_spec H8 hk hla fun g3 w12 H12 => ?_
      refine stgive_gen hE H12 q1 rfl rfl hio hp hla fun S' q V w13 hI2 H13 => ?_
      refine ⟨⟨_, V, g3, hI2, q2, fun o' ho' => ?_, fun r o' ho' hr => ?_, H13⟩, ?_⟩
      · show (if 4 * p + o' = 4 * p + i then l else T2.row (4 * p + o')) = []
        rw [if_neg (by omega)]; exact q3 o' ho'
      · show (if 4 * r + o' = 4 * p + i then l else T2.row (4 * r + o')) = _
        rw [if_neg (by omega)]; exact q4 r o' ho' hr
      · rw [lenAt_row H13 hk, hla]
        show (if 4 * p + i = 4 * p + i then l else _).length < _
        rw [if_pos rfl, List.length_append]; simp
    · rw [i64_id (n := (i : Int) + 1) (by omega) (by omega)]
      refine ⟨⟨i + 1, T2, U2, g2, rfl, by omega, q1, q2, fun o' ho' => ?_, q4, H8⟩, by omega⟩
      by_cases e : o' = i
      · rw [e]
        exact List.eq_nil_of_length_eq_zero (by omega)
      · exact q3 o' (by omega)
  · obtain rfl : i = 4 := by omega
    exact hK T1 U1 g1 w4 h1 h2 h3 h4 H4
theorem stfree_gen (hT : ∀ w', Sat Z w' -> TabAt E.g_math_bits_deBruijn64tab w') (H : Sat (stres E b h T g ++ Z) w) (hI : StI T U B) (hp : p < 64) {n : Int} (hout : T.out a = some n) {K : Int -> Int -> World -> Prop}
    (hK : ∀ T' U' g' w', StI T' U' B -> (T'.out = fun x => if x = a then none else T.out x) -> Sat (stres E b h T' g' ++ Z) w' -> K n 0 w') : F.stack_Stacks_Free E (some ⟨b, 0, none⟩) p a K w := by
  have hm := hI.mem (stok H) hout
  unfold F.stack_Stacks_Free T0.stack_Stacks_Free F.stack_is
  refine CND_dec (fun _ => ?_) fun g => absurd (by omega) g
  rw [decide_eq_true (show (p : Int) < 64 by omega)]
  refine CND_f rfl ?_
  simp only [NC_some, add_add, Int.toNat_natCast, Nat.mul_one]
  obtain ⟨R, HO, hbo2⟩ := H.stOut
  refine ⟨_, (stcell H).2.2.2, LKP_sl HO fun es _ => ⟨n, ?_, CND_f ?_ ⟨_, (stcell H).2.2.2, MDEL_sl HO fun w11 H11 => ?_⟩⟩⟩
  · unfold outM; rw [hout]; rfl
  · unfold outM; rw [hout]; rfl
  rw [outDel] at H11
  have H12 := hbo2 H11
  rcases hI.ou a n hout with ⟨o, ho, rfl⟩ | ⟨id, x, j, hj, hj2, hn, hsp, hb, hpg, hst, hsl, hsu⟩
  · -- one of an order
    have hbo := byO_bnd ho
    have hk : 4 * p + o < 256 := by omega
    refine storder_spec (hT _ (stTail H12)) (show o <= 40 by omega) (CND_dec (fun g => absurd g (by omega)) fun _ => ⟨⟨by omega, by omega⟩, ⟨by omega, by omega⟩, ?_⟩)
    simp only [Int.toNat_natCast, Nat.mul_one]
    rw [show 1 + p * 4 + o = (4 * p + o) + 1 by omega]
    have hprod : ∀ {T1 : ST} {U1 : UB}, StI T1 U1 B -> (T1.row (4 * p + o)).length <= 16 /\ 0 <= ((T1.row (4 * p + o)).length : Int) * byO o /\ ((T1.row (4 * p + o)).length : Int) * byO o <= 32768 := fun {T1 U1} h1 => by
      have hl := h1.ln o p ho hp
      have h0 : (0 : Int) <= ((T1.row (4 * p + o)).length : Int) * byO o := Int.mul_nonneg (by omega) (by omega)
      refine ⟨?_, h0, hl⟩
      refine Classical.byContradiction fun q => ?_
      have : (17 : Int) * 2048 <= ((T1.row (4 * p + o)).length : Int) * byO o := Int.mul_le_mul (by omega) hbo.1 (by decide) (by omega)
      omega
    refine JOIN_intro (fun _ w' => ∃ T1 U1 g1, StI T1 U1 B /\ T1.out = T.out /\ ((T1.row (4 * p + o)).length : Int) * byO o + byO o <= 32768 /\ Sat (stres E b h { T1 with out := fun x => if x = a then none else T.out x } g1 ++ Z) w') ?_ ?_
    · refine ⟨_, (stcell H12).2.1 _ hk, ?_⟩
      obtain ⟨p1, p2, p3⟩ := hprod hI
      have hlen : (g.sl (4 * p + o)).len = (T.row (4 * p + o)).length := stlen H12 hk
      rw [hlen, u64_id (n := ((T.row (4 * p + o)).length : Int)) (by omega) (by omega), u64_id (n := ((T.row (4 * p + o)).length : Int) * byO o) (by omega) (by omega)]
      refine CND_dec (fun _ => ?_) fun hlt => ⟨T, U, g, hI, rfl, by
        have : ((T.row (4 * p + o)).length : Int) * byO o + byO o <= 32768 := by
          match o, ho with
          | 0, _ => show ((T.row (4 * p + 0)).length : Int) * 2048 + 2048 <= 32768; have : ¬ ((T.row (4 * p + 0)).length : Int) * 2048 ≥ 32768 := hlt; omega
          | 1, _ => show ((T.row (4 * p + 1)).length : Int) * 4096 + 4096 <= 32768; have : ¬ ((T.row (4 * p + 1)).length : Int) * 4096 ≥ 32768 := hlt; omega
          | 2, _ => show ((T.row (4 * p + 2)).length : Int) * 8192 + 8192 <= 32768; have : ¬ ((T.row (4 * p + 2)).length : Int) * 8192 ≥ 32768 := hlt; omega
          | 3, _ => show ((T.row (4 * p + 3)).length : Int) * 16384 + 16384 <= 32768; have : ¬ ((T.row (4 * p + 3)).length : Int) * 16384 ≥ 32768 := hlt; omega
        exact this, H12⟩
      refine LOOP_intro (fun _ w' => ∃ (T2 : ST) (U2 : UB) (g2 : SG), StI T2 U2 B /\ T2.out = T.out /\ Sat (stres E b h { T2 with out := fun x => if x = a then none else T.out x } g2 ++ Z) w') (fun _ w' => lenAt ((Addr.mk b 0 none).add (4 * p + o + 1)) w')
        ⟨T, U, g, hI, rfl, H12⟩ ?_
      rintro u _ w8 ⟨T2, U2, g2, q1, q2, H8⟩
      rw [lenAt_row H8 hk]
      refine ⟨_, (stcell H8).2.1 _ hk, ?_⟩
      obtain ⟨p1, p2, p3⟩ := hprod q1
      have hlen : (g2.sl (4 * p + o)).len = (T2.row (4 * p + o)).length := stlen H8 hk
      rw [hlen, u64_id (n := ((T2.row (4 * p + o)).length : Int)) (by omega) (by omega), u64_id (n := ((T2.row (4 * p + o)).length : Int) * byO o) (by omega) (by omega)]
      refine CND_dec (fun hgt => ?_) fun hle => ⟨T2, U2, g2, q1, q2, by omega, H8⟩
      obtain ⟨l, a', hla⟩ : ∃ l a', T2.row (4 * p + o) = l ++ [a'] := ⟨_, _, (List.dropLast_concat_getLast (l := T2.row (4 * p + o)) (fun e => by rw [e] at hgt; simp at hgt)).symm⟩
      refine stpop2_spec H8 hk (l := l) (a := a') hla fun g3 w12 H12 => ?_
      refine stgive_gen hE H12 q1 rfl rfl ho hp hla fun S' q V w13 hI2 H13 => ?_
      refine ⟨⟨_, V, g3, hI2, q2, H13⟩, ?_⟩
      rw [lenAt_row H13 hk]
      show (if 4 * p + o = 4 * p + o then l else _).length < (T2.row (4 * p + o)).length
      rw [if_pos rfl, hla, List.length_append]; simp
    · rintro u _ w35 ⟨T1, U1, g1, q1, q2, q3, H35⟩
      obtain ⟨p1, _⟩ := hprod q1
      refine stpush_spec H35 hk (by show (T1.row (4 * p + o)).length <= 1000; omega) fun g2 w49 H49 => ?_
      have hpu := q1.pushed (a := a) ho hp (by rw [q2]; exact hout) q3
      rw [q2] at hpu
      exact hK _ U1 g2 w49 hpu rfl H49
  · -- a large one
    have hp1 : (2 : Int) ^ 4 <= 2 ^ j := by
      have := Nat.pow_le_pow_right (n := 2) (by decide) hj
      exact_mod_cast this
    have hord : ∀ {K : Int -> World -> Prop}, K j w11 -> F.stack_order E n K w11 := fun hK => by rw [hn]; exact storder_spec (hT _ (stTail H12)) (by omega) hK
    refine hord (CND_dec (fun _ => ⟨_, (stcell H12).1, ?_⟩) fun g => absurd (by omega) g)
    obtain ⟨R3, HH, hz3, hb3⟩ := H12.stHeap
    refine hof_spec HH hm.1 (by omega) fun w17 H17 => ?_
    have ho : T.S.own (a / 8192) = id := span_own hI.inv hsp (by omega) (by omega)
    rw [show ({ T with out := fun x => if x = a then none else T.out x } : ST).S = T.S from rfl, ho]
    have H18 := hb3 (S2 := T.S) (fun _ _ _ _ => rfl) H17
    refine JOIN_in ⟨_, (stcell H18).1, hspan_spec H17 (fun e => by rw [hsp] at e; cases e) fun z hz' => ?_⟩
    rw [hsp] at hz'
    cases hz'
    obtain ⟨R6, hs6, hb6⟩ := H17.heapPut hsp
    refine CND_t rfl (spgive_spec hs6 hsu hst (n := 0) (by rw [hsl]; decide) (fun e => by simp at e) fun _ w27 H27 j => ?_)
    have H28 := hb6 H27
    have hpn : ∀ q, q < 4 -> ∀ i, T.pool q i = true -> i ≠ id := fun q hq i hi e => by
      subst e
      obtain ⟨y, y1, _, _, _, y5, _⟩ := hI.po q hq i hi
      rw [hsp] at y1; cases y1
      have := byO_bnd hq
      omega
    have H29 := hb3 (S2 := T.S.put id (x.1, x.2.clr (fun k => decide (k < 1)) 0)) (fun j hj k hk => by rw [HS.put_ne (hpn j hj k hk)]) H28
    refine ⟨_, (stcell H29).1, ?_⟩
    have hI2 := hI.inv.put (I := x.2.clr (fun k => decide (k < 1)) 0) hsp rfl rfl (by show x.2.state ≠ 0; rw [hst]; decide)
    have hus : (x.2.clr (fun k => decide (k < 1)) 0).used = 0 := by
      show x.2.used - 1 = 0
      rw [hsu.cnt, cN_full (m := 1) (fun k => by simp) 64]; rfl
    have hsp2 : (T.S.put id (x.1, x.2.clr (fun k => decide (k < 1)) 0)).sp id = some (x.1, x.2.clr (fun k => decide (k < 1)) 0) := HS.put_sp
    obtain ⟨bb, hL, hbb⟩ := hI.la
    refine hfree_spec hE H28 hI2 (fun e => by rw [hsp2] at e; cases e) (fun y hy h0 => ?_) fun y c hy _ hc hI6 w31 H31 => ?_
    · rw [hsp2] at hy; cases hy
      rw [hus] at h0; omega
    · rw [hsp2] at hy; cases hy
      have hnone : ((T.S.put id (x.1, x.2.clr (fun k => decide (k < 1)) 0)).free c ((x.2.clr (fun k => decide (k < 1)) 0).base / 8192) (x.2.clr (fun k => decide (k < 1)) 0).pages).sp id = none := by
        show (if id = (c : Int) + 1 then none else _) = none
        rw [if_pos hc]
      have hoth : ∀ i, i ≠ id -> ((T.S.put id (x.1, x.2.clr (fun k => decide (k < 1)) 0)).free c ((x.2.clr (fun k => decide (k < 1)) 0).base / 8192) (x.2.clr (fun k => decide (k < 1)) 0).pages).sp i = T.S.sp i := fun i hi => by
        show (if i = (c : Int) + 1 then none else (T.S.put id (x.1, x.2.clr (fun k => decide (k < 1)) 0)).sp i) = _
        rw [if_neg (by omega), HS.put_ne hi]
      have hlf := hI.lfree (S' := (T.S.put id (x.1, x.2.clr (fun k => decide (k < 1)) 0)).free c ((x.2.clr (fun k => decide (k < 1)) 0).base / 8192) (x.2.clr (fun k => decide (k < 1)) 0).pages) hI6 ⟨bb, (hL.sameV rfl rfl : LaidB (T.S.put id (x.1, x.2.clr (fun k => decide (k < 1)) 0)) bb).sameV rfl rfl, hbb⟩ hout hsp hb hpg hsl (by omega) hnone hoth
      exact hK _ U g w31 hlf rfl (hb3 (fun j hj i hi => by rw [hoth i (hpn j hj i hi)]) H31)
end
end Go.Sh

set_option linter.all false
set_option maxRecDepth 8000
set_option maxHeartbeats 4000000
namespace Go.Sh
theorem bit63 (x : Int) : 0 <= bitK .i64 0 x 63 /\ bitK .i64 0 x 63 <= 63 := by
  show 0 <= IntKind.wrap .i64 ((BitVec.ofInt 64 x &&& BitVec.ofInt 64 63).toNat : Int) /\ IntKind.wrap .i64 ((BitVec.ofInt 64 x &&& BitVec.ofInt 64 63).toNat : Int) <= 63
  have h : (BitVec.ofInt 64 x &&& BitVec.ofInt 64 63).toNat <= 63 := by
    rw [BitVec.toNat_and]
    exact Nat.le_trans Nat.and_le_right (by decide)
  have e : IntKind.wrap .i64 ((BitVec.ofInt 64 x &&& BitVec.ofInt 64 63).toNat : Int) = ((BitVec.ofInt 64 x &&& BitVec.ofInt 64 63).toNat : Int) := i64_id (by omega) (by omega)
  rw [e]; omega
theorem bit7 (x : Int) : 0 <= bitK .i64 0 x 7 /\ bitK .i64 0 x 7 <= 7 := by
  show 0 <= IntKind.wrap .i64 ((BitVec.ofInt 64 x &&& BitVec.ofInt 64 7).toNat : Int) /\ IntKind.wrap .i64 ((BitVec.ofInt 64 x &&& BitVec.ofInt 64 7).toNat : Int) <= 7
  have h : (BitVec.ofInt 64 x &&& BitVec.ofInt 64 7).toNat <= 7 := by
    rw [BitVec.toNat_and]
    exact Nat.le_trans Nat.and_le_right (by decide)
  have e : IntKind.wrap .i64 ((BitVec.ofInt 64 x &&& BitVec.ofInt 64 7).toNat : Int) = ((BitVec.ofInt 64 x &&& BitVec.ofInt 64 7).toNat : Int) := i64_id (by omega) (by omega)
  rw [e]; omega
theorem byO8 : ∀ j, j < 8 -> 2048 <= byO j /\ byO j <= 262144 /\ bitK .u64 0 (byO j) (u64 (byO j - 1)) = 0 /\ u64 (2048 * 2 ^ (min (Int.toNat (j : Int)) (IntKind.bits .u64))) = byO j := by
  intro j hj
  match j, hj with
  | 0, _ => decide +kernel
  | 1, _ => decide +kernel
  | 2, _ => decide +kernel
  | 3, _ => decide +kernel
  | 4, _ => decide +kernel
  | 5, _ => decide +kernel
  | 6, _ => decide +kernel
  | 7, _ => decide +kernel
theorem byO8m : ∀ j, j < 8 -> (byO j - 8) % 8 = 0 := by
  intro j hj
  match j, hj with
  | 0, _ => decide
  | 1, _ => decide
  | 2, _ => decide
  | 3, _ => decide
  | 4, _ => decide
  | 5, _ => decide
  | 6, _ => decide
  | 7, _ => decide
structure Lst (T : ST) (L : List (Int × Int)) : Prop where
  go : ∀ (k : Nat) (x m : Int), L[k]? = some (x, m) -> m ≠ 0 -> T.out x = some m
  bk : ∀ x m, T.out x = some m -> ∃ k : Nat, L[k]? = some (x, m)
  dj : ∀ (j k : Nat) (x y m n : Int), L[j]? = some (x, m) -> L[k]? = some (y, n) -> m ≠ 0 -> n ≠ 0 -> x = y -> j = k
  po : ∀ (k : Nat) (x m : Int), L[k]? = some (x, m) -> 0 <= m
theorem Lst.snoc {T T' : ST} {L : List (Int × Int)} (h : Lst T L) {a n : Int} (ha : T.out a = none) (hn : 0 < n) (ho : T'.out = fun x => if x = a then some n else T.out x) : Lst T' (L ++ [(a, n)]) := by
  have get : ∀ (k : Nat) (x m : Int), (L ++ [(a, n)])[k]? = some (x, m) -> L[k]? = some (x, m) ∨ (k = L.length /\ x = a /\ m = n) := fun k x m hk => by
    by_cases g : k < L.length
    · rw [List.getElem?_append_left g] at hk; exact .inl hk
    · rw [List.getElem?_append_right (by omega)] at hk
      have : k - L.length = 0 := by
        refine Classical.byContradiction fun g2 => ?_
        obtain ⟨q, hq⟩ : ∃ q, k - L.length = q + 1 := ⟨k - L.length - 1, by omega⟩
        rw [hq] at hk; simp at hk
      rw [this] at hk
      simp at hk
      exact .inr ⟨by omega, hk.1.symm, hk.2.symm⟩
  refine ⟨fun k x m hk hm => ?_, fun x m hx => ?_, fun j k x y m q hj hk hm hq e => ?_, fun k x m hk => ?_⟩
  · rw [ho]
    show (if x = a then some n else T.out x) = some m
    rcases get k x m hk with h1 | ⟨_, rfl, rfl⟩
    · have := h.go k x m h1 hm
      rw [if_neg fun e => by rw [e, ha] at this; cases this]
      exact this
    · rw [if_pos rfl]
  · rw [ho] at hx
    have hx : (if x = a then some n else T.out x) = some m := hx
    by_cases e : x = a
    · rw [if_pos e] at hx; cases hx
      exact ⟨L.length, by simp [e]⟩
    · rw [if_neg e] at hx
      obtain ⟨k, hk⟩ := h.bk x m hx
      exact ⟨k, by rw [List.getElem?_append_left (List.getElem?_eq_some_iff.1 hk).1]; exact hk⟩
  · rcases get j x m hj with h1 | ⟨h1, h2, h3⟩
    · rcases get k y q hk with h4 | ⟨h4, h5, h6⟩
      · exact h.dj j k x y m q h1 h4 hm hq e
      · have := h.go j x m h1 hm
        rw [e, h5, ha] at this; cases this
    · rcases get k y q hk with h4 | ⟨h4, h5, h6⟩
      · have := h.go k y q h4 hq
        rw [<- e, h2, ha] at this; cases this
      · rw [h1, h4]
  · rcases get k x m hk with h1 | ⟨_, _, h1⟩
    · exact h.po k x m h1
    · omega
theorem Lst.del {T T' : ST} {L : List (Int × Int)} (h : Lst T L) {k : Nat} {a n : Int} (hk : L[k]? = some (a, n)) (hn : n ≠ 0) (ho : T'.out = fun x => if x = a then none else T.out x) : Lst T' (L.set k (a, 0)) := by
  have get : ∀ (j : Nat) (x m : Int), (L.set k (a, 0))[j]? = some (x, m) -> (j ≠ k /\ L[j]? = some (x, m)) ∨ (j = k /\ x = a /\ m = 0) := fun j x m hj => by
    by_cases g : j = k
    · subst g
      have hl := (List.getElem?_eq_some_iff.1 hk).1
      rw [List.getElem?_set_self (by omega)] at hj
      cases hj
      exact .inr ⟨rfl, rfl, rfl⟩
    · rw [List.getElem?_set_ne (fun e => g e.symm)] at hj
      exact .inl ⟨g, hj⟩
  refine ⟨fun j x m hj hm => ?_, fun x m hx => ?_, fun j i x y m q hj hi hm hq e => ?_, fun j x m hj => ?_⟩
  · rcases get j x m hj with ⟨h1, h2⟩ | ⟨_, _, h1⟩
    · rw [ho]
      show (if x = a then none else T.out x) = some m
      rw [if_neg fun e => h1 (h.dj j k x a m n h2 hk hm hn e)]
      exact h.go j x m h2 hm
    · exact absurd h1 hm
  · rw [ho] at hx
    have hx : (if x = a then none else T.out x) = some m := hx
    by_cases e : x = a
    · rw [if_pos e] at hx; cases hx
    · rw [if_neg e] at hx
      obtain ⟨j, hj⟩ := h.bk x m hx
      refine ⟨j, ?_⟩
      rw [List.getElem?_set_ne (fun e2 => ?_)]
      · exact hj
      · subst e2
        rw [hk] at hj; cases hj
        exact e rfl
  · rcases get j x m hj with ⟨h1, h2⟩ | ⟨_, _, h1⟩
    · rcases get i y q hi with ⟨h3, h4⟩ | ⟨_, _, h3⟩
      · exact h.dj j i x y m q h2 h4 hm hq e
      · exact absurd h3 hq
    · exact absurd h1 hm
  · rcases get j x m hj with ⟨_, h2⟩ | ⟨_, _, h1⟩
    · exact h.po j x m h2
    · omega
theorem Lst.nil {S : HS} : Lst ⟨S, fun _ => [], fun _ _ => false, fun _ => none⟩ [] :=
  ⟨fun _ _ _ h => (by simp at h), fun _ _ h => (by cases h), fun _ _ _ _ _ _ h => (by simp at h), fun _ _ _ h => (by simp at h)⟩
theorem StI.over {T : ST} {U : UB} {B : Int} (h : StI T U B) (ho : ∀ x, T.out x = none) (hr : ∀ q o, q < 64 -> o < 4 -> T.row (4 * q + o) = []) (id : Int) : T.S.sp id = none := by
  cases hx : T.S.sp id with
  | none => rfl
  | some x =>
    exfalso
    rcases h.al id x hx with ⟨o, ho4, hp⟩ | ⟨h1, _⟩
    · obtain ⟨y, y1, _, _, _, y5, _, y7, n, hn⟩ := h.po o ho4 id hp
      rcases (h.us o ho4 (y.2.base + n * byO o)).1 ⟨id, y, n, hp, y1, y7.lim n hn, hn, rfl⟩ with ⟨q, hq, h1⟩ | h1
      · rw [hr q o hq ho4] at h1; cases h1
      · rw [ho] at h1; cases h1
    · rw [ho] at h1; cases h1
theorem over_pages {S : HS} (hI : HInv S no) (h : ∀ id, S.sp id = none) : S.pages = 0 := by
  rw [hI.pg]
  have : (cP fun p => decide (0 < S.own p)) = cP fun p => inr 0 0 p := cP_congr fun p _ _ => by
    rw [Bool.eq_iff_iff, decide_eq_true_eq, inr_iff]
    constructor
    · intro hp
      obtain ⟨_, _, _, x, hx, _⟩ := hI.ow p hp
      rw [h] at hx; cases hx
    · intro hp; omega
  rw [this, cP_row (by decide) (by decide) (by decide)]
section
variable {E : Env} {w : World} {Z : List Pr} {b h : Nat} {T : ST} {g : SG} {U : UB} {B : Int} {a n : Int}
theorem LCell {t : Nat} {s : SlV} {f : Int × Int -> Int} {L : List (Int × Int)} {F : List Pr} {w' : World} (H : Sat (Row t 1 s (ints .u64 (L.map f)) :: F) w') {k : Nat} {x m : Int} (hk : L[k]? = some (x, m)) {K : Addr -> Prop} (hK : ∀ a, s.base = some a -> w'.cell? (a.add k) = some (.int .u64 (f (x, m))) -> k < s.len -> K a) : NC s.base K := by
  have hl := H.rowLen
  simp only [ints, List.length_map, Nat.mul_one] at hl
  have hlt := (List.getElem?_eq_some_iff.1 hk).1
  exact H.rowCell (j := k) (v := .int .u64 (f (x, m))) (by simp [ints, hk]) fun a ha hc => hK a ha hc (by omega)
theorem mid3 {P : List Pr} {A B C : Pr} {w' : World} (H : Sat (P ++ [A, B, C]) w') : Sat (A :: B :: (P ++ [C])) w' := H.perm (List.perm_append_comm_assoc P [A, B] [C])
theorem mid3b {P : List Pr} {A B C : Pr} {w' : World} (H : Sat (A :: B :: (P ++ [C])) w') : Sat (P ++ [A, B, C]) w' := H.perm (List.perm_append_comm_assoc P [A, B] [C]).symm
theorem ststore_spec (hS : EnvS E) (H : Sat (stres E b h T g ++ Z) w) (hI : StI T U B) (hout : T.out a = some n) {q x : Int} (q0 : 0 <= q) (q1 : q < n) (q8 : q % 8 = 0) {z : Int} (hz : z = a + q) {K : Int -> World -> Prop}
    (hK : ∀ T' w', StI T' U B -> T'.out = T.out -> Sat (stres E b h T' g ++ Z) w' -> K 0 w') : F.mheap_Heap_Mem E (some ⟨h, 0, none⟩) (fun r w1 => F.vmem_Mem_Store E r z x (fun e w2 => K e w2) w1) w := by
  subst hz
  obtain ⟨m1, m2, m3, m4, m5, m6⟩ := hI.mem (stok H) hout
  obtain ⟨R, HH, _, hb⟩ := H.stHeap
  have hst : storeE T.S.V (a + q) = 0 := by
    unfold storeE
    rw [if_neg (by omega), if_pos (inL_iff.2 (m6 (a + q) (by omega) (by omega)))]
  refine hmem_spec HH fun m R2 HV hbk => store_spec hS HV (by omega) (by omega) fun w2 H2 => ?_
  rw [hst]
  have e : storeV T.S.V (a + q) x = { T.S.V with wd := fun p i => if p = (a + q) / 8192 /\ i = (a + q) % 8192 / 8 then x else T.S.V.wd p i } := by
    unfold storeV; rw [if_pos hst]
  rw [e] at H2
  exact hK _ w2 (hI.memV (f := fun p i => if p = (a + q) / 8192 /\ i = (a + q) % 8192 / 8 then x else T.S.V.wd p i)) rfl (hb (S2 := { T.S with V := { T.S.V with wd := fun p i => if p = (a + q) / 8192 /\ i = (a + q) % 8192 / 8 then x else T.S.V.wd p i } }) (fun _ _ _ _ => rfl) (hbk H2))
variable (hE : EnvH E)
include hE
theorem apart21_spec (hT : TabAt E.g_math_bits_deBruijn64tab w) {a0 a1 a2 : SlV} {z0 z1 z2 : Nat -> Int} (h0 : RowA w (.int .i64) a0 z0) (h1 : RowA w (.int .i64) a1 z1) (h2 : RowA w (.int .i64) a2 z2) {K : Bool -> World -> Prop} (hK : ∀ w', Ext Nothing w w' -> K true w') : F.mallowlaw21_StacksApart E a0 a1 a2 K w := by
  unfold F.mallowlaw21_StacksApart T0.mallowlaw21_StacksApart
  have ht : K true w := hK w (Ext.refl _ _)
  refine JOIN_in (CND_dec (fun _ j => CND_t rfl ht) fun g1 => CND_dec (fun _ j => CND_t rfl ht) fun g2 j => CND_dec (fun _ => ht) fun g3 => ?_)
  refine fresh21_nil (Sat.start w) fun h w5 H5 => CND_f rfl (stnew_spec H5 fun b g w7 H7 => CND_f rfl ?_)
  have HTz : ∀ {A B : Pr} w', Sat [A, B, Old w] w' -> TabAt E.g_math_bits_deBruijn64tab w' := fun w' h => hT.ext (h.old 2 rfl)
  have old : ∀ {T : ST} {g : SG} {A B : Pr} {w'}, Sat (stres E b h T g ++ [A, B, Old w]) w' -> Ext Nothing w w' := fun H => (stTail H).old 2 rfl
  have H8 : Sat (stres E b h ⟨HS.new (newV [] [] []), fun _ => [], fun _ _ => false, fun _ => none⟩ g ++ [Row E.t_uint64 1 ⟨none, 0, 0⟩ (ints .u64 ([].map fun x : Int × Int => x.1)), Row E.t_uint64 1 ⟨none, 0, 0⟩ (ints .u64 ([].map fun x : Int × Int => x.2)), Old w]) w7 := mid3b ((H7.nil E.t_uint64 1).nil E.t_uint64 1)
  refine LOOP_intro (fun st w' => ∃ (i : Nat) (T : ST) (U : UB) (g : SG) (L : List (Int × Int)), st.2.2.1 = (i : Int) /\ i <= a0.len /\ L.length = i /\ StI T U (512 + 8192 * i) /\ Lst T L /\
      Sat (stres E b h T g ++ [Row E.t_uint64 1 st.1 (ints .u64 (L.map (·.1))), Row E.t_uint64 1 st.2.1 (ints .u64 (L.map (·.2))), Old w]) w') (fun st _ => ((a0.len : Int) - st.2.2.1).toNat) ⟨0, _, _, g, [], rfl, Nat.zero_le _, rfl, StI.new [], Lst.nil, H8⟩ ?_
  rintro ⟨s1, s2, i', u⟩ _ w9 ⟨i, T, U, g1', L, hi, hin, hL, hI, hLs, H9⟩
  dsimp only at hi H9 ⊢
  subst hi
  refine CND_dec (fun hlt => ?_) fun hge => ?_
  · -- one more
    obtain ⟨x0, hx0, hc0, _⟩ := (h0.oldI (old H9)).cell1 (show i < a0.len by omega)
    refine JOIN_intro (fun st w' => ∃ p : Nat, p < 64 /\ st.1 = (p : Int) /\ w' = w9) ?_ ?_
    · refine CND_dec (fun hp => ?_) fun _ => ⟨0, by decide, rfl, rfl⟩
      obtain ⟨x1, hx1, hc1, _⟩ := (h1.oldI (old H9)).cell1 (show i < a1.len by omega)
      rw [hx1]
      have hb := bit63 (z1 i)
      refine ⟨⟨by omega, by omega⟩, z1 i, by rw [Int.toNat_natCast, Nat.mul_one]; exact hc1, ⟨(bitK .i64 0 (z1 i) 63).toNat, by omega, by show bitK .i64 0 (z1 i) 63 = _; omega, rfl⟩⟩
    rintro ⟨p', v⟩ _ w13 ⟨p, hp, hpe, rfl⟩
    dsimp only at hpe ⊢
    subst hpe
    rw [hx0]
    have hb7 := bit7 (z0 i)
    refine ⟨⟨by omega, by omega⟩, z0 i, by rw [Int.toNat_natCast, Nat.mul_one]; exact hc0, hb7.1, LET_intro fun bytes hbytes => ?_⟩
    obtain ⟨j, hj⟩ := Int.eq_ofNat_of_zero_le hb7.1
    have hj8 : j < 8 := by omega
    rw [hj] at hbytes
    obtain ⟨y1, y2, y3, y4⟩ := byO8 j hj8
    obtain rfl : bytes = byO j := hbytes.trans y4
    clear hbytes hb7 hj
    have hu := upN_le (byO j / 8192)
    refine stalloc_gen hE.toEnvA HTz H9 hI (by omega) hp (j := j) (n := byO j) (by omega) rfl y3 fun T' U' g' a w21 hI' hno hout H21 => ?_
    have hoa : T'.out a = some (byO j) := by rw [hout]; exact if_pos rfl
    obtain ⟨m1, m2, m3, m4, m5, m6⟩ := hI'.mem (stok H21) hoa
    refine JOIN_in (CND_ne (fun e => absurd rfl e) fun _ => ⟨by decide, CND_ne (fun e => absurd (by rw [Int.tmod_eq_emod_of_nonneg m1]; exact m2) e) fun _ => ?_⟩)
    refine ststore_spec hE.toEnvS H21 hI' hoa (q := 0) (Int.le_refl _) (by omega) (by decide) (by omega) fun T2 w28 hI2 ho2 H28 => CND_ne (fun e => absurd rfl e) fun _ => ?_
    have hoa2 : T2.out a = some (byO j) := by rw [ho2]; exact hoa
    refine ststore_spec hE.toEnvS H28 hI2 hoa2 (q := byO j - 8) (by omega) (by omega) ?_ (by rw [u64_id (n := a + byO j) (by omega) (by omega), u64_id (by omega) (by omega)]; omega) fun T3 w32 hI3 ho3 H32 jj => CND_f rfl ?_
    · exact byO8m j hj8
    have ho3' : T3.out = fun x => if x = a then some (byO j) else T.out x := ho3.trans (ho2.trans hout)
    have hoa3 : T3.out a = some (byO j) := by rw [ho3']; exact if_pos rfl
    have len1 : ∀ {T : ST} {g : SG} {w'}, Sat (stres E b h T g ++ [Row E.t_uint64 1 s1 (ints .u64 (L.map (·.1))), Row E.t_uint64 1 s2 (ints .u64 (L.map (·.2))), Old w]) w' -> s1.len = i /\ s2.len = i := fun H => by
      have q1 := (mid3 H).rowLen
      have q2 := ((mid3 H).front 1 rfl).rowLen
      simp only [ints, List.length_map, Nat.mul_one] at q1 q2
      omega
    refine LOOP_intro (fun st w' => ∃ k : Nat, st.1 = (k : Int) /\ k <= i /\ Sat (stres E b h T3 g' ++ [Row E.t_uint64 1 s1 (ints .u64 (L.map (·.1))), Row E.t_uint64 1 s2 (ints .u64 (L.map (·.2))), Old w]) w') (fun st _ => ((i : Int) - st.1).toNat) ⟨0, rfl, Nat.zero_le _, H32⟩ ?_
    rintro ⟨k', v⟩ _ w34 ⟨k, hk, hki, H34⟩
    dsimp only at hk ⊢
    subst hk
    obtain ⟨l1, l2⟩ := len1 H34
    refine CND_dec (fun hklt => ?_) fun hkge => ?_
    · have hkL : k < L.length := by omega
      obtain ⟨⟨x, m⟩, hxm⟩ : ∃ xm, L[k]? = some xm := ⟨_, List.getElem?_eq_getElem hkL⟩
      have Hd := H34.drew
      have HA := mid3 Hd
      have HB := HA.front 1 rfl
      have cA : ∀ {K : Addr -> Prop}, (∀ a, s1.base = some a -> w34.drew.cell? (a.add (Int.toNat (k : Int) * 1)) = some (.int .u64 x) -> K a) -> NC s1.base K := fun hK => LCell HA hxm fun a ha hc _ => hK a ha (by rw [Int.toNat_natCast, Nat.mul_one]; exact hc)
      have cB : ∀ {K : Addr -> Prop}, (∀ a, s2.base = some a -> w34.drew.cell? (a.add (Int.toNat (k : Int) * 1)) = some (.int .u64 m) -> K a) -> NC s2.base K := fun hK => LCell HB hxm fun a ha hc _ => hK a ha (by rw [Int.toNat_natCast, Nat.mul_one]; exact hc)
      have fin : CND false (K false w34.drew) ((∃ k2 : Nat, i64 ((k : Int) + 1) = (k2 : Int) /\ k2 <= i /\ Sat (stres E b h T3 g' ++ [Row E.t_uint64 1 s1 (ints .u64 (L.map (·.1))), Row E.t_uint64 1 s2 (ints .u64 (L.map (·.2))), Old w]) w34.drew) /\ ((i : Int) - i64 ((k : Int) + 1)).toNat < ((i : Int) - (k : Int)).toNat) := by
        rw [i64_id (n := (k : Int) + 1) (by omega) (by omega)]
        exact CND_f rfl ⟨⟨k + 1, rfl, by omega, Hd⟩, by omega⟩
      refine JOIN_in (cB fun p39 _ c39 => ⟨⟨by omega, by omega⟩, m, c39, CND_dec (fun hm => cA fun p41 _ c41 => ⟨⟨by omega, by omega⟩, x, c41, cB fun p43 _ c43 => ⟨⟨by omega, by omega⟩, m, c43, ?_⟩⟩) fun _ j => fin⟩)
      have hox := hLs.go k x m hxm (by omega)
      have hxa : x ≠ a := fun e => by rw [e, hno] at hox; cases hox
      have hox3 : T3.out x = some m := by rw [ho3']; show (if x = a then _ else _) = _; rw [if_neg hxa]; exact hox
      have n1 := hI3.mem (stok H34) hox3
      rw [u64_id (n := x + m) (by omega) (by omega)]
      refine CND_dec (fun h3 => cA fun p45 _ c45 => ⟨⟨by omega, by omega⟩, x, c45, fun j2 => ?_⟩) fun _ j => fin
      rw [u64_id (n := a + byO j) (by omega) (by omega), decide_eq_false (fun h4 => hxa (hI3.apart hoa3 hox3 h3 h4).symm)]
      exact fin
    · obtain rfl : k = i := by omega
      have HA := mid3 H34
      refine AL_cells (vs := [.int .u64 a]) HA fun b47 w48 H48 _ => ?_
      refine APP_one (zs := #[.int .u64 0]) (bytes := 8) H48 rfl rfl (by simp [Value.oneCell']) (by omega) (by omega) fun s49 w50 H50 hl49 => ?_
      refine AL_cells (vs := [.int .u64 (byO j)]) (H50.front 1 rfl) fun b51 w52 H52 _ => ?_
      refine APP_one (zs := #[.int .u64 0]) (bytes := 8) H52 rfl rfl (by simp [Value.oneCell']) (by omega) (by omega) fun s53 w54 H54 hl53 => ?_
      have H55 : Sat (stres E b h T3 g' ++ [Row E.t_uint64 1 s49 (ints .u64 ((L ++ [(a, byO j)]).map (·.1))), Row E.t_uint64 1 s53 (ints .u64 ((L ++ [(a, byO j)]).map (·.2))), Old w]) w54 := by
        refine mid3b ?_
        have e1 : ints .u64 (L.map (·.1)) ++ [.int .u64 a] = ints .u64 ((L ++ [(a, byO j)]).map (·.1)) := by simp [ints]
        have e2 : ints .u64 (L.map (·.2)) ++ [.int .u64 (byO j)] = ints .u64 ((L ++ [(a, byO j)]).map (·.2)) := by simp [ints]
        rw [<- e1, <- e2]
        exact H54.front 1 rfl
      clear H54 H52 H50 H48 HA H34 H32 H28 H21 H9
      have hLs3 : Lst T3 (L ++ [(a, byO j)]) := hLs.snoc hno (by omega) ho3'
      have hI3' : StI T3 U' (512 + 8192 * ((k + 1 : Nat) : Int)) := hI3.mono (by omega)
      generalize hL2 : L ++ [(a, byO j)] = L2 at *
      have hLL : L2.length = k + 1 := by rw [<- hL2]; simp [hL]
      rw [i64_id (n := (k : Int) + 1) (by omega) (by omega)]
      have hk1 : ((k : Int) + 1) = ((k + 1 : Nat) : Int) := rfl
      rw [hk1]
      have next : ∀ {T4 : ST} {U4 : UB} {g4 : SG} {L4 : List (Int × Int)} {w'}, L4.length = k + 1 -> StI T4 U4 (512 + 8192 * ((k + 1 : Nat) : Int)) -> Lst T4 L4 -> Sat (stres E b h T4 g4 ++ [Row E.t_uint64 1 s49 (ints .u64 (L4.map (·.1))), Row E.t_uint64 1 s53 (ints .u64 (L4.map (·.2))), Old w]) w' ->
          (∃ (i : Nat) (T : ST) (U : UB) (g : SG) (L : List (Int × Int)), ((k + 1 : Nat) : Int) = (i : Int) /\ i <= a0.len /\ L.length = i /\ StI T U (512 + 8192 * i) /\ Lst T L /\
            Sat (stres E b h T g ++ [Row E.t_uint64 1 s49 (ints .u64 (L.map (·.1))), Row E.t_uint64 1 s53 (ints .u64 (L.map (·.2))), Old w]) w') /\ ((a0.len : Int) - ((k + 1 : Nat) : Int)).toNat < ((a0.len : Int) - (k : Int)).toNat := fun q1 q2 q3 q4 => ⟨⟨k + 1, _, _, _, _, rfl, by omega, q1, q2, q3, q4⟩, by omega⟩
      refine JOIN_intro (fun st w' => w' = w54 /\ (st.1 = true -> ∃ (q : Nat) (x m : Int), k < a2.len /\ z2 k = (q : Int) /\ L2[q]? = some (x, m) /\ m ≠ 0)) ?_ ?_
      · refine CND_dec (fun hk2 => ?_) fun _ => ⟨rfl, fun e => (by cases e)⟩
        obtain ⟨x2, hx2, hc2, _⟩ := (h2.oldI (old H55)).cell1 (show k < a2.len by omega)
        have c2 : w54.cell? (x2.add (Int.toNat (k : Int) * 1)) = some (.int .i64 (z2 k)) := by rw [Int.toNat_natCast, Nat.mul_one]; exact hc2
        rw [hx2]
        refine ⟨⟨by omega, by omega⟩, z2 k, c2, CND_dec (fun hge0 => ⟨⟨by omega, by omega⟩, z2 k, c2, CND_dec (fun hlt2 => ⟨⟨by omega, by omega⟩, z2 k, c2, ?_⟩) fun _ => ⟨rfl, fun e => (by cases e)⟩⟩) fun _ => ⟨rfl, fun e => (by cases e)⟩⟩
        obtain ⟨q, hq⟩ := Int.eq_ofNat_of_zero_le hge0
        rw [hq] at hlt2
        rw [hq]
        obtain ⟨⟨x, m⟩, hxm⟩ : ∃ xm, L2[q]? = some xm := ⟨_, List.getElem?_eq_getElem (by omega)⟩
        refine LCell ((mid3 H55).front 1 rfl) hxm fun p64 _ c64 _ => ⟨⟨by omega, by omega⟩, m, by rw [Int.toNat_natCast, Nat.mul_one]; exact c64, rfl, fun e => ⟨q, x, m, by omega, rfl, hxm, fun e0 => ?_⟩⟩
        have := of_decide_eq_true e
        omega
      rintro ⟨t, v⟩ _ w57 ⟨rfl, ht2⟩
      dsimp only at ht2 ⊢
      refine CND_intro (fun e => ?_) fun _ => next hLL hI3' hLs3 H55
      obtain ⟨q, x, m, hk2, hq, hxm, hm0⟩ := ht2 e
      have hql := (List.getElem?_eq_some_iff.1 hxm).1
      obtain ⟨x2, hx2, hc2, _⟩ := (h2.oldI (old H55)).cell1 (show k < a2.len by omega)
      rw [hx2]
      refine ⟨⟨by omega, by omega⟩, (q : Int), by rw [Int.toNat_natCast, Nat.mul_one, <- hq]; exact hc2, ?_⟩
      refine LCell (mid3 H55) hxm fun p68 b68 c68 _ => ⟨⟨by omega, by omega⟩, x, by rw [Int.toNat_natCast, Nat.mul_one]; exact c68, ?_⟩
      have hox := hLs3.go q x m hxm hm0
      have hmx := hI3'.mem (stok H55) hox
      refine stfree_gen hE.toEnvA HTz H55 hI3' hp hox fun T4 U4 g4 w72 hI4 ho4 H72 => ?_
      refine JOIN_in (LCell ((mid3 H72).front 1 rfl) hxm fun p76 b76 c76 _ => ⟨⟨by omega, by omega⟩, m, by rw [Int.toNat_natCast, Nat.mul_one]; exact c76, CND_ne (fun e => absurd rfl e) fun _ j5 => CND_f rfl ?_⟩)
      refine LCell (mid3 H72) hxm fun p78 _ c78 _ => ⟨⟨by omega, by omega⟩, x, by rw [Int.toNat_natCast, Nat.mul_one]; exact c78, ?_⟩
      refine stfree_none H72 hp (by rw [ho4]; exact if_pos rfl) (CND_ne (fun e => absurd rfl e) fun _ => ?_)
      refine LCell ((mid3 H72).front 1 rfl) hxm fun p83 b83 _ _ => ⟨⟨by omega, by omega⟩, ?_⟩
      rw [Int.toNat_natCast, Nat.mul_one]
      refine st_row ((mid3 H72).front 1 rfl) (j := q) rfl (by simp [ints]; exact hql) b83 fun w84 H84 => ?_
      have hset : ∀ (M : List (Int × Int)), M[q]? = some (x, m) -> (M.set q (x, 0)).map (·.1) = M.map (·.1) /\ (ints .u64 (M.map (·.2))).set q (.int .u64 0) = ints .u64 ((M.set q (x, 0)).map (·.2)) := fun M hM => by
        refine ⟨?_, by simp [ints, List.map_set]⟩
        rw [List.map_set]
        refine List.ext_getElem? fun j => ?_
        by_cases e : q = j
        · subst e
          rw [List.getElem?_set_self (by simp; exact (List.getElem?_eq_some_iff.1 hM).1), List.getElem?_map, hM]; rfl
        · rw [List.getElem?_set_ne e]
      obtain ⟨e1, e2⟩ := hset L2 hxm
      refine next (g4 := g4) (L4 := L2.set q (x, 0)) (by rw [List.length_set]; exact hLL) hI4 (hLs3.del hxm hm0 ho4) (mid3b ?_)
      rw [e1, <- e2]
      exact H84.front 1 rfl
  · -- the rest is given back
    obtain rfl : i = a0.len := by omega
    have hl1 : s1.len = a0.len := by
      have q1 := (mid3 H9).rowLen
      simp only [ints, List.length_map, Nat.mul_one] at q1
      omega
    have hl2 : s2.len = a0.len := by
      have q1 := ((mid3 H9).front 1 rfl).rowLen
      simp only [ints, List.length_map, Nat.mul_one] at q1
      omega
    rw [hl1]
    refine LOOP_intro (fun st w' => ∃ (k : Nat) (T1 : ST) (U1 : UB) (g1 : SG) (L1 : List (Int × Int)), st.1 = (k : Int) /\ k <= a0.len /\ StI T1 U1 (512 + 8192 * a0.len) /\ Lst T1 L1 /\ L1.length = a0.len /\ (∀ j, k <= j -> L1[j]? = L[j]?) /\ (∀ j x m, j < k -> L1[j]? = some (x, m) -> m = 0) /\
        Sat (stres E b h T1 g1 ++ [Row E.t_uint64 1 s1 (ints .u64 (L.map (·.1))), Row E.t_uint64 1 s2 (ints .u64 (L.map (·.2))), Old w]) w') (fun st _ => ((a0.len : Int) - st.1).toNat)
      ⟨0, T, U, g1', L, rfl, Nat.zero_le _, hI, hLs, hL, fun _ _ => rfl, fun j _ _ hj => absurd hj (Nat.not_lt_zero _), H9⟩ ?_
    rintro ⟨k', v⟩ _ w86 ⟨k, T1, U1, g1, L1, hk, hki, hI1, hLs1, hL1, hsame, hzero, H86⟩
    dsimp only at hk ⊢
    subst hk
    refine CND_dec (fun hklt => ?_) fun hkge => ?_
    · obtain ⟨⟨x, m⟩, hxm⟩ : ∃ xm, L[k]? = some xm := ⟨_, List.getElem?_eq_getElem (by omega)⟩
      have hxm1 : L1[k]? = some (x, m) := (hsame k (Nat.le_refl _)).trans hxm
      refine LCell ((mid3 H86).front 1 rfl) hxm fun p88 _ c88 _ => ⟨⟨by omega, by omega⟩, m, by rw [Int.toNat_natCast, Nat.mul_one]; exact c88, ?_⟩
      rw [i64_id (n := (k : Int) + 1) (by omega) (by omega)]
      refine CND_dec (fun hm => ?_) fun hm => ⟨⟨k + 1, T1, U1, g1, L1, rfl, by omega, hI1, hLs1, hL1, fun j hj => hsame j (by omega), fun j y n hj hy => ?_, H86⟩, by omega⟩
      · refine LCell (mid3 H86) hxm fun p90 _ c90 _ => ⟨⟨by omega, by omega⟩, x, by rw [Int.toNat_natCast, Nat.mul_one]; exact c90, ?_⟩
        rw [idx63 (show k < 64 by omega)]
        refine stfree_gen hE.toEnvA HTz H86 hI1 (show k < 64 by omega) (hLs1.go k x m hxm1 (by omega)) fun T4 U4 g4 w94 hI4 ho4 H94 => CND_ne (fun e => absurd rfl e) fun _ => ?_
        refine ⟨⟨k + 1, T4, U4, g4, L1.set k (x, 0), rfl, by omega, hI4, hLs1.del hxm1 (by omega) ho4, by rw [List.length_set]; exact hL1, fun j hj => ?_, fun j y n hj hy => ?_, H94⟩, by omega⟩
        · rw [List.getElem?_set_ne (by omega)]; exact hsame j (by omega)
        · by_cases e : j = k
          · subst e
            rw [List.getElem?_set_self (by omega)] at hy
            cases hy; rfl
          · rw [List.getElem?_set_ne (fun e2 => e e2.symm)] at hy
            exact hzero j y n (by omega) hy
      · by_cases e : j = k
        · subst e
          rw [hxm1] at hy; cases hy
          have := hLs1.po j x m hxm1
          omega
        · exact hzero j y n (by omega) hy
    · -- all are flushed
      have hnone : ∀ x, T1.out x = none := fun x => by
        cases ho : T1.out x with
        | none => rfl
        | some m =>
          obtain ⟨j, hj⟩ := hLs1.bk x m ho
          have hjl := (List.getElem?_eq_some_iff.1 hj).1
          have := hzero j x m (by omega) hj
          have := (hI1.mem (stok H86) ho).2.2.1
          omega
      refine LOOP_intro (fun st w' => ∃ (q : Nat) (T2 : ST) (U2 : UB) (g2 : SG), st.1 = (q : Int) /\ q <= 64 /\ StI T2 U2 (512 + 8192 * a0.len) /\ (∀ x, T2.out x = none) /\ (∀ r o, r < q -> o < 4 -> T2.row (4 * r + o) = []) /\
          Sat (stres E b h T2 g2 ++ [Row E.t_uint64 1 s1 (ints .u64 (L.map (·.1))), Row E.t_uint64 1 s2 (ints .u64 (L.map (·.2))), Old w]) w') (fun st _ => (64 - st.1).toNat)
        ⟨0, T1, U1, g1, rfl, by decide, hI1, hnone, fun r _ hr => absurd hr (Nat.not_lt_zero _), H86⟩ ?_
      rintro ⟨q', v⟩ _ w96 ⟨q, T2, U2, g2, hq, hq64, hI2, hno2, hrow2, H96⟩
      dsimp only at hq ⊢
      subst hq
      refine CND_dec (fun hqlt => ?_) fun hqge => ?_
      · refine stflush_gen hE.toEnvA HTz H96 hI2 (show q < 64 by omega) fun T3 U3 g3 w98 hI3 ho3 hr3 hk3 H98 => ?_
        rw [i64_id (n := (q : Int) + 1) (by omega) (by omega)]
        refine ⟨⟨q + 1, T3, U3, g3, rfl, by omega, hI3, fun x => by rw [ho3]; exact hno2 x, fun r o hr ho => ?_, H98⟩, by omega⟩
        by_cases e : r = q
        · rw [e]; exact hr3 o ho
        · rw [hk3 r o ho e]; exact hrow2 r o (by omega) ho
      · have hall : ∀ id, T2.S.sp id = none := hI2.over hno2 fun r o hr ho => hrow2 r o (by omega) ho
        obtain ⟨R, HH, hz, hb⟩ := H96.stHeap
        refine hpages_spec HH hI2.inv fun w102 H102 => CND_eq (fun _ => ?_) fun e => absurd (over_pages hI2.inv hall) e
        have H103 := hb (S2 := T2.S) (fun _ _ _ _ => rfl) H102
        have nil : ∀ l : List Int, (∀ n ∈ l, T2.S.sp n ≠ none) -> l = [] := fun l hl => by
          cases l with
          | nil => rfl
          | cons y l => exact absurd (hall y) (hl y List.mem_cons_self)
        refine inuse_spec hE H103 hI2.inv (fun l _ hl => by rw [nil l hl]; decide) fun l w104 _ hl H104 => ?_
        rw [nil l fun n hn => (hl n).1 hn]
        refine CND_eq (fun _ => ?_) fun e => absurd rfl e
        obtain ⟨R3, HH3, hz3, hb3⟩ := H104.stHeap
        refine hspans_spec hE HH3 (fun l _ hl => by rw [nil l hl]; decide) fun s l w106 _ hl H106 => ?_
        have hs := H106.rowLen
        rw [nil l fun n hn => (hl n).1 hn] at hs
        simp only [ints, List.map_nil, List.length_nil, Nat.mul_one] at hs
        refine CND_eq (fun _ => ?_) fun e => absurd (by omega) e
        exact awake21_spec hE HTz (hz3 H106.tail.tail) fun w108 H108 => hK w108 (H108.old 2 rfl)
end
end Go.Sh

namespace Go.Proofs.YthhljkidhpnccaaGreatDoor.stacksApart
open Go.ChangeShapes Go.WideShapes Go.ChangeAt Go.RowKit
set_option linter.unusedVariables false
set_option linter.unusedSimpArgs false
theorem own : ownKnob Tryz.prog.godebug = none := by kernel_rfl
theorem laidOut : laidOutB Tryz.prog = true := by kernel_rfl
theorem gTab : Tryz.prog.globalNamed "math/bits.deBruijn64tab" = some 0 := by kernel_rfl
theorem gTabType : (Tryz.prog.globals[0]?).map (·.type) = some 132 := by kernel_rfl
theorem und1 : Tryz.prog.underlying 132 = some (.array 64 5) := by kernel_rfl
theorem und2 : Tryz.prog.underlying 5 = some (.int .u8) := by kernel_rfl
theorem cells1 : Tryz.prog.cellsOf 132 = 64 := by kernel_rfl
theorem cells2 : Tryz.prog.cellsOf 5 = 1 := by kernel_rfl
theorem table {W : World} (h : laidMetH Tryz.prog Rows.stacksApartRow.laid W) : Go.Sh.TabAt Go.Sh.env.g_math_bits_deBruijn64tab W := by
  have ht := Lib.tabIs_of_head (rest := []) (k := .u8) (zs := Lib.deBruijn64tab.map fun n : Nat => (n : Int)) gTab gTabType und1 und2 cells2 cells1 h
  intro i hi
  have := ht.cell gTab i (by rw [List.length_map]; exact hi)
  rw [show (Lib.deBruijn64tab.map fun n : Nat => (n : Int)).getD i 0 = ((Lib.deBruijn64tab.getD i 0 : Nat) : Int) by rw [List.getD_eq_getElem?_getD, List.getD_eq_getElem?_getD, List.getElem?_map]; cases Lib.deBruijn64tab[i]? <;> rfl] at this
  exact this
theorem walk (x : Go.Sh.ArgTs [.sl (.int .i64), .sl (.int .i64), .sl (.int .i64)]) (w : World) (h : Go.Sh.argOks w [.sl (.int .i64), .sl (.int .i64), .sl (.int .i64)] x) (hT : Go.Sh.TabAt Go.Sh.env.g_math_bits_deBruijn64tab w) :
    Calls Tryz.prog 3 ⟨Go.Sh.argVals [.sl (.int .i64), .sl (.int .i64), .sl (.int .i64)] x⟩ w fun e w' => e = .returned (.bool true) /\ Below w.heap.size w w' := by
  obtain ⟨a0, a1, a2, u⟩ := x
  obtain ⟨w0, w1, w2, _⟩ := h
  obtain ⟨z0, w0⟩ := w0
  obtain ⟨z1, w1⟩ := w1
  obtain ⟨z2, w2⟩ := w2
  refine (Go.Sh.fits3 _ w (fun v w' => v = .bool true /\ Below w.heap.size w w') Go.Sh.noP ?_).2.mono ?_
  · show Go.Sh.F.mallowlaw21_StacksApart Go.Sh.env a0 a1 a2 (fun r w' => Value.bool r = .bool true /\ Below w.heap.size w w') w
    exact Go.Sh.apart21_spec Go.Sh.envH hT w0 w1 w2 fun w' h => ⟨rfl, h.below (Nat.le_refl _) fun _ f => f.elim⟩
  · intro e w' hE
    obtain ⟨v, rfl, rfl, h⟩ := hE.val
    exact ⟨rfl, h⟩
noncomputable def laidWorld (os : Os) : World :=
  { World.holding Tryz.prog os ⟨#[], #[], []⟩ with heap := (World.holding Tryz.prog os ⟨#[], #[], []⟩).heap.modify 0 fun
      | .cells _ t frozen => .cells ⟨Lib.deBruijn64tab.map fun n : Nat => .int .u8 (n : Int)⟩ t frozen
      | o => o }
theorem laid_met (os : Os) : laidMet Tryz.prog Rows.stacksApartRow.laid ((laidWorld os).forCall (fun _ _ => 0) ⟨#[], #[.slice none 0 0, .slice none 0 0, .slice none 0 0], []⟩).memory :=
  laidMet_of_run' 8 (by kernel_rfl) (by kernel_rfl)
theorem reads (os : Os) {H : Type} (enc : TypeId × Value -> H) : ∃ places, DataW.whole enc Tryz.prog ((laidWorld os).forCall (fun _ _ => 0) ⟨#[], #[.slice none 0 0, .slice none 0 0, .slice none 0 0], []⟩).memory Tryz.f3.params.toList Rows.stacksApartSpec.vars false (#[.slice none 0 0, .slice none 0 0, .slice none 0 0] : Array Value).toList 8 = some ([.nil, .nil, .nil], [], places) :=
  ⟨[], by kernel_rfl⟩
set_option maxRecDepth 100000 in
theorem lifted (os : Os) (started : os.Started) (H : Type) (enc : TypeId × Value -> H) (F : Stop.Interp) :
    ReturnsInHanded {} Tryz.checked os 3 .any ((OpenSpec.ofChange Rows.stacksApartSpec).preRow enc Tryz.prog Tryz.f3 Rows.stacksApartRow.domain false Rows.stacksApartRow.laid) (((OpenSpec.ofChange Rows.stacksApartSpec).at F).post enc Tryz.prog Tryz.f3 false true false false) := by
  obtain ⟨places, hx⟩ := reads os enc
  refine returnsInHanded_of_row (C := Tryz.checked) (s := OpenSpec.ofChange Rows.stacksApartSpec) own started (by kernel_rfl) Tryz.func3
    (witness_row_at (enc := enc) (C := Tryz.checked) false (laidWorld os) #[.slice none 0 0, .slice none 0 0, .slice none 0 0] rfl (by kernel_rfl) (by kernel_rfl) (by kernel_rfl)
      (OpenSpec.preRow_of_cond 8 hx (by kernel_rfl) (fun k hk => by cases hk) (by kernel_rfl) (laid_met os))) ?_
  intro W base args ds gs before hval0 hW _ _ _ hL _ _
  have hW' := hW
  obtain ⟨p, q, hA, hV, rfl, hfz, hnd⟩ := hW
  obtain ⟨rfl, rfl⟩ := trodVars_none hV
  have hargs := Go.Sh.args_of (P := Tryz.prog) (shs := [.sl (.int .i64), .sl (.int .i64), .sl (.int .i64)]) (by kernel_rfl) (fun j t v ht hv => hval0 j t v (by simpa using ht) (by simpa using hv)) hA
  obtain ⟨x, hx, hok⟩ := Go.Sh.argVals_of hargs
  obtain rfl : args = ⟨Go.Sh.argVals [.sl (.int .i64), .sl (.int .i64), .sl (.int .i64)] x⟩ := Array.toList_inj.1 (by simpa using hx)
  have hlen := Go.Sh.trodAll_len hA
  obtain ⟨d0, d1, d2, rfl⟩ : ∃ d0 d1 d2, ds = [d0, d1, d2] := by
    have hl : ds.length = 3 := hlen
    match ds, hl with
    | [d0, d1, d2], _ => exact ⟨d0, d1, d2, rfl⟩
  refine (walk x W hok (table hL)).mono fun e W' ⟨he, bel⟩ => ?_
  subst he
  exact ⟨_, rfl, _, _, _, [], _, [], hW', trodAll_mk1 (shut_bool Tryz.underlying4 _), Go.Sh.trodAll_below laidOut bel (by kernel_rfl) hA, rfl, bel.frame _, fun h => by cases h⟩
theorem said : Rows.StacksApartSaid :=
  OpenClaim.holds_of_cond 3 Tryz.f3 rfl rfl rfl rfl rfl rfl rfl ⟨rfl, rfl, rfl, rfl, rfl⟩ rfl rfl rfl rfl rfl (by kernel_rfl) Tryz.func3 (by kernel_rfl)
    (of_decide_eq_true (by kernel_rfl)) (by unfold Func.isWrapper; first | (rw [if_pos (by decide +kernel)]; kernel_rfl) | (rw [if_neg (by decide +kernel)]; exact ⟨rfl, rfl⟩))
    (fun os started H enc _ F => by rw [OpenClaim.pre_eq_preRow]; exact lifted os started H enc F)
theorem plain (f : FuncId) (fn : Func) (hf : Tryz.pinned.checked.prog.funcNamed "mallow/mallowlaw21.StacksApart" = some f) (hfn : Tryz.pinned.checked.prog.funcs[f]? = some fn) :
    true = Tryz.pinned.checked.prog.looks [] /\ ∀ (j : Nat) t, fn.params[j]? = some t -> Tryz.pinned.checked.prog.wantsStandIn t = false := by
  obtain rfl : f = 3 := Option.some.inj ((show Tryz.prog.funcNamed "mallow/mallowlaw21.StacksApart" = some 3 by kernel_rfl).symm.trans hf) |>.symm
  obtain rfl : fn = Tryz.f3 := (Option.some.inj (Tryz.func3.symm.trans hfn)).symm
  refine ⟨by kernel_rfl, fun j t ht => ?_⟩
  have hall : (Tryz.f3.params.toList.all fun t => !(Tryz.prog.wantsStandIn t)) = true := by kernel_rfl
  have := List.all_eq_true.1 hall t (Array.mem_toList_iff.2 (Array.mem_of_getElem? ht))
  exact Bool.not_eq_true' _ ▸ this
theorem proved : Rows.StacksApartCardSaid :=
  Claim7.holds_tied_plain_at .later [] _ _ _ _ said (fun _ h => by cases h) (by kernel_rfl) (fun _ h => by cases h) stacksApart_row_tie rfl ⟨rfl, rfl⟩ (by kernel_rfl) rfl plain (by kernel_rfl)
#print axioms proved
end Go.Proofs.YthhljkidhpnccaaGreatDoor.stacksApart
