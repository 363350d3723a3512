/- The law SweepMarked holds (its card: math/bits' table as the program's text lays it): for every input the Go function returns true and leaves its arguments alone. No further condition. -/
import Derived.Test.YtdnkgjeggfhfiaaGreatDoorW2
import Derived.Test.YtdnkgjeggfhfiaaGreatDoorQ
import Derived.Test.YtdnkgjeggfhfiaaGreatDoorA
import Derived.Test.YtdnkgjeggfhfiaaGreatDoorCards
import Derived.Test.YtdnkgjeggfhfiaaGreatDoorTie
import Derived.WalkKit
import Derived.ProofKit
import Derived.OpenShut
import Derived.Deep.DeepHandedRow
import Derived.Lib.LaidTab
set_option linter.all false
set_option maxRecDepth 8000
set_option maxHeartbeats 4000000
namespace Go.Sh
theorem mkOf_first {S T : HS} {bl : Nat} {n c : Int} {np : Bool} {I : SI} (hF : First T bl n c np) (hsp : S.sp 1 = some (bl, I)) (hown : S.own = T.own) (hb : I.base = 512 * 8192) (hok : SpOk I) (hp : I.pages = n) {k : Nat} {o : Int} (hk : (k : Int) < I.slots) (h0 : 0 <= o) (h1 : o < I.elem) :
  mkOf S (512 * 8192 + k * I.elem + o) = some (1, k) := by
 have hsz := hok.size
 have e1 : ((k : Int) + 1) * I.elem <= I.slots * I.elem := Int.mul_le_mul_of_nonneg_right (by omega) (by omega)
 have e2 : ((k : Int) + 1) * I.elem = k * I.elem + I.elem := by rw [Int.add_mul, Int.one_mul]
 have e3 : 0 <= (k : Int) * I.elem := Int.mul_nonneg (by omega) (by omega)
 have e4 := hsz.2.2.2.2
 rw [Int.mul_comm I.elem, hp] at e4
 unfold mkOf
 have ho : S.own ((512 * 8192 + k * I.elem + o) / 8192) = 1 := by rw [hown, hF.own, if_pos (by omega)]
 rw [ho, hsp]
 simp only
 rw [hb, if_pos (by omega)]
 congr 2
 rw [show 512 * 8192 + (k : Int) * I.elem + o - 512 * 8192 = o + k * I.elem by omega, Int.add_mul_ediv_right _ _ (by omega), Int.ediv_eq_zero_of_lt h0 h1]
 omega
section
variable {E : Env} {w : World} {Rs Z : List Pr} (hE : EnvW E)
include hE
end
end Go.Sh

set_option linter.all false
set_option maxRecDepth 8000
set_option maxHeartbeats 4000000
namespace Go.Sh
section
variable {E : Env} {w : World} {Z : List Pr} {b h s r : Nat} {W : SW} {U M : Bits}
variable (hE : EnvW E)
include hE
end
end Go.Sh

set_option linter.all false
set_option maxRecDepth 8000
set_option maxHeartbeats 4000000
namespace Go.Sh
structure FinR (R : List Rc) (base elem : Int) (a : Nat) (fin : Nat -> Bool) : Prop where
 kd : ∀ y ∈ R, y.kind = 1
 nd : (R.map (·.addr)).Nodup
 m1 : ∀ y ∈ R, ∃ k : Nat, k < a /\ fin k = true /\ y.addr = base + k * elem
 m2 : ∀ k : Nat, k < a -> fin k = true -> ∃ y ∈ R, y.addr = base + k * elem
theorem remF_len : ∀ {R : List Rc} {a : Int}, (∀ y ∈ R, y.kind = 1) -> (R.map (·.addr)).Nodup -> (∃ y ∈ R, y.addr = a) -> (remF R a).length + 1 = R.length
 | [], _, _, _, h => by obtain ⟨y, hy, _⟩ := h; cases hy
 | x :: R, a, hk, hn, h => by
  have hx := hk x List.mem_cons_self
  rw [List.map_cons, List.nodup_cons] at hn
  by_cases e : x.addr = a
  ·have h1 : remF (x :: R) a = R := by
    unfold remF
    rw [List.filter_cons]
    have : (!isFin a x) = false := by unfold isFin; simp [e, hx]
    rw [this]
    show List.filter _ R = R
    refine List.filter_eq_self.2 fun y hy => ?_
    unfold isFin
    have : y.addr ≠ a := fun e2 => hn.1 (List.mem_map.2 ⟨y, hy, by show y.addr = x.addr; rw [e2, e]⟩)
    simp [this]
   rw [h1]; rfl
  ·have h1 : remF (x :: R) a = x :: remF R a := by
    unfold remF
    rw [List.filter_cons]
    have : (!isFin a x) = true := by unfold isFin; simp [e]
    rw [this]; rfl
   rw [h1, List.length_cons, List.length_cons]
   obtain ⟨y, hy, hya⟩ := h
   rcases List.mem_cons.1 hy with rfl | hy
   ·exact absurd hya e
   ·rw [remF_len (fun z hz => hk z (List.mem_cons_of_mem _ hz)) hn.2 ⟨y, hy, hya⟩]
theorem adr_inj {base elem : Int} (he : 0 < elem) {j k : Nat} (h : base + (j : Int) * elem = base + k * elem) : j = k := by
 have h : (j : Int) * elem = k * elem := by omega
 have := Int.eq_of_mul_eq_mul_right (by omega : elem ≠ 0) h
 omega
theorem spRun_fin {u m : Nat -> Bool} {base elem : Int} {a : Nat} {fin : Nat -> Bool} {R em : List Rc} (he : 0 < elem) (h : FinR R base elem a fin) (ha : ∀ k, fin k = true -> k < a) : ∀ n : Nat,
  (∀ i, (spRun u base elem n ⟨R, m, em⟩).m i = (m i || (decide (i < n) && (u i && !m i && fin i)))) /\
  (spRun u base elem n ⟨R, m, em⟩).em.length = em.length + cN (fun i => u i && !m i && fin i) n /\
  FinR (spRun u base elem n ⟨R, m, em⟩).R base elem a (fun k => fin k && !(decide (k < n) && (u k && !m k && fin k))) /\
  (spRun u base elem n ⟨R, m, em⟩).R.length + cN (fun i => u i && !m i && fin i) n = R.length
 | 0 => by
  refine ⟨fun i => by simp [spRun], by simp [spRun, cN], ?_, by simp [spRun, cN]⟩
  show FinR R base elem a _
  have : (fun k => fin k && !(decide (k < 0) && (u k && !m k && fin k))) = fin := by funext k; simp
  rw [this]; exact h
 | n + 1 => by
  obtain ⟨h1, h2, h3, h4⟩ := spRun_fin (u := u) (m := m) (em := em) he h ha n
  show (∀ i, (spStep u base elem n _).m i = _) /\ (spStep u base elem n _).em.length = em.length + (cN _ n + (u n && !m n && fin n).toNat) /\ FinR (spStep u base elem n _).R base elem a _ /\ (spStep u base elem n _).R.length + (cN _ n + (u n && !m n && fin n).toNat) = R.length
  generalize spRun u base elem n ⟨R, m, em⟩ = t at h1 h2 h3 h4
  have hmn : t.m n = m n := by rw [h1]; simp
  have fcong : ∀ {g : Nat -> Bool}, (∀ k, g k = (fin k && !(decide (k < n + 1) && (u k && !m k && fin k)))) -> ∀ {R' : List Rc}, FinR R' base elem a g -> FinR R' base elem a (fun k => fin k && !(decide (k < n + 1) && (u k && !m k && fin k))) := fun hg R' hR => by
   have : _ = (fun k => fin k && !(decide (k < n + 1) && (u k && !m k && fin k))) := funext hg
   rw [<- this]; exact hR
  have lt1 : ∀ k, k ≠ n -> decide (k < n + 1) = decide (k < n) := fun k hk => by
   by_cases g : k < n
   ·rw [decide_eq_true g, decide_eq_true (by omega)]
   ·rw [decide_eq_false g, decide_eq_false (by omega)]
  cases hq : (u n && !m n && fin n) with
  | true =>
   simp only [Bool.and_eq_true, Bool.not_eq_true'] at hq
   obtain ⟨⟨q1, q2⟩, q3⟩ := hq
   have hlt := ha n q3
   obtain ⟨y, hy, hya⟩ := h3.m2 n hlt (by rw [q3]; simp)
   have hstep : spStep u base elem n t = ⟨remF t.R (base + n * elem), fun i => t.m i || i == n, (t.em ++ [⟨0, base + n * elem, 1, ((t.R.find? (isFin (base + n * elem))).getD y).data⟩])⟩ := by
    unfold spStep
    rw [if_pos ⟨q1, by rw [hmn]; exact q2⟩]
    cases hf : t.R.find? (isFin (base + n * elem)) with
    | some z => rfl
    | none =>
     rw [List.find?_eq_none] at hf
     exact absurd (by unfold isFin; simp [hya, h3.kd y hy]) (hf y hy)
   rw [hstep]
   refine ⟨fun i => ?_, ?_, ?_, ?_⟩
   ·show (t.m i || i == n) = _
    rw [h1]
    by_cases e : i = n
    ·subst e; simp [q1, q2, q3]
    ·rw [lt1 i e, show (i == n) = false by simpa using e, Bool.or_false]
   ·show (t.em ++ [_]).length = _
    rw [List.length_append, h2]; simp; omega
   ·refine ⟨fun z hz => h3.kd z (List.mem_filter.1 hz).1, List.Pairwise.sublist (List.Sublist.map _ List.filter_sublist) h3.nd, fun z hz => ?_, fun k hk hfk => ?_⟩
    ·obtain ⟨z1, z2⟩ := List.mem_filter.1 hz
     obtain ⟨k, k1, k2, k3⟩ := h3.m1 z z1
     refine ⟨k, k1, ?_, k3⟩
     have hne : k ≠ n := fun e => by
      subst e
      unfold isFin at z2
      simp [k3, h3.kd z z1] at z2
     show (fin k && !(decide (k < n + 1) && (u k && !m k && fin k))) = true
     rw [lt1 k hne]; exact k2
    ·have hne : k ≠ n := fun e => by
      subst e
      have hfk : (fin k && !(decide (k < k + 1) && (u k && !m k && fin k))) = true := hfk
      rw [q1, q2, q3] at hfk
      simp at hfk
     have hfk : (fin k && !(decide (k < n + 1) && (u k && !m k && fin k))) = true := hfk
     rw [lt1 k hne] at hfk
     obtain ⟨z, z1, z2⟩ := h3.m2 k hk hfk
     refine ⟨z, List.mem_filter.2 ⟨z1, ?_⟩, z2⟩
     unfold isFin
     have : z.addr ≠ base + n * elem := fun e => hne (adr_inj he (z2.symm.trans e))
     simp [this]
   ·have := remF_len h3.kd h3.nd ⟨y, hy, hya⟩
    show (remF t.R _).length + (_ + 1) = _
    omega
  | false =>
   have hsame : spStep u base elem n t = t := by
    by_cases g : u n = true /\ m n = false
    ·have hfn : fin n = false := by
      cases e : fin n with
      | false => rfl
      | true => rw [g.1, g.2, e] at hq; cases hq
     refine spStep_none fun y hy hya => ?_
     obtain ⟨k, _, k2, k3⟩ := h3.m1 y hy
     have : k = n := adr_inj he (k3.symm.trans hya)
     subst this
     have k2 : (fin k && _) = true := k2
     rw [hfn] at k2; cases k2
    ·unfold spStep
     rw [if_neg (by rw [hmn]; exact g)]
   rw [hsame]
   refine ⟨fun i => ?_, by rw [h2]; rfl, fcong (fun k => ?_) h3, by rw [<- h4]; rfl⟩
   ·rw [h1]
    by_cases e : i = n
    ·subst e; rw [hq]; simp
    ·rw [lt1 i e]
   ·by_cases e : k = n
    ·subst e; rw [hq]; simp
    ·rw [lt1 k e]
end Go.Sh

set_option linter.all false
set_option maxRecDepth 8000
set_option maxHeartbeats 8000000
namespace Go.Sh
section
variable {E : Env} {w : World} (hE : EnvW E)
include hE
end
end Go.Sh

set_option linter.all false
set_option maxRecDepth 8000
set_option maxHeartbeats 8000000
namespace Go.Sh
structure MkR (N : Nat) (elem : Int) (mk : List Bool) (As : List Int) : Prop where
 ln : mk.length = N
 a1 : ∀ a ∈ As, ∃ (j : Nat) (o : Int), j < N /\ mk[j]? = some true /\ 0 <= o /\ o < elem /\ a = 512 * 8192 + j * elem + o
 a2 : ∀ j : Nat, mk[j]? = some true -> ∃ a ∈ As, ∃ o : Int, 0 <= o /\ o < elem /\ a = 512 * 8192 + j * elem + o
theorem MkR.nil (N : Nat) (elem : Int) : MkR N elem (List.replicate N false) [] := ⟨List.length_replicate, fun a ha => (by cases ha), fun j hj => by
 rw [List.getElem?_replicate] at hj
 split at hj <;> cases hj⟩
theorem MkR.add {N : Nat} {elem : Int} {mk : List Bool} {As : List Int} (h : MkR N elem mk As) {j : Nat} (hj : j < N) {o : Int} (o0 : 0 <= o) (o1 : o < elem) : MkR N elem (mk.set j true) (As ++ [512 * 8192 + j * elem + o]) := by
 have hself : (mk.set j true)[j]? = some true := by rw [List.getElem?_set_self (by rw [h.ln]; exact hj)]
 refine ⟨by rw [List.length_set]; exact h.ln, fun a ha => ?_, fun k hk => ?_⟩
 ·rcases List.mem_append.1 ha with ha | ha
  ·obtain ⟨k, p, q1, q2, q3, q4, q5⟩ := h.a1 a ha
   refine ⟨k, p, q1, ?_, q3, q4, q5⟩
   by_cases e : j = k
   ·rw [<- e]; exact hself
   ·rw [List.getElem?_set_ne e]; exact q2
  ·exact ⟨j, o, hj, hself, o0, o1, List.mem_singleton.1 ha⟩
 ·by_cases e : j = k
  ·subst e
   exact ⟨_, List.mem_append_right _ (List.mem_singleton.2 rfl), o, o0, o1, rfl⟩
  ·rw [List.getElem?_set_ne e] at hk
   obtain ⟨a, q1, q2⟩ := h.a2 k hk
   exact ⟨a, List.mem_append_left _ q1, q2⟩
theorem MkR.marks {N : Nat} {elem : Int} {mk : List Bool} {As : List Int} (h : MkR N elem mk As) {S : HS} (hm : ∀ (j : Nat) (o : Int), j < N -> 0 <= o -> o < elem -> mkOf S (512 * 8192 + j * elem + o) = some (1, j)) {M : Bits} (hM : ∀ m, M 1 m = false) (m : Nat) : (M.mark S As) 1 m = (mk[m]? == some true) := by
 unfold Bits.mark
 rw [hM, Bool.false_or]
 by_cases e : mk[m]? = some true
 ·obtain ⟨a, ha, o, o0, o1, rfl⟩ := h.a2 m e
  have hlt : m < N := by rw [<- h.ln]; exact (List.getElem?_eq_some_iff.1 e).1
  rw [e, List.any_eq_true.2 ⟨_, ha, decide_eq_true (hm m o hlt o0 o1)⟩]
  rfl
 ·rw [show (mk[m]? == some true) = false by simpa using e, Bool.eq_false_iff]
  intro g
  obtain ⟨a, ha, g2⟩ := List.any_eq_true.1 g
  obtain ⟨j, o, hj, hmk, o0, o1, rfl⟩ := h.a1 a ha
  have g2 := of_decide_eq_true g2
  rw [hm j o hj o0 o1] at g2
  injection g2 with g2
  injection g2 with _ g3
  subst g3
  exact e hmk
def fB (l : List Bool) : Nat -> Bool := fun k => l[k]? == some true
theorem fB_set {l : List Bool} {j : Nat} (hj : j < l.length) : fB (l.set j true) = fun k => fB l k || k == j := by
 funext k
 unfold fB
 by_cases e : j = k
 ·subst e
  rw [List.getElem?_set_self hj]; simp
 ·rw [List.getElem?_set_ne e, show (k == j) = false by simpa using fun h : k = j => e h.symm, Bool.or_false]
theorem fB_lt {l : List Bool} {k : Nat} (h : fB l k = true) : k < l.length := by
 unfold fB at h
 exact (List.getElem?_eq_some_iff.1 (by simpa using h)).1
theorem FinR.add {A B : List Rc} {base elem : Int} {a vn blk : Nat} {d : Int} {fn : List Bool} (h : FinR (A ++ B) base elem a (fB fn)) (hln : fn.length = a) (hvn : vn < a) (hno : ∀ x ∈ A ++ B, ¬ (x.addr = base + vn * elem /\ x.kind = 1)) :
  FinR (A ++ ⟨blk, base + vn * elem, 1, d⟩ :: B) base elem a (fB (fn.set vn true)) := by
 have hm : ∀ y, y ∈ A ++ (⟨blk, base + vn * elem, 1, d⟩ : Rc) :: B ↔ y = ⟨blk, base + vn * elem, 1, d⟩ ∨ y ∈ A ++ B := fun y => by
  simp only [List.mem_append, List.mem_cons]
  constructor
  ·rintro (h | h | h)
   ·exact .inr (.inl h)
   ·exact .inl h
   ·exact .inr (.inr h)
  ·rintro (h | h | h)
   ·exact .inr (.inl h)
   ·exact .inl h
   ·exact .inr (.inr h)
 have hp : (A ++ (⟨blk, base + vn * elem, 1, d⟩ : Rc) :: B).Perm (⟨blk, base + vn * elem, 1, d⟩ :: (A ++ B)) := List.perm_middle
 rw [fB_set (by rw [hln]; exact hvn)]
 refine ⟨fun y hy => ?_, ?_, fun y hy => ?_, fun k hk hf => ?_⟩
 ·rcases (hm y).1 hy with rfl | hy
  ·rfl
  ·exact h.kd y hy
 ·refine ((hp.map (·.addr)).nodup_iff).2 ?_
  rw [List.map_cons, List.nodup_cons]
  refine ⟨fun g => ?_, h.nd⟩
  obtain ⟨y, hy, hya⟩ := List.mem_map.1 g
  exact hno y hy ⟨hya, h.kd y hy⟩
 ·rcases (hm y).1 hy with rfl | hy
  ·exact ⟨vn, hvn, by simp, rfl⟩
  ·obtain ⟨k, k1, k2, k3⟩ := h.m1 y hy
   exact ⟨k, k1, by rw [k2]; rfl, k3⟩
 ·by_cases e : k = vn
  ·subst e; exact ⟨_, (hm _).2 (.inl rfl), rfl⟩
  ·have hf : (fB fn k || k == vn) = true := hf
   rw [show (k == vn) = false by simpa using e, Bool.or_false] at hf
   obtain ⟨y, hy, hya⟩ := h.m2 k hk hf
   exact ⟨y, (hm y).2 (.inr hy), hya⟩
theorem FinR.nil (base elem : Int) (a : Nat) : FinR [] base elem a (fB (List.replicate a false)) := ⟨fun y hy => (by cases hy), List.nodup_nil, fun y hy => (by cases hy), fun k _ hf => by
 unfold fB at hf
 rw [List.getElem?_replicate] at hf
 split at hf <;> cases hf⟩
end Go.Sh

set_option linter.all false
set_option maxRecDepth 8000
set_option maxHeartbeats 8000000
namespace Go.Sh
theorem flags_rep (n : Nat) : flags n (fun _ => false) = bools (List.replicate n false) := by
 unfold bools flags
 refine List.ext_getElem (by simp) fun i h1 h2 => by simp
theorem bools_set (l : List Bool) (j : Nat) : (bools l).set j (.bool true) = bools (l.set j true) := by
 unfold bools; rw [List.map_set]
theorem boolsAt {l : List Bool} {j : Nat} {v : Bool} (h : l[j]? = some v) : (bools l)[j]? = some (.bool v) := by
 unfold bools; rw [List.getElem?_map, h]; rfl
section
variable {E : Env} {w : World} {Rs Z : List Pr} (hE : EnvW E)
include hE
theorem marked_spec (hT : TabAt E.g_math_bits_deBruijn64tab w) {a0 a1 : Int} {a2 a3 : SlV} {a4 : Bool} {z2 z3 : Nat -> Int} (h2 : RowA w (.int .i64) a2 z2) (h3 : RowA w (.int .i64) a3 z3) {K : Bool -> World -> Prop} (hK : ∀ w', Ext Nothing w w' -> K true w') : F.mallowlaw18_SweepMarked E a0 a1 a2 a3 a4 K w := by
 unfold F.mallowlaw18_SweepMarked T0.mallowlaw18_SweepMarked
 refine table_spec (Sat.start w) fun r1 w2 H2 => ?_
 have hl := H2.recLen (by decide) cls4_len
 rw [cls_len] at hl
 have hTT : ∀ {Y : List Pr} {w'} (i : Nat), Sat Y w' -> Y[i]? = some (Old w) -> TabAt E.g_math_bits_deBruijn64tab w' := fun i h hi => hT.ext (h.old i hi)
 have haw : ∀ {Y : List Pr} {w'} (i : Nat), Sat Y w' -> Y[i]? = some (Old w) -> F.mallowlaw18_awake E (fun r6 w7 => K r6 w7) w' := fun i h' hi => awake18_spec hE (fun w' h => hTT i h hi) h' fun w7 H7 => hK w7 (H7.old i hi)
 have ct : 0 <= a0 -> a0 < 68 -> ∃ x, r1.base = some ⟨x, 0, none⟩ /\ ∀ {w'} {Y : List Pr} (i : Nat), Sat Y w' -> Y[i]? = some (Row E.t_api_Class 4 r1 (recs cls4 clsT)) -> w'.cell? ((Addr.mk x 0 none).add (Int.toNat a0 * 4)) = some (.int .i64 (clsAt a0).1) /\ w'.cell? (((Addr.mk x 0 none).add (Int.toNat a0 * 4)).add 1) = some (.int .i64 (clsAt a0).2.1) /\
   w'.cell? (((Addr.mk x 0 none).add (Int.toNat a0 * 4)).add 2) = some (.int .i64 (clsAt a0).2.2.1) := fun c0 c1 => by
  obtain ⟨x, hx⟩ := H2.recBase (by decide) cls4_len (i := a0.toNat) (by rw [cls_len]; omega)
  refine ⟨x, hx, fun i h hi => ⟨?_, ?_, ?_⟩⟩
  ·have := (h.front i hi).recCell cls4_len hx (cls_at c0 c1) (j := 0) rfl; rwa [Nat.add_zero] at this
  ·rw [add_add]; exact (h.front i hi).recCell cls4_len hx (cls_at c0 c1) (j := 1) rfl
  ·rw [add_add]; exact (h.front i hi).recCell cls4_len hx (cls_at c0 c1) (j := 2) rfl
 refine JOIN_intro (fun st w' => w' = w2 /\ (st.1 = false -> 2 <= a0 /\ a0 < 68 /\ 1 <= a1 /\ a1 <= (clsAt a0).2.2.1 /\ a1 <= 60 /\ a2.len <= 60 /\ a3.len <= 60)) (CND_dec (fun _ => ⟨rfl, fun h => by cases h⟩) fun g1 => CND_dec (fun _ => ⟨rfl, fun h => by cases h⟩) fun g2 => CND_dec (fun _ => ⟨rfl, fun h => by cases h⟩) fun g3 => ?_) ?_
 ·obtain ⟨x, hx, hc⟩ := ct (by omega) (by omega)
  rw [hx]
  exact NC_in ⟨⟨by omega, by omega⟩, _, (hc 0 H2 rfl).2.2, CND_dec (fun _ => ⟨rfl, fun h => by cases h⟩) fun g4 => CND_dec (fun _ => ⟨rfl, fun h => by cases h⟩) fun g5 => CND_dec (fun _ => ⟨rfl, fun h => by cases h⟩) fun g6 => ⟨rfl, fun h => by have := of_decide_eq_false h; omega⟩⟩
 rintro ⟨st, u⟩ _ w5 ⟨rfl, hc⟩
 dsimp only at hc ⊢
 refine CND_intro (fun _ => CND_eq (fun _ => haw 1 H2 rfl) fun e => absurd (by omega) e) fun hst => ?_
 obtain ⟨c0, c1, n0, n2, n1, l2, l3⟩ := hc hst
 obtain ⟨x, hx, hcell⟩ := ct (by omega) c1
 have hcl : (0 : Int) <= a0 /\ (a0 : Int) < (r1.len : Nat) := ⟨by omega, by omega⟩
 have hcb := cls_bnd (c := a0) (by omega) c1
 have hcp := cls_at_pos (c := a0) (by omega) c1
 have hca := cls_at_all (c := a0) (by omega) c1
 generalize hnp : (clsAt a0).2.1 = n at *
 have hbad : ¬ spBad 0 n a0 := by unfold spBad; rw [hnp]; omega
 refine fresh18_spec (hS := hE.toEnvS) H2 fun b h s r w14 H14 => CND_f rfl ?_
 rw [hx]
 have hTy : ∀ w', Sat [Row E.t_api_Class 4 r1 (recs cls4 clsT), Old w] w' -> TabAt E.g_math_bits_deBruijn64tab w' := fun w' h' => hTT 1 h' rfl
 refine NC_in ⟨hcl, _, (hcell 1 H14.drew rfl).2.1, swheap_spec H14.drew ⟨(hcell 1 H14.drew rfl).2.1, ?_⟩⟩
 rw [u64_id (n := n) (by omega) (by omega)]
 refine swfirst_spec hE hTy H14.drew (by omega) (by omega) hbad fun bl T hF hI w21 H21 => ⟨(hcell 1 H21 rfl).2.1, swheap_spec H21 ?_⟩
 refine swspan_spec H21 (fun hn => by rw [show (SW.new T).S.sp 1 = some _ from hF.sp] at hn; cases hn) fun y hy => ?_
 rw [show (SW.new T).S.sp 1 = some _ from hF.sp] at hy
 cases hy
 refine JOIN_in (CND_f rfl fun j => CND_f rfl ?_)
 refine swinfo_spec H21 (show (SW.new T).S.sp 1 = some _ from hF.sp) fun w38 H38 => ?_
 obtain ⟨I, hIe⟩ : ∃ I, I = spOf 512 n a0 false := ⟨_, rfl⟩
 obtain ⟨hok, hg⟩ := hI.sp 1 _ hF.sp
 have hok : SpOk I := by rw [hIe]; exact hok
 have hsl : I.slots = (clsAt a0).2.2.1 := by rw [hIe]; show (if a0 = 0 then (1 : Int) else _) = _; rw [if_neg (by omega)]
 have hel : I.elem = (clsAt a0).1 := by rw [hIe]; show (if a0 = 0 then n * 8192 else _) = _; rw [if_neg (by omega)]
 have hIb : I.base = 512 * 8192 := by rw [hIe]; rfl
 have hIp : I.pages = n := by rw [hIe]; rfl
 have hI0 : T.put 1 (bl, tookI I [] 0) = T := by rw [hIe, tookI_zero]; exact HS.put_self hF.sp
 have hB0 : bits0.set 1 (ltU 0) = bits0 := by rw [ltU_zero, bits0_set]
 obtain ⟨N, rfl⟩ := Int.eq_ofNat_of_zero_le (show 0 <= a1 by omega)
 have hsz := hok.size
 have hb0 : (spOf 512 n a0 false).base = 512 * 8192 := rfl
 rw [hb0]
 refine LOOP_intro (fun st w' => ∃ (i : Nat) (uw : List Int), st.1 = (i : Int) /\ i <= N /\ SwInv (SW.new (T.put 1 (bl, tookI I uw i))) (bits0.set 1 (ltU i)) bits0 /\ Sat [SweepP E b h s r (SW.new (T.put 1 (bl, tookI I uw i))), Row E.t_api_Class 4 r1 (recs cls4 clsT), Old w] w') (fun st _ => ((N : Int) - st.1).toNat)
  ⟨0, [], rfl, Nat.zero_le _, by rw [hI0, hB0]; exact hI, by rw [hI0]; exact H38⟩ ?_
 rintro ⟨i', u⟩ _ w40 ⟨i, uw, hi, hil, hIi, H40⟩
 dsimp only at hi ⊢
 subst hi
 refine CND_dec (fun hlt => ?_) fun hge => ?_
 ·refine swtake1_spec hTy H40 hIi (by omega) fun uw' hI2 w44 H44 => ?_
  refine JOIN_in (CND_ne (fun e => absurd rfl e) fun _ => fun _ => CND_f rfl ?_)
  rw [show i64 ((i : Int) + 1) = ((i + 1 : Nat) : Int) by rw [i64_id (by omega) (by omega)]; rfl]
  exact ⟨⟨i + 1, uw', rfl, by omega, hI2, H44⟩, by omega⟩
 obtain rfl : i = N := by omega
 refine JOIN_intro (fun st w' => ∃ b51 b53, st.1 = ⟨some ⟨b51, 0, none⟩, i, i⟩ /\ st.2.1 = ⟨some ⟨b53, 0, none⟩, i, i⟩ /\ Sat [SweepP E b h s r (SW.new (T.put 1 (bl, tookI I uw i))), Cells b51 E.t_bool (bools (List.replicate i false)), Cells b53 E.t_bool (bools (List.replicate i false)), Row E.t_api_Class 4 r1 (recs cls4 clsT), Old w] w') ?_ ?_
 ·have e0 : Int.toNat (i : Int) * 1 = i := by rw [Int.toNat_natCast, Nat.mul_one]
  rw [e0, mkZero_flags, flags_rep]
  have bd : (0 : Int) <= (i : Int) /\ (i : Int) <= (i : Int) /\ (i : Int) < 9223372036854775808 /\ ((1 : Nat) : Int) * (i : Int) <= 140737488355328 := ⟨by omega, by omega, by omega, by omega⟩
  have Hd := H40.drew
  refine ⟨⟨bd, AL_cells (vs := bools (List.replicate i false)) Hd fun b51 w52 H52 _ => ⟨bd, AL_cells (vs := bools (List.replicate i false)) H52 fun b53 w54 H54 _ => ⟨b51, b53, ?_, ?_, (H54.front 1 rfl).front 2 rfl⟩⟩⟩, ⟨bd, AL_cells (vs := bools (List.replicate i false)) Hd fun b55 w56 H56 _ => ⟨bd, AL_cells (vs := bools (List.replicate i false)) H56 fun b57 w58 H58 _ => ⟨b57, b55, ?_, ?_, H58.front 2 rfl⟩⟩⟩⟩ <;> rw [Int.toNat_natCast]
 rintro ⟨m1, m2, u⟩ _ w50 ⟨b51, b53, rfl, rfl, H50⟩
 dsimp only
 obtain ⟨J, hJ⟩ : ∃ J, J = tookI I uw i := ⟨_, rfl⟩
 obtain ⟨S1, hS1⟩ : ∃ S1, S1 = T.put 1 (bl, J) := ⟨_, rfl⟩
 rw [<- hJ, <- hS1] at hIi H50
 have hsp1 : S1.sp 1 = some (bl, J) := by rw [hS1]; exact HS.put_sp
 have hown1 : S1.own = T.own := by rw [hS1]; rfl
 have j1 : J.base = 512 * 8192 := by rw [hJ]; exact hIb
 have j2 : J.slots = (clsAt a0).2.2.1 := by rw [hJ]; exact hsl
 have j3 : J.elem = (clsAt a0).1 := by rw [hJ]; exact hel
 have j4 : J.pages = n := by rw [hJ]; exact hIp
 have hokJ : SpOk J := (hIi.sp 1 _ hsp1).1
 generalize hE' : (clsAt a0).1 = el at *
 have elb : el <= 32768 := hcp.2.1
 have rdA : ∀ {s : SlV} {z : Nat -> Int}, RowA w (.int .i64) s z -> ∀ k : Nat, k < s.len -> ∃ q, s.base = some q /\ ∀ {Y : List Pr} {w'} (m : Nat), Sat Y w' -> Y[m]? = some (Old w) -> w'.cell? (q.add (Int.toNat (k : Int) * 1)) = some (.int .i64 (z k)) := fun hR k hk => by
  obtain ⟨q, hq, hc, _⟩ := hR.cell1 hk
  exact ⟨q, hq, fun m h' hm => by rw [Int.toNat_natCast, Nat.mul_one]; exact (h'.old m hm).cell hc fun f => f⟩
 refine LOOP_intro (fun st w' => ∃ (k : Nat) (mk : List Bool) (As : List Int), st.2.1 = (k : Int) /\ k <= a2.len /\ MkR i el mk As /\ As.length <= k /\ Sat [SweepP E b h s r (SW.new S1), Cells b51 E.t_bool (bools mk), Cells b53 E.t_bool (bools (List.replicate i false)), Row E.t_uint64 1 st.1 (ints .u64 As), Row E.t_api_Class 4 r1 (recs cls4 clsT), Old w] w') (fun st _ => ((a2.len : Int) - st.2.1).toNat)
  ⟨0, List.replicate i false, [], rfl, Nat.zero_le _, MkR.nil i el, Nat.le_refl _, (((H50.nil E.t_uint64 1).front 3 rfl).front 3 rfl).front 3 rfl⟩ ?_
 rintro ⟨s59, k', u⟩ _ w60 ⟨k, mk, As, hk, hkl, hMk, hAl, H60⟩
 dsimp only at hk H60 ⊢
 subst hk
 have hsl59 := (H60.front 3 rfl).rowLen
 simp only [ints, List.length_map, Nat.mul_one] at hsl59
 refine CND_dec (fun hlt => ?_) fun hge2 => ?_
 ·obtain ⟨q, hq, hrd⟩ := rdA h2 k (by omega)
  have hri : (0 : Int) <= (k : Int) /\ (k : Int) < (a2.len : Nat) := ⟨by omega, by omega⟩
  have hk1 : i64 ((k : Int) + 1) = ((k + 1 : Nat) : Int) := by rw [i64_id (by omega) (by omega)]; rfl
  rw [hq, hk1]
  generalize z2 k = v at hrd
  refine JOIN_intro (fun st w' => w' = w60 /\ (st.1 = true ↔ (0 <= v /\ v < (i : Int)))) (NC_in ⟨hri, v, hrd 5 H60 rfl, CND_dec (fun g => NC_in ⟨hri, v, hrd 5 H60 rfl, rfl, by simp; omega⟩) fun g => ⟨rfl, by simp; omega⟩⟩) ?_
  rintro ⟨fl, u⟩ _ w64 ⟨rfl, hfl⟩
  dsimp only at hfl ⊢
  refine CND_intro (fun g => ?_) fun g => ⟨⟨k + 1, mk, As, rfl, by omega, hMk, by omega, H60⟩, by omega⟩
  obtain ⟨v0, v1⟩ := hfl.1 g
  obtain ⟨vn, rfl⟩ := Int.eq_ofNat_of_zero_le v0
  have hvn : vn < i := by omega
  refine NC_in ⟨hri, _, hrd 5 H60 rfl, NC_in ⟨⟨by omega, by omega⟩, ?_⟩⟩
  have Hb := H60.front 1 rfl
  rw [Int.toNat_natCast, Nat.mul_one]
  refine st_cell Hb (o := 0) rfl (by unfold bools; rw [List.length_map, hMk.ln]; omega) fun w72 H72 => ?_
  rw [Nat.zero_add, bools_set] at H72
  have H73 : Sat [SweepP E b h s r (SW.new S1), Cells b51 E.t_bool (bools (mk.set vn true)), Cells b53 E.t_bool (bools (List.replicate i false)), Row E.t_uint64 1 s59 (ints .u64 As), Row E.t_api_Class 4 r1 (recs cls4 clsT), Old w] w72.drew := (H72.drew).front 1 rfl
  refine NC_in ⟨hri, _, hrd 5 H73 rfl, NC_in ⟨hcl, _, (hcell 4 H73 rfl).1, NC_in ⟨hri, _, hrd 5 H73 rfl, NC_in ⟨hcl, _, (hcell 4 H73 rfl).1, by omega, ?_⟩⟩⟩⟩
  have hmul : 0 <= (vn : Int) * el /\ (vn : Int) * el <= 60 * 32768 := ⟨Int.mul_nonneg (by omega) (by omega), Int.mul_le_mul (by omega) elb (by omega) (by omega)⟩
  have hmo : 0 <= (vn : Int) % el /\ (vn : Int) % el < el := ⟨Int.emod_nonneg _ (by omega), Int.emod_lt_of_pos _ (by omega)⟩
  have ea : u64 (512 * 8192 + (u64 (i64 ((i64 ((vn : Int) * el)) + (Int.tmod (vn : Int) el))))) = 512 * 8192 + (vn : Int) * el + (vn : Int) % el := by
   rw [Int.tmod_eq_emod_of_nonneg (by omega), i64_id (n := (vn : Int) * el) (by omega) (by omega), i64_id (by omega) (by omega), u64_id (n := (vn : Int) * el + (vn : Int) % el) (by omega) (by omega), u64_id (by omega) (by omega)]
   omega
  rw [ea]
  refine AL_cells (vs := [.int .u64 (512 * 8192 + (vn : Int) * el + (vn : Int) % el)]) H73 fun b81 w82 H82 _ => ⟨(hcell 5 H82 rfl).1, hrd 6 H82 rfl, (hcell 5 H82 rfl).1, hrd 6 H82 rfl, ?_⟩
  refine APP_one (zs := #[.int .u64 0]) (bytes := 8) (H82.front2 3 rfl) rfl rfl (by simp [Value.oneCell']) (by omega) (by omega) fun s83 w84 H84 hs83 => ?_
  rw [show ints .u64 As ++ [.int .u64 (512 * 8192 + (vn : Int) * el + (vn : Int) % el)] = ints .u64 (As ++ [512 * 8192 + (vn : Int) * el + (vn : Int) % el]) by simp [ints]] at H84
  have H85 := ((H84.front 3 rfl).front 3 rfl).front 3 rfl
  exact ⟨(hcell 4 H85 rfl).1, hrd 5 H85 rfl, (hcell 4 H85 rfl).1, hrd 5 H85 rfl, ⟨k + 1, mk.set vn true, _, rfl, by omega, hMk.add hvn hmo.1 hmo.2, by rw [List.length_append]; show As.length + 1 <= k + 1; omega, H85⟩, by omega⟩
 have H61 : Sat [SweepP E b h s r (SW.new S1), Cells b53 E.t_bool (bools (List.replicate i false)), Cells b51 E.t_bool (bools mk), Row E.t_uint64 1 s59 (ints .u64 As), Row E.t_api_Class 4 r1 (recs cls4 clsT), Old w] w60 := (H60.front 2 rfl).front 1 rfl
 refine LOOP_intro (fun st w' => ∃ (k : Nat) (fn : List Bool) (R : List Rc), st.1 = (k : Int) /\ k <= a3.len /\ fn.length = i /\ FinR R (512 * 8192) el i (fB fn) /\ R.length = cN (fB fn) i /\ Sat [SweepP E b h s r { SW.new S1 with R := R }, Cells b53 E.t_bool (bools fn), Cells b51 E.t_bool (bools mk), Row E.t_uint64 1 s59 (ints .u64 As), Row E.t_api_Class 4 r1 (recs cls4 clsT), Old w] w') (fun st _ => ((a3.len : Int) - st.1).toNat)
  ⟨0, List.replicate i false, [], rfl, Nat.zero_le _, List.length_replicate, FinR.nil _ _ _, ?_, H61⟩ ?_
 ·have : fB (List.replicate i false) = fun _ => false := by
   funext q; unfold fB; rw [List.getElem?_replicate]; split <;> rfl
  rw [this]
  clear this
  generalize i = q
  induction q with
  | zero => rfl
  | succ q ih => show 0 = cN _ q + 0; rw [<- ih]; rfl
 rintro ⟨k', u⟩ _ w86 ⟨k3, fn, R, hk3, hkl3, hfl3, hFn, hRl, H86⟩
 dsimp only at hk3 ⊢
 subst hk3
 refine CND_dec (fun hlt3 => ?_) fun hge3 => ?_
 ·obtain ⟨q, hq, hrd⟩ := rdA h3 k3 (by omega)
  have hri : (0 : Int) <= (k3 : Int) /\ (k3 : Int) < (a3.len : Nat) := ⟨by omega, by omega⟩
  have hk1 : i64 ((k3 : Int) + 1) = ((k3 + 1 : Nat) : Int) := by rw [i64_id (by omega) (by omega)]; rfl
  rw [hq, hk1]
  generalize z3 k3 = v at hrd
  refine JOIN_intro (fun st w' => w' = w86 /\ (st.1 = true ↔ (0 <= v /\ v < (i : Int)))) (NC_in ⟨hri, v, hrd 5 H86 rfl, CND_dec (fun g => NC_in ⟨hri, v, hrd 5 H86 rfl, rfl, by simp; omega⟩) fun g => ⟨rfl, by simp; omega⟩⟩) ?_
  rintro ⟨fl, u⟩ _ w90 ⟨rfl, hfl⟩
  dsimp only at hfl ⊢
  refine CND_intro (fun g => ?_) fun g => ⟨⟨k3 + 1, fn, R, rfl, by omega, hfl3, hFn, hRl, H86⟩, by omega⟩
  obtain ⟨v0, v1⟩ := hfl.1 g
  obtain ⟨vn, rfl⟩ := Int.eq_ofNat_of_zero_le v0
  have hvn : vn < i := by omega
  have Hd := H86.drew
  refine NC_in ⟨hri, _, hrd 5 Hd rfl, NC_in ⟨hcl, _, (hcell 4 Hd rfl).1, NC_in ⟨hri, _, hrd 5 Hd rfl, ?_⟩⟩⟩
  have hmul : 0 <= (vn : Int) * el /\ (vn : Int) * el <= 60 * 32768 := ⟨Int.mul_nonneg (by omega) (by omega), Int.mul_le_mul (by omega) elb (by omega) (by omega)⟩
  have ea : u64 (512 * 8192 + (u64 (i64 ((vn : Int) * el)))) = 512 * 8192 + (vn : Int) * el := by
   rw [i64_id (n := (vn : Int) * el) (by omega) (by omega), u64_id (n := (vn : Int) * el) (by omega) (by omega), u64_id (by omega) (by omega)]
  rw [ea]
  obtain ⟨Q, HQ, hz, hb⟩ := Hd.swSpec
  have hRb : R.length <= i := by rw [hRl]; exact cN_le _ _
  have hget : ∃ f, fn[vn]? = some f := ⟨_, List.getElem?_eq_getElem (by omega)⟩
  obtain ⟨f, hf⟩ := hget
  have hset : fB (fn.set vn true) = fun k => fB fn k || k == vn := fB_set (by omega)
  refine spcadd_spec HQ ⟨by omega, by omega⟩ (by show R.length < _; omega) (fun g => absurd (by decide) g) (fun _ y hy hya hyk => ?_) fun _ hnone A B blk w' hR HQ' => ?_
  ·have hfv : fB fn vn = true := by
    obtain ⟨k', _, q2, q3⟩ := hFn.m1 y hy
    have : k' = vn := adr_inj (by omega) (q3.symm.trans hya)
    rw [<- this]; exact q2
   have hft : f = true := by unfold fB at hfv; rw [hf] at hfv; simpa using hfv
   rw [hft] at hf
   have hsame : fB (fn.set vn true) = fB fn := by
    rw [hset]; funext q; by_cases e : q = vn
    ·subst e; rw [hfv]; rfl
    ·rw [show (q == vn) = false by simpa using e, Bool.or_false]
   have hFn' : FinR R (512 * 8192) el i (fB (fn.set vn true)) := by rw [hsame]; exact hFn
   have hRl' : R.length = cN (fB (fn.set vn true)) i := by rw [hsame]; exact hRl
   have H87 := Hd
   refine ⟨hrd 5 H87 rfl, (hcell 4 H87 rfl).1, hrd 5 H87 rfl, NC_in ⟨hri, _, hrd 5 H87 rfl, NC_in ⟨⟨by omega, by omega⟩, true, ?_, ?_⟩⟩⟩
   ·rw [Int.toNat_natCast, Nat.mul_one]
    exact (H87.front 1 rfl).cell (by rw [Nat.zero_add]; exact boolsAt hf)
   refine CND_f rfl (NC_in ⟨hri, _, hrd 5 H87 rfl, NC_in ⟨⟨by omega, by omega⟩, ?_⟩⟩)
   rw [Int.toNat_natCast, Nat.mul_one]
   refine st_cell (H87.front 1 rfl) (o := 0) rfl (by unfold bools; rw [List.length_map]; omega) fun w110 H110 => ?_
   rw [Nat.zero_add, bools_set] at H110
   exact ⟨⟨k3 + 1, fn.set vn true, _, rfl, by omega, by rw [List.length_set]; exact hfl3, hFn', hRl', H110.front 1 rfl⟩, by omega⟩
  ·have hft : f = false := by
    cases f with
    | false => rfl
    | true =>
     obtain ⟨y, hy, hya⟩ := hFn.m2 vn hvn (by unfold fB; rw [hf]; rfl)
     exact absurd ⟨hya, hFn.kd y hy⟩ (hnone y hy)
   rw [hft] at hf
   have hfv : fB fn vn = false := by unfold fB; rw [hf]; rfl
   have hR : R = A ++ B := hR
   have hFn' : FinR (A ++ ⟨blk, 512 * 8192 + (vn : Int) * el, 1, u64 (vn : Int)⟩ :: B) (512 * 8192) el i (fB (fn.set vn true)) := by
    rw [hR] at hFn
    exact hFn.add hfl3 hvn fun z hz => hnone z (by show z ∈ R; rw [hR]; exact hz)
   have hRl' : (A ++ (⟨blk, 512 * 8192 + (vn : Int) * el, 1, u64 (vn : Int)⟩ : Rc) :: B).length = cN (fB (fn.set vn true)) i := by
    rw [hset, cN_set hfv, if_pos hvn, <- hRl, hR]
    simp; omega
   have H87 := hb HQ'
   refine ⟨hrd 5 H87 rfl, (hcell 4 H87 rfl).1, hrd 5 H87 rfl, NC_in ⟨hri, _, hrd 5 H87 rfl, NC_in ⟨⟨by omega, by omega⟩, false, ?_, ?_⟩⟩⟩
   ·rw [Int.toNat_natCast, Nat.mul_one]
    exact (H87.front 1 rfl).cell (by rw [Nat.zero_add]; exact boolsAt hf)
   refine CND_f rfl (NC_in ⟨hri, _, hrd 5 H87 rfl, NC_in ⟨⟨by omega, by omega⟩, ?_⟩⟩)
   rw [Int.toNat_natCast, Nat.mul_one]
   refine st_cell (H87.front 1 rfl) (o := 0) rfl (by unfold bools; rw [List.length_map]; omega) fun w110 H110 => ?_
   rw [Nat.zero_add, bools_set] at H110
   exact ⟨⟨k3 + 1, fn.set vn true, _, rfl, by omega, by rw [List.length_set]; exact hfl3, hFn', hRl', H110.front 1 rfl⟩, by omega⟩
 refine LOOP_intro (fun st w' => ∃ j : Nat, st.2.1 = (j : Int) /\ j <= i /\ st.1 = ((cN (fB fn) j : Nat) : Int) /\ w' = w86) (fun st _ => ((i : Int) - st.2.1).toNat) ⟨0, rfl, Nat.zero_le _, rfl, rfl⟩ ?_
 rintro ⟨c111, j', u⟩ _ w112 ⟨j, hj, hjl, hc111, rfl⟩
 dsimp only at hj hc111 ⊢
 subst hj hc111
 have cb := cN_le (fB fn) j
 refine CND_dec (fun hltj => ?_) fun hgej => ?_
 ·obtain ⟨f, hf⟩ : ∃ f, fn[j]? = some f := ⟨_, List.getElem?_eq_getElem (by omega)⟩
  have hj1 : i64 ((j : Int) + 1) = ((j + 1 : Nat) : Int) := by rw [i64_id (by omega) (by omega)]; rfl
  have hc1 : i64 (((cN (fB fn) j : Nat) : Int) + 1) = ((cN (fB fn) j + 1 : Nat) : Int) := by rw [i64_id (by omega) (by omega)]; rfl
  rw [hj1, hc1]
  refine NC_in ⟨⟨by omega, by omega⟩, f, by rw [Int.toNat_natCast, Nat.mul_one]; exact (H86.front 1 rfl).cell (by rw [Nat.zero_add]; exact boolsAt hf), CND_intro (fun g => ?_) fun g => ?_⟩
  ·refine ⟨⟨j + 1, rfl, by omega, ?_, rfl⟩, by omega⟩
   show ((cN (fB fn) j + 1 : Nat) : Int) = ((cN (fB fn) j + (fB fn j).toNat : Nat) : Int)
   rw [show fB fn j = true by unfold fB; rw [hf, g]; rfl]; rfl
  ·refine ⟨⟨j + 1, rfl, by omega, ?_, rfl⟩, by omega⟩
   show ((cN (fB fn) j : Nat) : Int) = ((cN (fB fn) j + (fB fn j).toNat : Nat) : Int)
   rw [show fB fn j = false by unfold fB; rw [hf, g]; rfl]; rfl
 obtain rfl : j = i := by omega
 have hIR : SwInv { SW.new S1 with R := R } (bits0.set 1 (ltU j)) bits0 := ⟨hIi.hI, hIi.sp, fun x hx => by cases hx⟩
 have hAsB : ∀ a ∈ As, 0 <= a /\ a < 18446744073709551616 := fun a ha => by
  obtain ⟨m, o, q1, _, q3, q4, rfl⟩ := hMk.a1 a ha
  have hmul : 0 <= (m : Int) * el /\ (m : Int) * el <= 60 * 32768 := ⟨Int.mul_nonneg (by omega) (by omega), Int.mul_le_mul (by omega) elb (by omega) (by omega)⟩
  omega
 have hmo : ∀ (S : HS) (J' : SI), S.sp 1 = some (bl, J') -> S.own = S1.own -> J'.base = 512 * 8192 -> J'.elem = el -> J'.pages = n -> SpOk J' -> J'.slots = (clsAt a0).2.2.1 -> ∀ (m : Nat) (o : Int), m < j -> 0 <= o -> o < el -> mkOf S (512 * 8192 + m * el + o) = some (1, m) := fun S J' q1 q2 q3 q4 q5 q6 q7 m o hm o0 o1 => by
  have := mkOf_first hF q1 (q2.trans hown1) q3 q6 q5 (k := m) (o := o) (by omega) o0 (by rw [q4]; exact o1)
  rwa [q4] at this
 have hrowA : ∀ w', Sat [Cells b53 E.t_bool (bools fn), Cells b51 E.t_bool (bools mk), Row E.t_uint64 1 s59 (ints .u64 As), Row E.t_api_Class 4 r1 (recs cls4 clsT), Old w] w' -> rowAt w' s59.base s59.len (ints .u64 As) := fun w' h' => by have := (h'.front 2 rfl).rowAll; rwa [Nat.mul_one] at this
 have hTz : ∀ w', Sat [Cells b53 E.t_bool (bools fn), Cells b51 E.t_bool (bools mk), Row E.t_uint64 1 s59 (ints .u64 As), Row E.t_api_Class 4 r1 (recs cls4 clsT), Old w] w' -> TabAt E.g_math_bits_deBruijn64tab w' := fun w' h' => hTT 4 h' rfl
 refine JOIN_in (swput_spec hE H86 hIR (show ([] : List Itm).length < 1099511627776 by decide) (fun hn => by rw [show (SW.S _).sp 1 = _ from hsp1] at hn; cases hn) (fun _ ⟨y, hy, _⟩ => by cases hy) fun y hy hno blk2 hI5 w120 H120 => CND_f rfl ?_)
 rw [show (SW.S _).sp 1 = _ from hsp1] at hy
 cases hy
 have hI5 : SwInv ⟨S1, [⟨blk2, 1, J.base, (J.cls, J.noptr, J.used == J.slots, true)⟩], R, [], 0, 0, 0, 0⟩ (bits0.set 1 (ltU j)) bits0 := hI5
 have H120 : Sat [SweepP E b h s r ⟨S1, [⟨blk2, 1, J.base, (J.cls, J.noptr, J.used == J.slots, true)⟩], R, [], 0, 0, 0, 0⟩, Cells b53 E.t_bool (bools fn), Cells b51 E.t_bool (bools mk), Row E.t_uint64 1 s59 (ints .u64 As), Row E.t_api_Class 4 r1 (recs cls4 clsT), Old w] w120 := H120
 refine swmark_spec hE H120 hI5 (as_ := As) hrowA hsl59 (by omega) hAsB (fun hpos => ?_) fun hsw S2 hmw hI6 w122 H122 => fun _ => CND_f rfl ?_
 ·have : cntS [(⟨blk2, 1, J.base, (J.cls, J.noptr, J.used == J.slots, true)⟩ : Itm)] false = 0 := rfl
  rw [show (SW.L _) = [(⟨blk2, 1, J.base, (J.cls, J.noptr, J.used == J.slots, true)⟩ : Itm)] from rfl, this] at hpos
  exact absurd hpos (Nat.lt_irrefl 0)
 have hmw : MwEq S1 S2 := hmw
 obtain ⟨mw, hsp2⟩ := hmw.sp 1 _ hsp1
 obtain ⟨it, hit⟩ : ∃ it : Itm, it = ⟨blk2, 1, J.base, (J.cls, J.noptr, J.used == J.slots, false)⟩ := ⟨_, rfl⟩
 have hid1 : it.id = 1 := by rw [hit]
 have hI6 : SwInv ⟨S2, [it], R, [], 0, 0, 0, 0⟩ (bits0.set 1 (ltU j)) (bits0.mark S1 As) := by rw [hit]; exact hI6
 have H122 : Sat [SweepP E b h s r ⟨S2, [it], R, [], 0, 0, 0, 0⟩, Cells b53 E.t_bool (bools fn), Cells b51 E.t_bool (bools mk), Row E.t_uint64 1 s59 (ints .u64 As), Row E.t_api_Class 4 r1 (recs cls4 clsT), Old w] w122 := by rw [hit]; exact H122
 obtain ⟨M1, hM1e⟩ : ∃ M1, M1 = bits0.mark S1 As := ⟨_, rfl⟩
 have hM1 : ∀ m, M1 1 m = fB mk m := fun m => by rw [hM1e]; exact hMk.marks (hmo S1 J hsp1 rfl j1 j3 j4 hokJ j2) (fun _ => rfl) m
 rw [<- hM1e] at hI6
 refine swnext_spec hE H122 hI6 (fun hall => ?_) fun y hy hI7 w125 H125 => ?_
 ·have := hall it (List.mem_singleton.2 rfl)
  rw [hit] at this; cases this
 obtain rfl : y = it := List.mem_singleton.1 hy.1
 have hrem : remB [y] y.id = [] := by unfold remB; simp
 rw [show (SW.L _) = [y] from rfl, hrem] at hI7 H125
 rw [hid1]
 have hI7 : SwInv ⟨S2, [], R, [], 0, 0, 0, 0⟩ (bits0.set 1 (ltU j)) M1 := hI7
 have H125 : Sat [SweepP E b h s r ⟨S2, [], R, [], 0, 0, 0, 0⟩, Cells b53 E.t_bool (bools fn), Cells b51 E.t_bool (bools mk), Row E.t_uint64 1 s59 (ints .u64 As), Row E.t_api_Class 4 r1 (recs cls4 clsT), Old w] w125 := H125
 have hUj : ∀ m, (bits0.set 1 (ltU j)) 1 m = decide (m < j) := fun m => by rw [Bits.set_at]; rfl
 have hmkln := hMk.ln
 have hRj : R.length <= j := by rw [hRl]; exact cN_le _ _
 refine swone_spec hE hTz H125 hI7 (show ([] : List Itm).length < 1099511627776 by decide) (by show 0 + R.length <= 1099511627776; omega) (fun z hz => by cases hz) (fun hn => by rw [show (SW.S _).sp 1 = _ from hsp2] at hn; cases hn) (fun z hz ⟨m, q1, q2⟩ => ?_) fun nf gone W' U' M' hone hIW w129 H129 => ?_
 ·rw [hM1 m] at q1
  rw [hUj] at q2
  have := fB_lt q1
  exact absurd (show m < j by omega) (of_decide_eq_false q2)
 obtain ⟨y', t, uw2, hy', _, ht, hnf, hU', hM', W1, hW1, hcases⟩ := hone
 rw [show (SW.S ⟨S2, [], R, [], 0, 0, 0, 0⟩).sp 1 = _ from hsp2] at hy'
 cases hy'
 have hfnlt : ∀ m, fB fn m = true -> m < j := fun m hm => by have := fB_lt hm; omega
 have hmklt : ∀ m, fB mk m = true -> m < j := fun m hm => by have := fB_lt hm; omega
 obtain ⟨sl, hslN⟩ : ∃ sl : Nat, J.slots.toNat = j + sl := ⟨J.slots.toNat - j, by omega⟩
 have hslN2 : ({ J with mw := mw } : SI).slots.toNat = j + sl := hslN
 have hb2 : ({ J with mw := mw } : SI).base = 512 * 8192 := j1
 have he2 : ({ J with mw := mw } : SI).elem = el := j3
 rw [show (bl, ({ J with mw := mw } : SI)).2.base = 512 * 8192 from hb2, show (bl, ({ J with mw := mw } : SI)).2.elem = el from he2, show (bl, ({ J with mw := mw } : SI)).2.slots.toNat = j + sl from hslN2] at ht
 obtain ⟨r1', r2', r3', r4'⟩ := spRun_fin (u := (bits0.set 1 (ltU j)) 1) (m := M1 1) (em := []) (by omega) hFn hfnlt (j + sl)
 rw [show (⟨R, M1 1, []⟩ : SpF) = ⟨(SW.R ⟨S2, [], R, [], 0, 0, 0, 0⟩), M1 1, (SW.em ⟨S2, [], R, [], 0, 0, 0, 0⟩)⟩ from rfl, <- ht] at r1' r2' r3' r4'
 have hqq : (fun i => (bits0.set 1 (ltU j)) 1 i && !M1 1 i && fB fn i) = fun i => !fB mk i && fB fn i := by
  funext i
  rw [hUj, hM1]
  by_cases g : fB fn i = true
  ·rw [decide_eq_true (hfnlt i g)]; simp
  ·rw [Bool.eq_false_iff.2 g]; simp
 have hqz : ∀ i, j <= i -> (!fB mk i && fB fn i) = false := fun i hi => by
  have : fB fn i = false := Bool.eq_false_iff.2 fun g => by have := hfnlt i g; omega
  rw [this, Bool.and_false]
 rw [hqq, cN_stay hqz] at r2' r4'
 have htm : ∀ i, t.m i = (fB mk i || fB fn i) := fun i => by
  rw [r1', show ((bits0.set 1 (ltU j)) 1 i && !M1 1 i && fB fn i) = (!fB mk i && fB fn i) from congrFun hqq i, hM1]
  by_cases g : i < j + sl
  ·rw [decide_eq_true g]; cases fB mk i <;> simp
  ·have h1 : fB fn i = false := Bool.eq_false_iff.2 fun g2 => by have := hfnlt i g2; omega
   rw [h1]; simp
 have hnf2 : nf = cN (fun i => !fB mk i && !fB fn i) j := by
  rw [hnf, show (bl, ({ J with mw := mw } : SI)).2.slots.toNat = j + sl from hslN2, cN_stay (n := j) fun i hi => by rw [hUj, decide_eq_false (by omega)]; rfl]
  refine cN_congr fun i hi => ?_
  rw [hUj, htm, decide_eq_true hi]
  cases fB mk i <;> simp
 have hkept : cN (fun i => (bits0.set 1 (ltU j)) 1 i && t.m i) (j + sl) = cN (fun i => fB mk i || fB fn i) j := by
  rw [cN_stay (n := j) fun i hi => by rw [hUj, decide_eq_false (by omega)]; rfl]
  refine cN_congr fun i hi => ?_
  rw [hUj, htm, decide_eq_true hi]; rfl
 have hcom : W'.em = t.em /\ W'.R = t.R /\ gone = decide (cN (fun i => fB mk i || fB fn i) j = 0) := by
  rw [show (bl, ({ J with mw := mw } : SI)).2.slots.toNat = j + sl from hslN2, hkept] at hcases
  rcases hcases with ⟨g, _⟩ | ⟨_, g, rfl, a, _, rfl⟩ | ⟨_, g, rfl, blk3, rfl⟩
  ·cases g
  ·exact ⟨by rw [hW1], by rw [hW1], (decide_eq_true g).symm⟩
  ·exact ⟨by rw [hW1], by rw [hW1], (decide_eq_false g).symm⟩
 obtain ⟨hem, hRR, hgone⟩ := hcom
 have rdF : ∀ {w'} {Y : List Pr} {c t' : Nat} {l : List Bool} (p : Nat), Sat Y w' -> Y[p]? = some (Cells c t' (bools l)) -> ∀ {q : Nat}, q < l.length -> w'.cell? ((Addr.mk c 0 none).add (Int.toNat (q : Int) * 1)) = some (.bool (fB l q)) := fun {w' Y c t' l} p h' hp {q} hq => by
  rw [Int.toNat_natCast, Nat.mul_one]
  obtain ⟨f, hf⟩ : ∃ f, _ = some f := ⟨_, List.getElem?_eq_getElem hq⟩
  refine (h'.front p hp).cell ?_
  rw [Nat.zero_add]
  refine boolsAt ?_
  unfold fB
  rw [hf]; cases f <;> rfl
 refine LOOP_intro (fun st w' => ∃ q : Nat, st.2.2.2.1 = (q : Int) /\ q <= j /\ st.1 = ((cN (fun i => !fB mk i && !fB fn i) q : Nat) : Int) /\ st.2.1 = ((cN (fun i => fB mk i || fB fn i) q : Nat) : Int) /\ st.2.2.1 = ((cN (fun i => !fB mk i && fB fn i) q : Nat) : Int) /\ w' = w129) (fun st _ => ((j : Int) - st.2.2.2.1).toNat) ⟨0, rfl, Nat.zero_le _, rfl, rfl, rfl, rfl⟩ ?_
 rintro ⟨f1, f2, f3, q', u⟩ _ w131 ⟨q, hq, hql, e1, e2, e3, rfl⟩
 dsimp only at hq e1 e2 e3 ⊢
 subst hq e1 e2 e3
 have b1 := cN_le (fun i => !fB mk i && !fB fn i) q
 have b2 := cN_le (fun i => fB mk i || fB fn i) q
 have b3 := cN_le (fun i => !fB mk i && fB fn i) q
 refine CND_dec (fun hltq => ?_) fun hgeq => ?_
 ·have hqm : q < mk.length := by omega
  have hqf : q < fn.length := by omega
  have hri : (0 : Int) <= (q : Int) /\ ((q : Int) : Int) < ((j : Nat) : Int) := ⟨by omega, by omega⟩
  have inc : ∀ (u : Nat -> Bool), i64 (((cN u q : Nat) : Int) + 1) = ((cN u q + 1 : Nat) : Int) := fun u => by have := cN_le u q; rw [i64_id (by omega) (by omega)]; rfl
  have hq1 : i64 ((q : Int) + 1) = ((q + 1 : Nat) : Int) := by rw [i64_id (by omega) (by omega)]; rfl
  rw [inc, inc, inc, hq1]
  refine JOIN_intro (fun st w' => w' = w131 /\ st.1 = ((cN (fun i => !fB mk i && !fB fn i) (q + 1) : Nat) : Int) /\ st.2.1 = ((cN (fun i => fB mk i || fB fn i) (q + 1) : Nat) : Int)) ?_ ?_
  ·refine JOIN_intro (fun st w' => w' = w131 /\ st.1 = (!fB mk q && !fB fn q)) (NC_in ⟨hri, _, rdF 2 H129 rfl hqm, CND_intro (fun g => NC_in ⟨hri, _, rdF 1 H129 rfl hqf, rfl, by rw [g]; rfl⟩) fun g => ⟨rfl, by rw [g]; rfl⟩⟩) ?_
   rintro ⟨fl, u⟩ _ w138 ⟨rfl, hfl⟩
   dsimp only at hfl ⊢
   subst hfl
   refine CND_intro (fun g => ⟨rfl, ?_, ?_⟩) fun g => ⟨rfl, ?_, ?_⟩
   ·show _ = ((cN _ q + (!fB mk q && !fB fn q).toNat : Nat) : Int)
    rw [g]; rfl
   ·show _ = ((cN _ q + (fB mk q || fB fn q).toNat : Nat) : Int)
    revert g; cases fB mk q <;> cases fB fn q <;> simp
   ·show _ = ((cN _ q + (!fB mk q && !fB fn q).toNat : Nat) : Int)
    rw [g]; rfl
   ·show _ = ((cN _ q + (fB mk q || fB fn q).toNat : Nat) : Int)
    revert g; cases fB mk q <;> cases fB fn q <;> simp
  ·rintro ⟨s1, s2, u⟩ _ w135 ⟨rfl, hs1, hs2⟩
   dsimp only at hs1 hs2 ⊢
   refine JOIN_intro (fun st w' => w' = w135 /\ st.1 = (!fB mk q && fB fn q)) (NC_in ⟨hri, _, rdF 2 H129 rfl hqm, CND_intro (fun g => NC_in ⟨hri, _, rdF 1 H129 rfl hqf, rfl, by rw [g]; rfl⟩) fun g => ⟨rfl, by rw [g]; rfl⟩⟩) ?_
   rintro ⟨fl, u⟩ _ w145 ⟨rfl, hfl⟩
   dsimp only at hfl ⊢
   subst hfl
   refine CND_intro (fun g => ⟨⟨q + 1, rfl, by omega, hs1, hs2, ?_, rfl⟩, by omega⟩) fun g => ⟨⟨q + 1, rfl, by omega, hs1, hs2, ?_, rfl⟩, by omega⟩
   ·show _ = ((cN _ q + (!fB mk q && fB fn q).toNat : Nat) : Int)
    rw [g]; rfl
   ·show _ = ((cN _ q + (!fB mk q && fB fn q).toNat : Nat) : Int)
    rw [g]; rfl
 obtain rfl : q = j := by omega
 have hel0 : W'.em.length = cN (fun i => !fB mk i && fB fn i) q := by rw [hem, r2']; simp
 have hRl0 : W'.R.length + cN (fun i => !fB mk i && fB fn i) q = cN (fB fn) q := by rw [hRR, r4', hRl]
 refine JOIN_intro (fun st w' => st.1 = false /\ Sat [SweepP E b h s r W', Cells b53 E.t_bool (bools fn), Cells b51 E.t_bool (bools mk), Row E.t_uint64 1 s59 (ints .u64 As), Row E.t_api_Class 4 r1 (recs cls4 clsT), Old w] w') ?_ ?_
 ·refine CND_f (by simp) (CND_f rfl (CND_f rfl (CND_f (by rw [hnf2]; simp) (CND_f ?_ (swemit_spec H129 (by rw [hel0]; omega) fun s1 w154 hl1 H154 => CND_f (by rw [hl1, hel0]; simp) ?_)))))
  ·rw [hgone]
   by_cases g : cN (fun i => fB mk i || fB fn i) q = 0
   ·rw [decide_eq_true g, g]; rfl
   ·rw [decide_eq_false g]
    have : (((cN (fun i => fB mk i || fB fn i) q : Nat) : Int) == 0) = false := by simp; omega
    rw [this]; rfl
  ·obtain ⟨Q2, HQ2, hz2, hb2⟩ := H154.tail.swSpec
   refine spccount_spec HQ2 ⟨?_, hb2 HQ2⟩
   have hcf := cN_le (fB fn) q
   rw [i64_id (by omega) (by omega)]
   show ((W'.R.length : Int) != _) = false
   rw [show ((cN (fB fn) q : Nat) : Int) - ((cN (fun i => !fB mk i && fB fn i) q : Nat) : Int) = ((W'.R.length : Nat) : Int) by omega]
   simp
 rintro ⟨s151, u⟩ _ w152 ⟨h151, H152⟩
 refine CND_f h151 ?_
 refine JOIN_intro (fun st w' => w' = w152 /\ (st.1 = false -> gone = false)) (CND_intro (fun g => ⟨rfl, fun h => by cases h⟩) fun g => ⟨rfl, fun _ => g⟩) ?_
 rintro ⟨s158, u⟩ _ w159 ⟨rfl, h158⟩
 dsimp only at h158 ⊢
 refine CND_intro (fun _ => haw 5 H152 rfl) fun hs => ?_
 have hgf := h158 hs
 have hstay : ∃ (blk3 : Nat) (J3 : SI), W'.S.sp 1 = some (bl, J3) /\ W'.S.own = S1.own /\ J3.base = 512 * 8192 /\ J3.elem = el /\ J3.pages = n /\ J3.slots = (clsAt a0).2.2.1 /\ ∃ kd : Kd, kd.2.2.2 = true /\ W'.L = [⟨blk3, 1, J3.base, kd⟩] := by
  rcases hcases with ⟨g, _⟩ | ⟨_, _, g, _⟩ | ⟨_, _, _, blk3, rfl⟩
  ·cases g
  ·rw [hgf] at g; cases g
  ·refine ⟨blk3, keptI { J with mw := mw } uw2 (fun i => (bits0.set 1 (ltU q)) 1 i && t.m i), by rw [hW1]; show (HS.put S2 1 (bl, keptI { J with mw := mw } uw2 fun i => (bits0.set 1 (ltU q)) 1 i && t.m i)).sp 1 = _; exact HS.put_sp, ?_, j1, j3, j4, j2, _, rfl, by rw [hW1]; rfl⟩
   rw [hW1]
   show S2.own = S1.own
   rw [hmw.rest]
 obtain ⟨blk3, J3, hsp3, hown3, k1, k2, k3', k4, kd3, hkd3, hL3⟩ := hstay
 obtain ⟨hok3, hg3⟩ := hIW.sp 1 _ hsp3
 have hok3 : SpOk J3 := hok3
 have hU3 : ∀ m, U' 1 m = (fB mk m || fB fn m) := fun m => by
  rw [hU', Bits.set_at, hUj, htm]
  by_cases g : m < q
  ·rw [decide_eq_true g]; rfl
  ·have h1 : fB fn m = false := Bool.eq_false_iff.2 fun g2 => by have := hfnlt m g2; omega
   have h2' : fB mk m = false := Bool.eq_false_iff.2 fun g2 => by have := hmklt m g2; omega
   rw [h1, h2']; simp
 have hM3 : ∀ m, M' 1 m = false := fun m => by rw [hM', Bits.set_at]; rfl
 refine LOOP_intro (fun st w' => ∃ p : Nat, st.1 = (p : Int) /\ p <= q /\ Sat [SweepP E b h s r W', Cells b53 E.t_bool (bools fn), Cells b51 E.t_bool (bools mk), Row E.t_uint64 1 s59 (ints .u64 As), Row E.t_api_Class 4 r1 (recs cls4 clsT), Old w] w') (fun st _ => ((q : Int) - st.1).toNat) ⟨0, rfl, Nat.zero_le _, H152⟩ ?_
 rintro ⟨p', u⟩ _ w163 ⟨p, hp, hpl, H163⟩
 dsimp only at hp ⊢
 subst hp
 refine CND_dec (fun hltp => ?_) fun hgep => ?_
 ·have hpm : p < mk.length := by omega
  have hpf : p < fn.length := by omega
  have hri : (0 : Int) <= (p : Int) /\ ((p : Int) : Int) < ((q : Nat) : Int) := ⟨by omega, by omega⟩
  have Hd := H163.drew
  refine JOIN_intro (fun st w' => st.1 = false /\ w' = w163.drew) (NC_in ⟨hri, _, rdF 2 Hd rfl hpm, ?_⟩) ?_
  ·obtain ⟨R5, HH5, hz5, hb5⟩ := Hd.swHeap
   obtain ⟨R6, hs6, hb6⟩ := HH5.heapSpan hsp3
   refine spused_spec hs6 hg3 (by show (p : Int) < J3.slots; rw [k4]; omega) ⟨rdF 2 Hd rfl hpm, CND_intro (fun g => ⟨?_, rfl⟩) fun g => NC_in ⟨hri, _, rdF 1 Hd rfl hpf, ?_, rfl⟩⟩
   ·show (!(U' 1 p == true)) = false
    rw [hU3, g]; rfl
   ·show (!(U' 1 p == fB fn p)) = false
    rw [hU3, g]; simp
  ·rintro ⟨s166, u⟩ _ w167 ⟨h166, rfl⟩
   refine CND_f h166 ?_
   rw [show i64 ((p : Int) + 1) = ((p + 1 : Nat) : Int) by rw [i64_id (by omega) (by omega)]; rfl]
   exact ⟨⟨p + 1, rfl, by omega, Hd⟩, by omega⟩
 refine swmark_spec hE H163 hIW (as_ := As) hrowA hsl59 (by omega) hAsB (fun hpos => ?_) fun _ S4 hmw4 hI8 w175 H175 => CND_f rfl ?_
 ·exfalso
  rw [hL3] at hpos
  have : cntS [(⟨blk3, 1, J3.base, kd3⟩ : Itm)] false = 0 := by
   show (List.filter _ _).length = 0
   rw [List.length_eq_zero_iff, List.filter_eq_nil_iff]
   intro z hz
   rw [List.mem_singleton.1 hz]
   show ¬ ((kd3.2.2.2 == false) = true)
   rw [hkd3]; decide
  omega
 obtain ⟨mw4, hsp4⟩ := hmw4.sp 1 _ hsp3
 have hM4 : ∀ m, (M'.mark W'.S As) 1 m = fB mk m := fun m => hMk.marks (hmo W'.S J3 hsp3 hown3 k1 k2 k3' hok3 k4) hM3 m
 generalize M'.mark W'.S As = M4 at hM4 hI8
 have hL4 : flipL W'.L = [(⟨blk3, 1, J3.base, kd3⟩ : Itm).flip] := by rw [hL3]; rfl
 rw [hL4] at hI8 H175
 refine swnext_spec hE H175 hI8 (fun hall => ?_) fun y hy hI9 w178 H178 => ?_
 ·have := hall (⟨blk3, 1, J3.base, kd3⟩ : Itm).flip (List.mem_singleton.2 rfl)
  cases this
 obtain rfl : y = (⟨blk3, 1, J3.base, kd3⟩ : Itm).flip := List.mem_singleton.1 hy.1
 have hidf : (⟨blk3, 1, J3.base, kd3⟩ : Itm).flip.id = 1 := rfl
 rw [hidf]
 have hrem4 : remB [(⟨blk3, 1, J3.base, kd3⟩ : Itm).flip] 1 = [] := by unfold remB; rw [List.filter_cons]; simp [hidf]
 rw [hidf, show (SW.L _) = [(⟨blk3, 1, J3.base, kd3⟩ : Itm).flip] from rfl, hrem4] at hI9 H178
 have hspx : ({ W' with S := S4, L := [] } : SW).S.sp 1 = some (bl, { J3 with mw := mw4 }) := hsp4
 have hI9 : SwInv { W' with S := S4, L := [] } U' M4 := hI9
 have H178 : Sat [SweepP E b h s r { W' with S := S4, L := [] }, Cells b53 E.t_bool (bools fn), Cells b51 E.t_bool (bools mk), Row E.t_uint64 1 s59 (ints .u64 As), Row E.t_api_Class 4 r1 (recs cls4 clsT), Old w] w178 := H178
 have hcf := cN_le (fB fn) q
 refine swone_spec hE hTz H178 hI9 (show ([] : List Itm).length < 1099511627776 by decide) (by show W'.em.length + W'.R.length <= 1099511627776; omega) (fun z hz => by cases hz) (fun hn => by rw [hspx] at hn; cases hn) (fun z hz ⟨m, q1, q2⟩ => ?_) fun nf2 gone2 W5 U5 M5 hone2 hIW5 w182 H182 => ?_
 ·rw [hM4 m] at q1
  rw [hU3, q1] at q2; cases q2
 obtain ⟨y5, t5, uw5, hy5, _, ht5, hnf5, hU5, hM5, W6, hW6, hcases5⟩ := hone2
 rw [hspx] at hy5
 cases hy5
 have hsl5 : ({ J3 with mw := mw4 } : SI).slots.toNat = q + sl := by show J3.slots.toNat = _; rw [k4, <- j2]; exact hslN
 have hb5 : ({ J3 with mw := mw4 } : SI).base = 512 * 8192 := k1
 have he5 : ({ J3 with mw := mw4 } : SI).elem = el := k2
 rw [show (bl, ({ J3 with mw := mw4 } : SI)).2.base = 512 * 8192 from hb5, show (bl, ({ J3 with mw := mw4 } : SI)).2.elem = el from he5, show (bl, ({ J3 with mw := mw4 } : SI)).2.slots.toNat = q + sl from hsl5] at ht5
 rw [show (bl, ({ J3 with mw := mw4 } : SI)).2.slots.toNat = q + sl from hsl5] at hnf5
 obtain ⟨fin', hfin'⟩ : ∃ f' : Nat -> Bool, f' = fun k => fB fn k && !(decide (k < q + sl) && ((bits0.set 1 (ltU q)) 1 k && !M1 1 k && fB fn k)) := ⟨_, rfl⟩
 rw [<- hfin', <- hRR] at r3'
 have hfl' : ∀ k, fin' k = true -> k < q := fun k hk => by
  rw [hfin'] at hk
  exact hfnlt k (Bool.and_eq_true _ _ ▸ hk).1
 obtain ⟨v1, v2, _, _⟩ := spRun_fin (u := U' 1) (m := M4 1) (em := W'.em) (by omega) r3' hfl' (q + sl)
 rw [show (⟨W'.R, M4 1, W'.em⟩ : SpF) = ⟨(SW.R { W' with S := S4, L := [] }), M4 1, (SW.em { W' with S := S4, L := [] })⟩ from rfl, <- ht5] at v1 v2
 have hz5 : (fun i => U' 1 i && !M4 1 i && fin' i) = fun _ => false := by
  funext i
  rw [hU3, hM4, hfin']
  dsimp only
  rw [hUj, hM1]
  cases hmi : fB mk i with
  | true => simp
  | false =>
   cases hfi : fB fn i with
   | false => simp
   | true =>
    have := hfnlt i hfi
    rw [decide_eq_true (show i < q + sl by omega), decide_eq_true this]; rfl
 have cz : ∀ m, cN (fun _ => false) m = 0 := fun m => by
  induction m with
  | zero => rfl
  | succ m ih => show cN _ m + _ = 0; rw [ih]; rfl
 rw [hz5, cz, Nat.add_zero] at v2
 have htm5 : ∀ i, t5.m i = fB mk i := fun i => by
  rw [v1, show (U' 1 i && !M4 1 i && fin' i) = false from congrFun hz5 i, hM4]; simp
 have hnf6 : nf2 = cN (fun i => !fB mk i && fB fn i) q := by
  rw [hnf5, cN_stay (n := q) fun i hi => by
   rw [hU3]
   have h1 : fB fn i = false := Bool.eq_false_iff.2 fun g2 => by have := hfnlt i g2; omega
   have h2' : fB mk i = false := Bool.eq_false_iff.2 fun g2 => by have := hmklt i g2; omega
   rw [h1, h2']; rfl]
  refine cN_congr fun i _ => ?_
  rw [hU3, htm5]
  cases fB mk i <;> simp
 have hem5 : W5.em.length = cN (fun i => !fB mk i && fB fn i) q := by
  rw [<- hel0, <- v2]
  rcases hcases5 with ⟨_, _, _, rfl⟩ | ⟨_, _, _, a, _, rfl⟩ | ⟨_, _, _, blk6, rfl⟩ <;> rw [hW6]
 refine CND_t rfl (CND_t rfl (CND_t rfl (CND_t (by rw [hnf6]; simp) (swemit_spec H182 (by rw [hem5]; omega) fun s1 w184 hl1 H184 => CND_t (by rw [hl1, hem5]; simp) (haw 6 H184 rfl)))))
end
end Go.Sh

namespace Go.Proofs.YtdnkgjeggfhfiaaGreatDoor.sweepMarked
open Go.ChangeShapes Go.WideShapes Go.ChangeAt Go.RowKit
set_option linter.unusedVariables false
set_option linter.unusedSimpArgs false
theorem own : ownKnob Tryz.prog.godebug = none := by kernel_rfl
theorem laidOut : laidOutB Tryz.prog = true := by kernel_rfl
theorem gTab : Tryz.prog.globalNamed "math/bits.deBruijn64tab" = some 0 := by kernel_rfl
theorem gTabType : (Tryz.prog.globals[0]?).map (·.type) = some 212 := by kernel_rfl
theorem und1 : Tryz.prog.underlying 212 = some (.array 64 5) := by kernel_rfl
theorem und2 : Tryz.prog.underlying 5 = some (.int .u8) := by kernel_rfl
theorem cells1 : Tryz.prog.cellsOf 212 = 64 := by kernel_rfl
theorem cells2 : Tryz.prog.cellsOf 5 = 1 := by kernel_rfl
theorem table {W : World} (h : laidMetH Tryz.prog Rows.sweepMarkedRow.laid W) : Go.Sh.TabAt Go.Sh.env.g_math_bits_deBruijn64tab W := by
 have ht := Lib.tabIs_of_head (rest := []) (k := .u8) (zs := Lib.deBruijn64tab.map fun n : Nat => (n : Int)) gTab gTabType und1 und2 cells2 cells1 h
 intro i hi
 have := ht.cell gTab i (by rw [List.length_map]; exact hi)
 rw [show (Lib.deBruijn64tab.map fun n : Nat => (n : Int)).getD i 0 = ((Lib.deBruijn64tab.getD i 0 : Nat) : Int) by rw [List.getD_eq_getElem?_getD, List.getD_eq_getElem?_getD, List.getElem?_map]; cases Lib.deBruijn64tab[i]? <;> rfl] at this
 exact this
theorem walk (x : Go.Sh.ArgTs [.int .i64, .int .i64, .sl (.int .i64), .sl (.int .i64), .bool]) (w : World) (h : Go.Sh.argOks w [.int .i64, .int .i64, .sl (.int .i64), .sl (.int .i64), .bool] x) (hT : Go.Sh.TabAt Go.Sh.env.g_math_bits_deBruijn64tab w) :
  Calls Tryz.prog 4 ⟨Go.Sh.argVals [.int .i64, .int .i64, .sl (.int .i64), .sl (.int .i64), .bool] x⟩ w fun e w' => e = .returned (.bool true) /\ Below w.heap.size w w' := by
 obtain ⟨a0, a1, a2, a3, a4, u⟩ := x
 obtain ⟨w0, w1, w2, w3, w4, _⟩ := h
 obtain ⟨z2, w2⟩ := w2
 obtain ⟨z3, w3⟩ := w3
 refine (Go.Sh.fits4 _ w (fun v w' => v = .bool true /\ Below w.heap.size w w') Go.Sh.noP ?_).2.mono ?_
 ·show Go.Sh.F.mallowlaw18_SweepMarked Go.Sh.env a0 a1 a2 a3 a4 (fun r w' => Value.bool r = .bool true /\ Below w.heap.size w w') w
  exact Go.Sh.marked_spec Go.Sh.envW hT w2 w3 fun w' h => ⟨rfl, h.below (Nat.le_refl _) fun _ f => f.elim⟩
 ·intro e w' hE
  obtain ⟨v, rfl, rfl, h⟩ := hE.val
  exact ⟨rfl, h⟩
noncomputable def laidWorld (os : Os) : World :=
 { World.holding Tryz.prog os ⟨#[], #[], []⟩ with heap := (World.holding Tryz.prog os ⟨#[], #[], []⟩).heap.modify 0 fun
   | .cells _ t frozen => .cells ⟨Lib.deBruijn64tab.map fun n : Nat => .int .u8 (n : Int)⟩ t frozen
   | o => o }
theorem laid_met (os : Os) : laidMet Tryz.prog Rows.sweepMarkedRow.laid ((laidWorld os).forCall (fun _ _ => 0) ⟨#[], #[.int .i64 0, .int .i64 0, .slice none 0 0, .slice none 0 0, .bool false], []⟩).memory :=
 laidMet_of_run' 8 (by kernel_rfl) (by kernel_rfl)
theorem reads (os : Os) {H : Type} (enc : TypeId × Value -> H) : ∃ places, DataW.whole enc Tryz.prog ((laidWorld os).forCall (fun _ _ => 0) ⟨#[], #[.int .i64 0, .int .i64 0, .slice none 0 0, .slice none 0 0, .bool false], []⟩).memory Tryz.f4.params.toList Rows.sweepMarkedSpec.vars false (#[.int .i64 0, .int .i64 0, .slice none 0 0, .slice none 0 0, .bool false] : Array Value).toList 8 = some ([.lit (.int .i64 0), .lit (.int .i64 0), .nil, .nil, .lit (.bool false)], [], places) :=
 ⟨[], by kernel_rfl⟩
set_option maxRecDepth 100000 in
theorem lifted (os : Os) (started : os.Started) (H : Type) (enc : TypeId × Value -> H) (F : Stop.Interp) :
  ReturnsInHanded {} Tryz.checked os 4 .any ((OpenSpec.ofChange Rows.sweepMarkedSpec).preRow enc Tryz.prog Tryz.f4 Rows.sweepMarkedRow.domain false Rows.sweepMarkedRow.laid) (((OpenSpec.ofChange Rows.sweepMarkedSpec).at F).post enc Tryz.prog Tryz.f4 false true false false) := by
 obtain ⟨places, hx⟩ := reads os enc
 refine returnsInHanded_of_row (C := Tryz.checked) (s := OpenSpec.ofChange Rows.sweepMarkedSpec) own started (by kernel_rfl) Tryz.func4
  (witness_row_at (enc := enc) (C := Tryz.checked) false (laidWorld os) #[.int .i64 0, .int .i64 0, .slice none 0 0, .slice none 0 0, .bool false] rfl (by kernel_rfl) (by kernel_rfl) (by kernel_rfl)
   (OpenSpec.preRow_of_cond 8 hx (by kernel_rfl) (fun k hk => by cases hk) (by kernel_rfl) (laid_met os))) ?_
 intro W base args ds gs before hval0 hW _ _ _ hL _ _
 have hW' := hW
 obtain ⟨p, q, hA, hV, rfl, hfz, hnd⟩ := hW
 obtain ⟨rfl, rfl⟩ := trodVars_none hV
 have hargs := Go.Sh.args_of (P := Tryz.prog) (shs := [.int .i64, .int .i64, .sl (.int .i64), .sl (.int .i64), .bool]) (by kernel_rfl) (fun j t v ht hv => hval0 j t v (by simpa using ht) (by simpa using hv)) hA
 obtain ⟨x, hx, hok⟩ := Go.Sh.argVals_of hargs
 obtain rfl : args = ⟨Go.Sh.argVals [.int .i64, .int .i64, .sl (.int .i64), .sl (.int .i64), .bool] x⟩ := Array.toList_inj.1 (by simpa using hx)
 have hlen := Go.Sh.trodAll_len hA
 obtain ⟨d0, d1, d2, d3, d4, rfl⟩ : ∃ d0 d1 d2 d3 d4, ds = [d0, d1, d2, d3, d4] := by
  have hl : ds.length = 5 := hlen
  match ds, hl with
  | [d0, d1, d2, d3, d4], _ => exact ⟨d0, d1, d2, d3, d4, rfl⟩
 refine (walk x W hok (table hL)).mono fun e W' ⟨he, bel⟩ => ?_
 subst he
 exact ⟨_, rfl, _, _, _, [], _, [], hW', trodAll_mk1 (shut_bool Tryz.underlying4 _), Go.Sh.trodAll_below laidOut bel (by kernel_rfl) hA, rfl, bel.frame _, fun h => by cases h⟩
theorem said : Rows.SweepMarkedSaid :=
 OpenClaim.holds_of_cond 4 Tryz.f4 rfl rfl rfl rfl rfl rfl rfl ⟨rfl, rfl, rfl, rfl, rfl⟩ rfl rfl rfl rfl rfl (by kernel_rfl) Tryz.func4 (by kernel_rfl)
  (of_decide_eq_true (by kernel_rfl)) (by unfold Func.isWrapper; first | (rw [if_pos (by decide +kernel)]; kernel_rfl) | (rw [if_neg (by decide +kernel)]; exact ⟨rfl, rfl⟩))
  (fun os started H enc _ F => by rw [OpenClaim.pre_eq_preRow]; exact lifted os started H enc F)
theorem plain (f : FuncId) (fn : Func) (hf : Tryz.pinned.checked.prog.funcNamed "mallow/mallowlaw18.SweepMarked" = some f) (hfn : Tryz.pinned.checked.prog.funcs[f]? = some fn) :
  true = Tryz.pinned.checked.prog.looks [] /\ ∀ (j : Nat) t, fn.params[j]? = some t -> Tryz.pinned.checked.prog.wantsStandIn t = false := by
 obtain rfl : f = 4 := Option.some.inj ((show Tryz.prog.funcNamed "mallow/mallowlaw18.SweepMarked" = some 4 by kernel_rfl).symm.trans hf) |>.symm
 obtain rfl : fn = Tryz.f4 := (Option.some.inj (Tryz.func4.symm.trans hfn)).symm
 refine ⟨by kernel_rfl, fun j t ht => ?_⟩
 have hall : (Tryz.f4.params.toList.all fun t => !(Tryz.prog.wantsStandIn t)) = true := by kernel_rfl
 have := List.all_eq_true.1 hall t (Array.mem_toList_iff.2 (Array.mem_of_getElem? ht))
 exact Bool.not_eq_true' _ ▸ this
theorem proved : Rows.SweepMarkedCardSaid :=
 Claim7.holds_tied_plain_at .later [] _ _ _ _ said (fun _ h => by cases h) (by kernel_rfl) (fun _ h => by cases h) sweepMarked_row_tie rfl ⟨rfl, rfl⟩ (by kernel_rfl) rfl plain (by kernel_rfl)
#print axioms proved
end Go.Proofs.YtdnkgjeggfhfiaaGreatDoor.sweepMarked
