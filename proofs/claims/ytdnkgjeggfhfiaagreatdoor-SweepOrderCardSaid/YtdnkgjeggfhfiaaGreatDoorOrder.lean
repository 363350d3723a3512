/- The law SweepOrder holds (its card: math/bits' table as the program's text lays it): for every input the Go function returns true and leaves its arguments alone. No further condition. -/
import Derived.Test.YtdnkgjeggfhfiaaGreatDoorW2
import Derived.Test.YtdnkgjeggfhfiaaGreatDoorL
import Derived.Test.YtdnkgjeggfhfiaaGreatDoorQ
import Derived.Test.YtdnkgjeggfhfiaaGreatDoorA
import Derived.Test.YtdnkgjeggfhfiaaGreatDoorCards
import Derived.Test.YtdnkgjeggfhfiaaGreatDoorTie
import Derived.WalkKit
import Derived.ProofKit
import Derived.OpenShut
import Derived.Deep.DeepHandedRow
import Derived.Lib.LaidTab
set_option linter.all false
set_option maxRecDepth 8000
set_option maxHeartbeats 4000000
namespace Go.Sh
section
variable {E : Env} {w : World} {Rs Z : List Pr} (hE : EnvW E)
include hE
end
end Go.Sh

set_option linter.all false
set_option maxRecDepth 8000
set_option maxHeartbeats 4000000
namespace Go.Sh
section
variable {E : Env} {w : World} {Z : List Pr} {b h s r : Nat} {W : SW} {U M : Bits}
theorem OneR.run {id : Int} {keep : Bool} {n : Nat} {gone : Bool} {W' : SW} {U' M' : Bits} (h : OneR W U M id keep n gone W' U' M') (hR : W.R = []) {x : Nat × SI} (hx : W.S.sp id = some x) :
    n = cN (fun i => U id i && !M id i) x.2.slots.toNat /\ U' = U.set id (fun i => U id i && M id i) /\ M' = M.set id none1 /\ ∃ uw, ∃ W1 : SW, W1 = { W with S := W.S.put id (x.1, keptI x.2 uw fun i => U id i && M id i), freed := u64 (W.freed + n), repaid := u64 (W.repaid + x.2.pages) } /\
    ((keep = true /\ ((cN (fun i => U id i && M id i) x.2.slots.toNat : Nat) : Int) < x.2.slots /\ gone = false /\ W' = W1) ∨
     (¬ (keep = true /\ ((cN (fun i => U id i && M id i) x.2.slots.toNat : Nat) : Int) < x.2.slots) /\ cN (fun i => U id i && M id i) x.2.slots.toNat = 0 /\ gone = true /\ ∃ a : Nat, id = (a : Int) + 1 /\ W' = { W1 with S := W1.S.free a (x.2.base / 8192) x.2.pages }) ∨
     (¬ (keep = true /\ ((cN (fun i => U id i && M id i) x.2.slots.toNat : Nat) : Int) < x.2.slots) /\ cN (fun i => U id i && M id i) x.2.slots.toNat ≠ 0 /\ gone = false /\ ∃ blk, W' = { W1 with L := insB W.L ⟨blk, id, x.2.base, (x.2.cls, x.2.noptr, ((cN (fun i => U id i && M id i) x.2.slots.toNat : Nat) : Int) == x.2.slots, true)⟩ })) := by
  obtain ⟨y, t, uw, hy, hz, ht, hn, hU, hM, W1, hW1, hc⟩ := h
  rw [hx] at hy
  cases hy
  rw [hR, spRun_none (by intro k hk z hz; cases hz)] at ht
  subst ht
  refine ⟨hn, hU, hM, uw, W1, ?_, hc⟩
  rw [hW1, hR]
variable (hE : EnvW E)
include hE
end
end Go.Sh

set_option linter.all false
set_option maxRecDepth 8000
set_option maxHeartbeats 8000000
namespace Go.Sh
theorem RfSt.put {S : HS} {i : Nat} {next b : Int} {rf : List Bool} (h : RfSt S i next b rf) {id : Int} {x : Nat × SI} (hI : HInv (S.put id x) no) : RfSt (S.put id x) i next b rf :=
 ⟨hI, h.la.sameV rfl rfl, h.rf, h.fr, h.lo, h.le, ⟨h.gn.rl, h.gn.re⟩, h.pg, h.rel, h.ow, h.fx⟩
theorem flip_false (x : Itm) : x.flip.swept = false := rfl
theorem cN_one (b : Bool) : ∀ n : Nat, cN (fun m => (m == 0) && b) (n + 1) = b.toNat
 | 0 => by show cN _ 0 + ((0 == 0) && b).toNat = b.toNat; simp [cN]
 | n + 1 => by
  show cN _ (n + 1) + ((n + 1 == 0) && b).toNat = b.toNat
  rw [cN_one b n]; simp
structure OrdSt (W : SW) (U M : Bits) (Bs : List Int) (next b : Int) : Prop where
 inv : SwInv W U M
 rs : RfSt W.S Bs.length next b []
 R : W.R = []
 em : W.em = []
 M0 : ∀ id m, M id m = false
 sp : ∀ (j : Nat) (v : Int), Bs[j]? = some v -> ∃ y, W.S.sp ((j : Int) + 1) = some y /\ y.2.base = v /\ ∀ m, U ((j : Int) + 1) m = (m == 0)
 asc : Bs.Pairwise (· < ·)
 lo : ∀ v ∈ Bs, v + 8192 <= next * 8192
 it : ∀ x ∈ W.L, x.swept = true /\ ∃ j : Nat, Bs[j]? = some x.base /\ x.id = (j : Int) + 1
 al : ∀ j : Nat, j < Bs.length -> ∃ x ∈ W.L, x.id = (j : Int) + 1
 len : W.L.length = Bs.length
 bd : b <= 512 + 512 * (Bs.length : Int)
structure MarkL (Bs : List Int) (mkf : Nat -> Bool) (As : List Int) : Prop where
 a1 : ∀ a ∈ As, ∃ (j : Nat) (v : Int), Bs[j]? = some v /\ mkf j = true /\ a = v + 3
 a2 : ∀ (j : Nat) (v : Int), Bs[j]? = some v -> mkf j = true -> v + 3 ∈ As
 ln : As.length = ((List.range Bs.length).filter mkf).length
structure OrdT (W : SW) (U M : Bits) (Bs : List Int) (mkf : Nat -> Bool) (t : Nat) : Prop where
 inv : SwInv W U M
 R : W.R = []
 em : W.em = []
 sp : ∀ (j : Nat) (v : Int), Bs[j]? = some v -> t <= j -> ∃ y, W.S.sp ((j : Int) + 1) = some y /\ y.2.base = v /\ (∀ m, U ((j : Int) + 1) m = (m == 0)) /\ ∀ m, M ((j : Int) + 1) m = ((m == 0) && mkf j)
 ex : ∀ j : Nat, j < t -> mkf j = true -> j < Bs.length -> W.S.sp ((j : Int) + 1) ≠ none
 no : ∀ id, W.S.sp id ≠ none -> ∃ j : Nat, j < Bs.length /\ id = (j : Int) + 1 /\ (t <= j ∨ mkf j = true)
 it : ∀ x ∈ W.L, ∃ j : Nat, Bs[j]? = some x.base /\ x.id = (j : Int) + 1 /\ (x.swept = true -> j < t) /\ (x.swept = false -> t <= j)
 al : ∀ j : Nat, t <= j -> j < Bs.length -> ∃ x ∈ W.L, x.id = (j : Int) + 1 /\ x.swept = false
 len : W.L.length <= Bs.length
theorem pw_lt {Bs : List Int} (h : Bs.Pairwise (· < ·)) {i j : Nat} {u v : Int} (hi : Bs[i]? = some u) (hj : Bs[j]? = some v) (hlt : i < j) : u < v := by
 obtain ⟨h1, rfl⟩ := List.getElem?_eq_some_iff.1 hi
 obtain ⟨h2, rfl⟩ := List.getElem?_eq_some_iff.1 hj
 exact List.pairwise_iff_getElem.1 h i j h1 h2 hlt
theorem OrdT.least {W : SW} {U M : Bits} {Bs : List Int} {mkf : Nat -> Bool} {t : Nat} (h : OrdT W U M Bs mkf t) (ha : Bs.Pairwise (· < ·)) (ht : t < Bs.length) {x : Itm} (hx : LeastS W.L x) : x.id = (t : Int) + 1 /\ Bs[t]? = some x.base := by
 obtain ⟨h1, h2, h3⟩ := hx
 obtain ⟨j, j1, j2, _, j4⟩ := h.it x h1
 obtain ⟨y, y1, y2, y3⟩ := h.al t (Nat.le_refl _) ht
 obtain ⟨k, k1, k2, _, k4⟩ := h.it y y1
 have hk : k = t := by omega
 subst hk
 have hle := h3 y y1 y3
 have hj := j4 h2
 rcases Nat.lt_or_eq_of_le hj with g | g
 ·have := pw_lt ha k1 j1 g
  omega
 ·subst g; exact ⟨j2, j1⟩
theorem OrdSt.marked {W : SW} {U M : Bits} {Bs As : List Int} {next b : Int} {mkf : Nat -> Bool} (h : OrdSt W U M Bs next b) (hA : MarkL Bs mkf As) {S' : HS} (he : MwEq W.S S') (hI : SwInv { W with S := S', L := flipL W.L } U (M.mark W.S As)) :
  OrdT { W with S := S', L := flipL W.L } U (M.mark W.S As) Bs mkf 0 := by
 have hmo : ∀ (j : Nat) (v : Int), Bs[j]? = some v -> mkOf W.S (v + 3) = some ((j : Int) + 1, 0) := fun j v hv => by
  obtain ⟨y, h1, h2, _⟩ := h.sp j v hv
  have hok := (h.inv.sp _ y h1).1
  have hsz := hok.size
  have hel : 8 <= y.2.elem := by
   have := hok.el
   have hp := hok.pg
   by_cases e : y.2.cls = 0
   ·rw [if_pos e] at this; omega
   ·rw [if_neg e] at this
    have hc := hok.cls
    have := cls_at_pos (c := y.2.cls) (by omega) hc.2
    omega
  obtain ⟨_, a2, a3, _, a5⟩ := h.inv.hI.sp _ y h1
  have hpg := hok.pg
  have ho : W.S.own ((v + 3) / 8192) = (j : Int) + 1 := a5 _ (by omega) (by omega)
  unfold mkOf
  rw [ho, h1]
  dsimp only
  have h3 : 1 * y.2.elem <= y.2.slots * y.2.elem := Int.mul_le_mul_of_nonneg_right (by omega) (by omega)
  rw [if_pos ⟨by omega, by omega⟩, show v + 3 - y.2.base = 3 by omega, Int.ediv_eq_zero_of_lt (by omega) (by omega)]
  rfl
 have hmk : ∀ (j : Nat) (v : Int), Bs[j]? = some v -> ∀ m, (M.mark W.S As) ((j : Int) + 1) m = ((m == 0) && mkf j) := fun j v hv m => by
  unfold Bits.mark
  rw [h.M0, Bool.false_or]
  cases e : ((m == 0) && mkf j) with
  | true =>
   rw [Bool.and_eq_true, beq_iff_eq] at e
   exact List.any_eq_true.2 ⟨_, hA.a2 j v hv e.2, decide_eq_true (by rw [hmo j v hv, e.1])⟩
  | false =>
   rw [Bool.eq_false_iff]
   intro g
   obtain ⟨a, ha, g2⟩ := List.any_eq_true.1 g
   have g2 := of_decide_eq_true g2
   obtain ⟨j', v', q1, q2, rfl⟩ := hA.a1 a ha
   rw [hmo j' v' q1] at g2
   injection g2 with g2
   injection g2 with g3 g4
   have : j' = j := by omega
   subst this
   rw [<- g4, q2] at e
   cases e
 have hsp : ∀ id, S'.sp id ≠ none -> W.S.sp id ≠ none := fun id hid hn => hid (he.no id hn)
 refine ⟨hI, h.R, h.em, fun j v hv _ => ?_, fun j hj => absurd hj (Nat.not_lt_zero j), fun id hid => ?_, fun z hz => ?_, fun j _ hj => ?_, by show (flipL W.L).length <= _; unfold flipL; rw [List.length_map, h.len]; omega⟩
 ·obtain ⟨y, h1, h2, h3⟩ := h.sp j v hv
  obtain ⟨mw, h4⟩ := he.sp _ y h1
  exact ⟨_, h4, h2, h3, hmk j v hv⟩
 ·obtain ⟨a, ha, h2, _⟩ := (h.inv.hI.sf id).1 (hsp id hid)
  rw [h.rs.fx] at h2
  exact ⟨a, h2, ha, .inl (Nat.zero_le _)⟩
 ·obtain ⟨x, hx, rfl⟩ := List.mem_map.1 hz
  obtain ⟨q1, j, q2, q3⟩ := h.it x hx
  refine ⟨j, q2, q3, fun hs => ?_, fun _ => Nat.zero_le _⟩
  rw [flip_false x] at hs; cases hs
 ·obtain ⟨x, hx, q⟩ := h.al j hj
  refine ⟨x.flip, List.mem_map.2 ⟨x, hx, rfl⟩, q, ?_⟩
  exact flip_false x
theorem OrdT.step {W W' : SW} {U M U' M' : Bits} {Bs : List Int} {mkf : Nat -> Bool} {t n : Nat} {gone : Bool} (h : OrdT W U M Bs mkf t) (ht : t < Bs.length) (hnd : (W.L.map (·.id)).Nodup) {x : Itm} (hx : x ∈ W.L) (hid : x.id = (t : Int) + 1) (hb : Bs[t]? = some x.base)
  (hone : OneR { W with L := remB W.L x.id } U M x.id false n gone W' U' M') (hI : SwInv W' U' M') : OrdT W' U' M' Bs mkf (t + 1) /\ gone = !mkf t /\ n = (!mkf t).toNat := by
 obtain ⟨y, y1, y2, y3, y4⟩ := h.sp t x.base hb (Nat.le_refl _)
 rw [<- hid] at y1 y3 y4
 have hok := (h.inv.sp _ y y1).1
 have hsz := hok.size
 obtain ⟨hn, hU, hM, uw, W1, hW1, hc⟩ := hone.run h.R (show (SW.S { W with L := remB W.L x.id }).sp x.id = some y from y1)
 obtain ⟨sl, hsl⟩ : ∃ sl, y.2.slots.toNat = sl + 1 := ⟨y.2.slots.toNat - 1, by omega⟩
 have e1 : (fun i => U x.id i && M x.id i) = fun m => (m == 0) && mkf t := by
  funext m; rw [y3, y4]; cases (m == 0) <;> simp
 have e2 : (fun i => U x.id i && !M x.id i) = fun m => (m == 0) && !mkf t := by
  funext m; rw [y3, y4]; cases (m == 0) <;> simp
 rw [e2, hsl, cN_one] at hn
 rw [e1, hsl, cN_one] at hc
 have hUne : ∀ i, i ≠ x.id -> U' i = U i := fun i hi => by rw [hU]; unfold Bits.set; rw [if_neg hi]
 have hMne : ∀ i, i ≠ x.id -> M' i = M i := fun i hi => by rw [hM]; unfold Bits.set; rw [if_neg hi]
 have jne : ∀ j : Nat, j ≠ t -> (j : Int) + 1 ≠ x.id := fun j hj e => hj (by omega)
 have hp := remB_perm hnd hx
 have hlen : W.L.length = (remB W.L x.id).length + 1 := by rw [hp.length_eq]; rfl
 have hWl := h.len
 have alr : ∀ j : Nat, t + 1 <= j -> j < Bs.length -> ∃ z ∈ remB W.L x.id, z.id = (j : Int) + 1 /\ z.swept = false := fun j h1 h2 => by
  obtain ⟨z, z1, z2, z3⟩ := h.al j (by omega) h2
  exact ⟨z, mem_remB.2 ⟨z1, by rw [z2]; exact jne j (by omega)⟩, z2, z3⟩
 have itr : ∀ z ∈ remB W.L x.id, ∃ j : Nat, Bs[j]? = some z.base /\ z.id = (j : Int) + 1 /\ (z.swept = true -> j < t + 1) /\ (z.swept = false -> t + 1 <= j) := fun z hz => by
  obtain ⟨z1, z2⟩ := mem_remB.1 hz
  obtain ⟨j, q1, q2, q3, q4⟩ := h.it z z1
  refine ⟨j, q1, q2, fun hs => by have := q3 hs; omega, fun hs => ?_⟩
  have := q4 hs
  rcases Nat.lt_or_eq_of_le this with g | g
  ·omega
  ·exact absurd (by rw [q2, <- g, hid]) z2
 cases hm : mkf t with
 | true =>
  rw [hm] at hc hn
  rcases hc with ⟨g, _⟩ | ⟨_, g, _⟩ | ⟨_, _, rfl, blk, hW'⟩
  ·cases g
  ·cases g
  rw [hW1] at hW'
  have spne : ∀ i, i ≠ x.id -> W'.S.sp i = W.S.sp i := fun i hi => by rw [hW']; exact HS.put_ne hi
  have spN : W'.S.sp x.id ≠ none := by rw [hW']; show (HS.put _ _ _).sp x.id ≠ none; rw [HS.put_sp]; exact fun e => by cases e
  refine ⟨⟨hI, by rw [hW']; exact h.R, by rw [hW']; exact h.em, fun j v hv hj => ?_, fun j hj hmj hjl => ?_, fun id hid2 => ?_, fun z hz => ?_, fun j hj hjl => ?_, ?_⟩, rfl, hn⟩
  ·obtain ⟨v1, q1, q2, q3, q4⟩ := h.sp j v hv (by omega)
   have ne := jne j (by omega)
   exact ⟨v1, (spne _ ne).trans q1, q2, by rw [hUne _ ne]; exact q3, by rw [hMne _ ne]; exact q4⟩
  ·by_cases e : j = t
   ·rw [e, <- hid]; exact spN
   ·rw [spne _ (jne j e)]; exact h.ex j (by omega) hmj hjl
  ·by_cases e : id = x.id
   ·exact ⟨t, ht, e.trans hid, .inr hm⟩
   ·rw [spne _ e] at hid2
    obtain ⟨j, q1, q2, q3⟩ := h.no id hid2
    refine ⟨j, q1, q2, ?_⟩
    rcases q3 with q3 | q3
    ·rcases Nat.lt_or_eq_of_le q3 with g | g
     ·exact .inl (by omega)
     ·exact absurd (by rw [q2, <- g, hid]) e
    ·exact .inr q3
  ·rw [hW'] at hz
   rcases mem_insB.1 hz with rfl | hz
   ·exact ⟨t, by rw [y2]; exact hb, hid, fun _ => Nat.lt_succ_self t, fun hs => by cases hs⟩
   ·exact itr z hz
  ·obtain ⟨z, z1, z2, z3⟩ := alr j hj hjl
   exact ⟨z, by rw [hW']; exact mem_insB.2 (.inr z1), z2, z3⟩
  ·rw [hW']
   show (insB _ _).length <= _
   rw [(insB_perm _ _).length_eq]
   show (remB W.L x.id).length + 1 <= _
   omega
 | false =>
  rw [hm] at hc hn
  rcases hc with ⟨g, _⟩ | ⟨_, _, rfl, a, ha, hW'⟩ | ⟨_, g, _⟩
  ·cases g
  rotate_left
  ·exact absurd rfl g
  rw [hW1] at hW'
  have spne : ∀ i, i ≠ x.id -> W'.S.sp i = W.S.sp i := fun i hi => by
   rw [hW']
   show (if i = (a : Int) + 1 then none else (HS.put _ _ _).sp i) = _
   rw [if_neg (by rw [<- ha]; exact hi)]; exact HS.put_ne hi
  have spN : W'.S.sp x.id = none := by
   rw [hW']
   show (if x.id = (a : Int) + 1 then none else (HS.put _ _ _).sp x.id) = none
   rw [if_pos ha]
  refine ⟨⟨hI, by rw [hW']; exact h.R, by rw [hW']; exact h.em, fun j v hv hj => ?_, fun j hj hmj hjl => ?_, fun id hid2 => ?_, fun z hz => ?_, fun j hj hjl => ?_, ?_⟩, rfl, hn⟩
  ·obtain ⟨v1, q1, q2, q3, q4⟩ := h.sp j v hv (by omega)
   have ne := jne j (by omega)
   exact ⟨v1, (spne _ ne).trans q1, q2, by rw [hUne _ ne]; exact q3, by rw [hMne _ ne]; exact q4⟩
  ·by_cases e : j = t
   ·rw [e, hm] at hmj; cases hmj
   ·rw [spne _ (jne j e)]; exact h.ex j (by omega) hmj hjl
  ·by_cases e : id = x.id
   ·rw [e] at hid2; exact absurd spN hid2
   ·rw [spne _ e] at hid2
    obtain ⟨j, q1, q2, q3⟩ := h.no id hid2
    refine ⟨j, q1, q2, ?_⟩
    rcases q3 with q3 | q3
    ·rcases Nat.lt_or_eq_of_le q3 with g | g
     ·exact .inl (by omega)
     ·exact absurd (by rw [q2, <- g, hid]) e
    ·exact .inr q3
  ·have hz : z ∈ remB W.L x.id := by rw [hW'] at hz; exact hz
   exact itr z hz
  ·obtain ⟨z, z1, z2, z3⟩ := alr j hj hjl
   exact ⟨z, by rw [hW']; exact z1, z2, z3⟩
  ·rw [hW']
   show (remB W.L x.id).length <= _
   omega
end Go.Sh

set_option linter.all false
set_option maxRecDepth 8000
set_option maxHeartbeats 8000000
namespace Go.Sh
theorem bit7 (x : Int) : 0 <= bitK .i64 0 x 7 /\ bitK .i64 0 x 7 <= 7 := by
 show 0 <= IntKind.wrap .i64 ((BitVec.ofInt 64 x &&& BitVec.ofInt 64 7).toNat : Int) /\ IntKind.wrap .i64 ((BitVec.ofInt 64 x &&& BitVec.ofInt 64 7).toNat : Int) <= 7
 have h : (BitVec.ofInt 64 x &&& BitVec.ofInt 64 7).toNat <= 7 := by
  rw [BitVec.toNat_and]
  exact Nat.le_trans Nat.and_le_right (by decide)
 have e : IntKind.wrap .i64 ((BitVec.ofInt 64 x &&& BitVec.ofInt 64 7).toNat : Int) = ((BitVec.ofInt 64 x &&& BitVec.ofInt 64 7).toNat : Int) := i64_id (by omega) (by omega)
 rw [e]; omega
theorem MarkL.snoc {Bs As : List Int} {mkf : Nat -> Bool} {v : Int} (h : MarkL Bs mkf As) : MarkL (Bs ++ [v]) mkf (if mkf Bs.length = true then As ++ [v + 3] else As) := by
 have get : ∀ {j : Nat} {u : Int}, (Bs ++ [v])[j]? = some u -> Bs[j]? = some u ∨ (j = Bs.length /\ u = v) := fun {j u} hu => by
  rcases Nat.lt_or_ge j Bs.length with g | g
  ·rw [List.getElem?_append_left g] at hu; exact .inl hu
  ·rw [List.getElem?_append_right g] at hu
   have : j - Bs.length = 0 := Classical.byContradiction fun e => by
    obtain ⟨k, hk⟩ : ∃ k, j - Bs.length = k + 1 := ⟨j - Bs.length - 1, by omega⟩
    rw [hk] at hu; simp at hu
   rw [this] at hu
   simp at hu
   exact .inr ⟨by omega, hu.symm⟩
 have old : ∀ {j : Nat} {u : Int}, Bs[j]? = some u -> (Bs ++ [v])[j]? = some u := fun {j u} hu => by
  rw [List.getElem?_append_left (List.getElem?_eq_some_iff.1 hu).1]; exact hu
 have last : (Bs ++ [v])[Bs.length]? = some v := by rw [List.getElem?_append_right (Nat.le_refl _)]; simp
 refine ⟨fun a ha => ?_, fun j u hu hm => ?_, ?_⟩
 ·by_cases g : mkf Bs.length = true
  ·rw [if_pos g] at ha
   rcases List.mem_append.1 ha with ha | ha
   ·obtain ⟨j, u, h1, h2, h3⟩ := h.a1 a ha
    exact ⟨j, u, old h1, h2, h3⟩
   ·exact ⟨_, v, last, g, List.mem_singleton.1 ha⟩
  ·rw [if_neg g] at ha
   obtain ⟨j, u, h1, h2, h3⟩ := h.a1 a ha
   exact ⟨j, u, old h1, h2, h3⟩
 ·rcases get hu with hu | ⟨rfl, rfl⟩
  ·have := h.a2 j u hu hm
   split
   ·exact List.mem_append_left _ this
   ·exact this
  ·rw [if_pos hm]; exact List.mem_append_right _ (List.mem_singleton.2 rfl)
 ·rw [List.length_append, List.length_singleton, List.range_succ, List.filter_append, List.length_append, <- h.ln]
  by_cases g : mkf Bs.length = true
  ·rw [if_pos g]; simp [g]
  ·rw [if_neg g]; simp [g]
theorem OrdSt.next {W : SW} {U M : Bits} {Bs : List Int} {next b n : Int} (h : OrdSt W U M Bs next b) (hn : 1 <= n /\ n <= 8) {S1 : HS} {id : Int} {bl blk : Nat} {J : SI} {U2 : Bits} (hid : id = (Bs.length : Int) + 1) (hj : J.base = next * 8192)
  (hrs : RfSt S1 (Bs.length + 1) (next + n) (nextB next b n) []) (hne : ∀ j, j ≠ id -> S1.sp j = W.S.sp j) (hU : ∀ m, U2 id m = (m == 0)) (hU2 : ∀ j, j ≠ id -> U2 j = U j)
  {kd : Kd} (hkd : kd.2.2.2 = true) (hI : SwInv { W with S := S1.put id (bl, J), L := insB W.L ⟨blk, id, J.base, kd⟩ } U2 (M.set id none1)) :
  OrdSt { W with S := S1.put id (bl, J), L := insB W.L ⟨blk, id, J.base, kd⟩ } U2 (M.set id none1) (Bs ++ [next * 8192]) (next + n) (nextB next b n) := by
 have get : ∀ {j : Nat} {u : Int}, (Bs ++ [next * 8192])[j]? = some u -> Bs[j]? = some u ∨ (j = Bs.length /\ u = next * 8192) := fun {j u} hu => by
  rcases Nat.lt_or_ge j Bs.length with g | g
  ·rw [List.getElem?_append_left g] at hu; exact .inl hu
  ·rw [List.getElem?_append_right g] at hu
   have : j - Bs.length = 0 := Classical.byContradiction fun e => by
    obtain ⟨k, hk⟩ : ∃ k, j - Bs.length = k + 1 := ⟨j - Bs.length - 1, by omega⟩
    rw [hk] at hu; simp at hu
   rw [this] at hu
   simp at hu
   exact .inr ⟨by omega, hu.symm⟩
 have old : ∀ {j : Nat} {u : Int}, Bs[j]? = some u -> (Bs ++ [next * 8192])[j]? = some u := fun {j u} hu => by
  rw [List.getElem?_append_left (List.getElem?_eq_some_iff.1 hu).1]; exact hu
 have last : (Bs ++ [next * 8192])[Bs.length]? = some (next * 8192) := by rw [List.getElem?_append_right (Nat.le_refl _)]; simp
 have hpi := insB_perm W.L ⟨blk, id, J.base, kd⟩
 have hl := h.len
 refine ⟨hI, ?_, h.R, h.em, fun a m => ?_, fun j v hv => ?_, ?_, fun v hv => ?_, fun x hx => ?_, fun j hj2 => ?_, ?_, ?_⟩
 ·rw [List.length_append, List.length_singleton]
  exact hrs.put hI.hI
 ·unfold Bits.set
  split
  ·rfl
  ·exact h.M0 a m
 ·rcases get hv with hv | ⟨rfl, rfl⟩
  ·have hjl := (List.getElem?_eq_some_iff.1 hv).1
   obtain ⟨y, h1, h2, h3⟩ := h.sp j v hv
   have ne : (j : Int) + 1 ≠ id := by rw [hid]; omega
   exact ⟨y, (HS.put_ne ne).trans ((hne _ ne).trans h1), h2, by rw [hU2 _ ne]; exact h3⟩
  ·rw [<- hid]
   exact ⟨_, HS.put_sp, hj, hU⟩
 ·rw [List.pairwise_append]
  refine ⟨h.asc, by simp, fun u hu v hv => ?_⟩
  obtain rfl := List.mem_singleton.1 hv
  have := h.lo u hu
  omega
 ·rcases List.mem_append.1 hv with hv | hv
  ·have := h.lo v hv; omega
  ·obtain rfl := List.mem_singleton.1 hv
   omega
 ·rcases mem_insB.1 hx with rfl | hx
  ·exact ⟨hkd, _, by rw [hj]; exact last, hid⟩
  ·obtain ⟨q1, j, q2, q3⟩ := h.it x hx
   exact ⟨q1, j, old q2, q3⟩
 ·rw [List.length_append, List.length_singleton] at hj2
  by_cases e : j = Bs.length
  ·exact ⟨_, mem_insB.2 (.inl rfl), by rw [e]; exact hid⟩
  ·obtain ⟨x, q1, q2⟩ := h.al j (by omega)
   exact ⟨x, mem_insB.2 (.inr q1), q2⟩
 ·rw [show (SW.L _) = insB W.L _ from rfl, hpi.length_eq, List.length_append]
  show W.L.length + 1 = _
  rw [hl]; rfl
 ·rw [List.length_append, List.length_singleton]
  have := h.bd
  have hu : upN n = 512 := by unfold upN; omega
  unfold nextB
  rw [show ((Bs.length + 1 : Nat) : Int) = (Bs.length : Int) + 1 from rfl]
  split <;> omega
theorem intsAt {k : IntKind} {l : List Int} {j : Nat} {v : Int} (h : l[j]? = some v) : (ints k l)[j]? = some (.int k v) := by
 unfold ints; rw [List.getElem?_map, h]; rfl
section
variable {E : Env} {w : World} {Rs Z : List Pr} (hE : EnvW E) (hH : EnvH E)
include hE hH
theorem order_spec (hT : TabAt E.g_math_bits_deBruijn64tab w) {a0 a1 : SlV} {z0 : Nat -> Int} {z1 : Nat -> Bool} (h0 : RowA w (.int .i64) a0 z0) (h1 : RowA w .bool a1 z1) {K : Bool -> World -> Prop} (hK : ∀ w', Ext Nothing w w' -> K true w') : F.mallowlaw18_SweepOrder E a0 a1 K w := by
 unfold F.mallowlaw18_SweepOrder T0.mallowlaw18_SweepOrder
 refine JOIN_intro (fun st w' => w' = w /\ (st.1 = false -> a0.len <= 30)) (CND_dec (fun _ => ⟨rfl, fun h => by cases h⟩) fun g1 => ⟨rfl, fun _ => by omega⟩) ?_
 rintro ⟨st, u⟩ _ w3 ⟨rfl, hc⟩
 dsimp only at hc ⊢
 refine CND_intro (fun _ => hK w3 (Ext.refl _ _)) fun hst => ?_
 have hlen := hc hst
 have hTT : ∀ {Y : List Pr} {w'} (i : Nat), Sat Y w' -> Y[i]? = some (Old w3) -> TabAt E.g_math_bits_deBruijn64tab w' := fun i h hi => hT.ext (h.old i hi)
 have haw : ∀ {Y : List Pr} {w'} (i : Nat), Sat Y w' -> Y[i]? = some (Old w3) -> F.mallowlaw18_awake E (fun r6 w7 => K r6 w7) w' := fun i h' hi => awake18_spec hE (fun w' h => hTT i h hi) h' fun w7 H7 => hK w7 (H7.old i hi)
 refine fresh18_spec (hS := hE.toEnvS) (Sat.start w3) fun b h s r w6 H6 => CND_f rfl ?_
 obtain ⟨mkf, hmkf⟩ : ∃ mkf : Nat -> Bool, mkf = fun j => decide (j < a1.len) && z1 j := ⟨_, rfl⟩
 have flag : ∀ {Y : List Pr} {w'} (q i : Nat), Sat Y w' -> Y[q]? = some (Old w3) -> JOIN (Bool × Unit) (fun J => CND (decide ((i : Int) < ((a1.len : Nat) : Int))) (NC a1.base fun p => ((0 : Int) <= (i : Int) /\ ((i : Int) : Int) < (a1.len : Nat)) /\ ∃ x : Bool, w'.cell? (p.add (Int.toNat (i : Int) * 1)) = some (.bool x) /\ J (x, ()) w') (J (false, ()) w')) (fun st _ w'' => w'' = w' /\ st.1 = mkf i) := fun {Y w'} q i h' hq => by
  refine JOIN_in (CND_dec (fun g => ?_) fun g j => ⟨rfl, ?_⟩)
  ·obtain ⟨q3, hq3, hc3⟩ := h1.cellB (show i < a1.len by omega)
   rw [hq3]
   refine NC_in ⟨⟨by omega, by omega⟩, z1 i, by rw [Int.toNat_natCast, Nat.mul_one]; exact (h'.old q hq).cell hc3 fun f => f, fun j => ⟨rfl, ?_⟩⟩
   rw [hmkf]
   show z1 i = (decide (i < a1.len) && z1 i)
   rw [decide_eq_true (by omega)]; rfl
  ·rw [hmkf]
   show false = (decide (i < a1.len) && z1 i)
   rw [decide_eq_false (by omega)]; rfl
 have Hn : Sat [SweepP E b h s r (SW.new (HS.new (newV [] [] []))), Row E.t_uint64 1 ⟨none, 0, 0⟩ (ints .u64 []), Row E.t_uint64 1 ⟨none, 0, 0⟩ (ints .u64 []), Old w3] w6 := ((H6.nil E.t_uint64 1).nil E.t_uint64 1).front 2 rfl
 have hS0 : OrdSt (SW.new (HS.new (newV [] [] []))) bits0 bits0 [] 512 512 := ⟨SwInv.new [] [] [], RfSt.new [], rfl, rfl, fun _ _ => rfl, fun j v hv => by simp at hv, List.Pairwise.nil, fun v hv => (by cases hv), fun x hx => (by cases hx), fun j hj => absurd hj (Nat.not_lt_zero j), rfl, by decide⟩
 have hM0 : MarkL [] mkf [] := ⟨fun a ha => (by cases ha), fun j v hv => by simp at hv, rfl⟩
 refine LOOP_intro (fun st w' => ∃ (W : SW) (U M : Bits) (Bs As : List Int) (next bb : Int), st.2.2.1 = (Bs.length : Int) /\ Bs.length <= a0.len /\ OrdSt W U M Bs next bb /\ MarkL Bs mkf As /\ Sat [SweepP E b h s r W, Row E.t_uint64 1 st.1 (ints .u64 Bs), Row E.t_uint64 1 st.2.1 (ints .u64 As), Old w3] w') (fun st _ => ((a0.len : Int) - st.2.2.1).toNat)
  ⟨_, _, _, [], [], 512, 512, rfl, Nat.zero_le _, hS0, hM0, Hn⟩ ?_
 rintro ⟨sl1, sl2, i', u⟩ _ w8 ⟨W, U, M, Bs, As, next, bb, hi, hil, hS, hM, H8⟩
 dsimp only at hi H8 ⊢
 subst hi
 have hl1 := (H8.front 1 rfl).rowLen
 have hl2 := (H8.front 2 rfl).rowLen
 simp only [ints, List.length_map, Nat.mul_one] at hl1 hl2
 have hAl : As.length <= Bs.length := by rw [hM.ln]; exact Nat.le_trans (List.length_filter_le _ _) (by rw [List.length_range]; exact Nat.le_refl _)
 refine CND_dec (fun hlt => ?_) fun hge => ?_
 ·obtain ⟨q0, hq0, hcell0, _⟩ := h0.cell1 (show Bs.length < a0.len by omega)
  have rd0 : w8.cell? (q0.add (Int.toNat ((Bs.length : Nat) : Int) * 1)) = some (.int .i64 (z0 Bs.length)) := by
   rw [Int.toNat_natCast, Nat.mul_one]; exact (H8.old 3 rfl).cell hcell0 fun f => f
  have hri : (0 : Int) <= ((Bs.length : Nat) : Int) /\ (((Bs.length : Nat) : Int) : Int) < (a0.len : Nat) := ⟨by omega, by omega⟩
  rw [hq0]
  generalize z0 Bs.length = x at rd0
  refine JOIN_intro (fun st w' => w' = w8 /\ (1 <= st.1 /\ st.1 <= 8) /\ ¬ spBad 0 st.1 st.2.1 /\ 0 < (spOf next st.1 st.2.1 false).slots) (NC_in ⟨hri, x, rd0, CND_eq (fun _ => ⟨rfl, by decide, ?_, ?_⟩) fun _ => NC_in ⟨hri, x, rd0, LET_intro fun pg hpg => ⟨rfl, ?_⟩⟩⟩) ?_
  ·show ¬ spBad 0 1 5
   unfold spBad; rw [cls5]; omega
  ·show (0 : Int) < (if (5 : Int) = 0 then 1 else (clsAt 5).2.2.1)
   rw [cls5f]; decide
  ·have hb7 := bit7 x
   rw [i64_id (n := 1 + bitK .i64 0 x 7) (by omega) (by omega), u64_id (by omega) (by omega)] at hpg
   have h18 : 1 <= pg /\ pg <= 8 := by omega
   exact ⟨h18, spOk0 (by show 1 <= pg; omega) (by show pg <= _; omega), by show (0 : Int) < 1; decide⟩
  rintro ⟨n, c, u⟩ _ w12 ⟨rfl, hn, hbad, hslt⟩
  dsimp only at hn hbad hslt ⊢
  have hbd := hS.bd
  have hu : upN n = 512 := by unfold upN; omega
  refine swheap_spec H8 ?_
  obtain ⟨R, HH, hz, hb1⟩ := H8.swHeap
  refine halloc_ok hE.toEnvA (fun w' h' => hTT 2 (hz h') rfl) HH hS.inv.hI hS.rs.laid hbad (by omega) (by omega) fun _ page S2 bl id X hf hk hI2 q0' q1 hX hI3 w22 H22 => ?_
  obtain ⟨hI4, hnone⟩ := hS.inv.keep (np := false) hf hX q0' q1 hbad (by omega) hI3
  obtain ⟨rfl, hid, rfl, _, hrs, _⟩ := hS.rs.keep hk hk.clr hn.1 (by omega) hf hX hI3
  have es := hf.same
  have hspid : (S2.keep id (bl, spOf page n c false) page n ⟨Bs.length + 1, []⟩).sp id = some (bl, spOf page n c false) := if_pos rfl
  have hspne : ∀ i, i ≠ id -> (S2.keep id (bl, spOf page n c false) page n ⟨Bs.length + 1, []⟩).sp i = W.S.sp i := fun i hi => by
   show (if i = id then _ else S2.sp i) = _
   rw [if_neg hi, es.sp]
  have H23 := hb1 H22
  rw [show (([] : List Bool).drop (asks page bb n)) = [] by simp] at hrs
  generalize S2.keep id (bl, spOf page n c false) page n ⟨Bs.length + 1, []⟩ = S1 at hspid hspne hI4 hrs H23
  refine swheap_spec H23 (swspan_spec H23 (fun hn' => by rw [show (SW.S _).sp id = _ from hspid] at hn'; cases hn') fun y hy => ?_)
  rw [show (SW.S _).sp id = _ from hspid] at hy
  cases hy
  refine JOIN_in (CND_f rfl fun _ => CND_f rfl ?_)
  refine swslot_spec (x := (bl, spOf page n c false)) (fun w' h' => hTT 2 h' rfl) H23 hI4 hspid (fun hall => ?_) fun m uw' hm hum hlow hI5 w33 H33 => ?_
  ·have := hall 0 hslt
   rw [Bits.set_at] at this; cases this
  obtain rfl : m = 0 := by
   rcases Nat.eq_zero_or_pos m with e | e
   ·exact e
   ·have := hlow 0 e
    rw [Bits.set_at] at this; cases this
  have hsp2 : ({ W with S := S1.put id (bl, { spOf page n c false with uw := uw', used := (spOf page n c false).used + 1, look := ((0 : Nat) : Int) + 1 }) } : SW).S.sp id = some (bl, { spOf page n c false with uw := uw', used := (spOf page n c false).used + 1, look := ((0 : Nat) : Int) + 1 }) := HS.put_sp
  have hjb : ({ spOf page n c false with uw := uw', used := (spOf page n c false).used + 1, look := ((0 : Nat) : Int) + 1 } : SI).base = page * 8192 := rfl
  have hUid : ∀ m, ((U.set id none1).set id fun i => (U.set id none1) id i || i == 0) id m = (m == 0) := fun m => by rw [Bits.set_at, Bits.set_at]; simp [none1]
  have hUne : ∀ j, j ≠ id -> ((U.set id none1).set id fun i => (U.set id none1) id i || i == 0) j = U j := fun j hj => by unfold Bits.set; rw [if_neg hj, if_neg hj]
  have hba := (hI5.sp id _ hsp2).1.ba
  generalize ({ spOf page n c false with uw := uw', used := (spOf page n c false).used + 1, look := ((0 : Nat) : Int) + 1 } : SI) = J at hsp2 hjb hI5 H33 hba
  generalize ((U.set id none1).set id fun i => (U.set id none1) id i || i == 0) = U2 at hUid hUne hI5
  refine swinfo_spec H33 hsp2 fun w44 H44 => ?_
  dsimp only
  rw [hjb] at hba ⊢
  have hpg2 : J.pages = J.pages := rfl
  refine AL_cells (vs := [.int .u64 (page * 8192)]) H44 fun b45 w46 H46 _ => ?_
  refine APP_one (zs := #[.int .u64 0]) (bytes := 8) (H46.front2 1 rfl) rfl rfl (by simp [Value.oneCell']) (by omega) (by omega) fun s47 w48 H48 hs47 => ?_
  rw [show ints .u64 Bs ++ [.int .u64 (page * 8192)] = ints .u64 (Bs ++ [page * 8192]) by simp [ints]] at H48
  have H49 := H48.front 1 rfl
  refine JOIN_intro (fun st w' => Sat [SweepP E b h s r { W with S := S1.put id (bl, J) }, Row E.t_uint64 1 s47 (ints .u64 (Bs ++ [page * 8192])), Row E.t_uint64 1 st.1 (ints .u64 (if mkf Bs.length = true then As ++ [page * 8192 + 3] else As)), Old w3] w') ?_ ?_
  ·refine JOIN_intro (fun st w' => w' = w48 /\ st.1 = mkf Bs.length) ?_ ?_
   ·obtain ⟨P, hP1, hP2⟩ := flag 3 Bs.length H49 rfl
    exact CND_dec (fun g => by
     obtain ⟨q3, hq3, hc3⟩ := h1.cellB (show Bs.length < a1.len by omega)
     rw [hq3]
     refine NC_in ⟨⟨by omega, by omega⟩, z1 Bs.length, by rw [Int.toNat_natCast, Nat.mul_one]; exact (H49.old 3 rfl).cell hc3 fun f => f, rfl, ?_⟩
     rw [hmkf]
     show z1 Bs.length = (decide (Bs.length < a1.len) && z1 Bs.length)
     rw [decide_eq_true (by omega)]; rfl) fun g => ⟨rfl, by rw [hmkf]; show false = (decide (Bs.length < a1.len) && z1 Bs.length); rw [decide_eq_false (by omega)]; rfl⟩
   ·rintro ⟨fl, u⟩ _ w54 ⟨rfl, hfl⟩
    dsimp only at hfl ⊢
    subst hfl
    refine CND_intro (fun g => ?_) fun g => by rw [if_neg (by rw [g]; decide)]; exact H49
    rw [if_pos g]
    refine swinfo_spec H49 hsp2 fun w67 H67 => ?_
    dsimp only
    rw [hjb, u64_id (n := page * 8192 + 3) (by omega) (by have hp := (hI5.sp id _ hsp2).1.pg; have : J.base = page * 8192 := hjb; have hb2 := (hI5.sp id _ hsp2).1.ba; have hb3 : J.base + J.pages * 8192 <= 281474976710656 := hb2.2.2; have hp1 : 1 <= J.pages := hp.1; omega)]
    refine AL_cells (vs := [.int .u64 (page * 8192 + 3)]) H67 fun b68 w69 H69 _ => ?_
    refine APP_one (zs := #[.int .u64 0]) (bytes := 8) (H69.front2 2 rfl) rfl rfl (by simp [Value.oneCell']) (by omega) (by omega) fun s70 w71 H71 hs70 => ?_
    rw [show ints .u64 As ++ [.int .u64 (page * 8192 + 3)] = ints .u64 (As ++ [page * 8192 + 3]) by simp [ints]] at H71
    exact (H71.front 2 rfl).front 2 rfl
  ·rintro ⟨s50, u⟩ _ w51 H51
   dsimp only at H51 ⊢
   refine swput_spec hE H51 hI5 (by show W.L.length < _; rw [hS.len]; omega) (fun hn' => by rw [hsp2] at hn'; cases hn') (fun _ ⟨z, hz2, e⟩ => ?_) fun y hy _ blk hI6 w73 H73 => CND_f rfl ?_
   ·exfalso
    obtain ⟨v, hv, _⟩ := hS.inv.it z hz2
    rw [e, hnone] at hv; cases hv
   ·rw [hsp2] at hy
    cases hy
    have hnx := hS.next hn (J := J) (bl := bl) (blk := blk) hid hjb hrs hspne hUid hUne rfl hI6
    rw [show i64 (((Bs.length : Nat) : Int) + 1) = (((Bs ++ [page * 8192]).length : Nat) : Int) by rw [i64_id (by omega) (by omega), List.length_append]; rfl]
    exact ⟨⟨_, _, _, Bs ++ [page * 8192], _, _, _, rfl, by rw [List.length_append]; show Bs.length + 1 <= _; omega, hnx, hM.snoc, H73⟩, by rw [List.length_append]; show (_ - ((Bs.length + 1 : Nat) : Int)).toNat < _; omega⟩
 ·have hn0 : Bs.length = a0.len := by omega
  have hTz : ∀ w', Sat [Row E.t_uint64 1 sl1 (ints .u64 Bs), Row E.t_uint64 1 sl2 (ints .u64 As), Old w3] w' -> TabAt E.g_math_bits_deBruijn64tab w' := fun w' h' => hTT 2 h' rfl
  have hrowM : ∀ w', Sat [Row E.t_uint64 1 sl1 (ints .u64 Bs), Row E.t_uint64 1 sl2 (ints .u64 As), Old w3] w' -> rowAt w' sl2.base sl2.len (ints .u64 As) := fun w' h' => by have := (h'.front 1 rfl).rowAll; rwa [Nat.mul_one] at this
  have hAsB : ∀ a ∈ As, 0 <= a /\ a < 18446744073709551616 := fun a ha => by
   obtain ⟨j, v, q1, q2, rfl⟩ := hM.a1 a ha
   obtain ⟨y, p1, p2, _⟩ := hS.sp j v q1
   have hok := (hS.inv.sp _ y p1).1
   have := hok.ba
   have := hok.pg
   omega
  refine JOIN_intro (fun st w' => st.1 = false /\ ∃ W U M, OrdT W U M Bs mkf 0 /\ Sat [SweepP E b h s r W, Row E.t_uint64 1 sl1 (ints .u64 Bs), Row E.t_uint64 1 sl2 (ints .u64 As), Old w3] w') ?_ ?_
  ·refine swmark_spec hE H8 hS.inv (as_ := As) hrowM hl2 (by omega) hAsB (fun hpos => ?_) fun _ S' he hI2 w78 H78 => CND_f rfl ?_
   ·exfalso
    have : cntS W.L false = 0 := by
     show (W.L.filter _).length = 0
     rw [List.length_eq_zero_iff, List.filter_eq_nil_iff]
     intro x hx
     rw [(hS.it x hx).1]; simp
    omega
   have hO := hS.marked hM he hI2
   refine CND_dec (fun g => ?_) fun g => ⟨rfl, _, _, _, hO, H78⟩
   refine swmark_spec hE H78 hI2 (as_ := As) hrowM hl2 (by omega) hAsB (fun _ w80 H80 => ⟨rfl, _, _, _, hO, H80⟩) fun hall => ?_
   obtain ⟨x, hx, _, hxs⟩ := hO.al 0 (Nat.le_refl _) (by omega)
   rw [hall x hx] at hxs; cases hxs
  rintro ⟨st, u⟩ _ w76 ⟨hst2, W2, U2, M2, hO, H76⟩
  refine CND_f hst2 ?_
  refine LOOP_intro (fun st w' => ∃ (t : Nat) (W : SW) (U M : Bits), st.1 = (t : Int) /\ t <= Bs.length /\ OrdT W U M Bs mkf t /\ Sat [SweepP E b h s r W, Row E.t_uint64 1 sl1 (ints .u64 Bs), Row E.t_uint64 1 sl2 (ints .u64 As), Old w3] w') (fun st _ => (100 - st.1).toNat) ⟨0, W2, U2, M2, rfl, Nat.zero_le _, hO, H76⟩ ?_
  rintro ⟨t', u⟩ _ w82 ⟨t, W3, U3, M3, ht, htl, hO3, H82⟩
  dsimp only at ht ⊢
  subst ht
  refine CND_dec (fun hlt => ?_) fun hge2 => ?_
  ·have htB : t < Bs.length := by omega
   obtain ⟨Rq, HHq, _, _⟩ := H82.swSets
   have hnd := HHq.setsInv.nd
   refine swnext_spec hE H82 hO3.inv (fun hall => ?_) fun x hx hI4 w86 H86 => ?_
   ·obtain ⟨x, hx, _, hxs⟩ := hO3.al t (Nat.le_refl _) htB
    rw [hall x hx] at hxs; cases hxs
   obtain ⟨hid, hb⟩ := hO3.least hS.asc htB hx
   obtain ⟨y, y1, y2, y3, y4⟩ := hO3.sp t x.base hb (Nat.le_refl _)
   have hok := (hO3.inv.sp _ y y1).1
   have hba := hok.ba
   have hpg := hok.pg
   refine JOIN_intro (fun st w' => st.1 = false /\ Sat [SweepP E b h s r { W3 with L := remB W3.L x.id }, Row E.t_uint64 1 sl1 (ints .u64 Bs), Row E.t_uint64 1 sl2 (ints .u64 As), Old w3] w') ?_ ?_
   ·have Hd := H86.drew
    refine CND_f rfl ((Hd.front 1 rfl).rowCell (j := t) (v := .int .u64 x.base) (intsAt hb) fun p hp hpc => ⟨⟨by omega, by omega⟩, x.base, by rw [Int.toNat_natCast, Nat.mul_one]; exact hpc, swheap_spec Hd ⟨by rw [Int.toNat_natCast, Nat.mul_one]; exact hpc, ?_⟩⟩)
    refine swof_spec Hd (by omega) (by omega) fun w95 H95 => ⟨?_, H95⟩
    obtain ⟨_, a2, a3, _, a5⟩ := hO3.inv.hI.sp _ y y1
    have ho : W3.S.own (x.base / 8192) = (t : Int) + 1 := a5 _ (by rw [y2]; omega) (by rw [y2]; omega)
    show (W3.S.own (x.base / 8192) != x.id) = false
    rw [ho, hid]; simp
   ·rintro ⟨s88, u⟩ _ w89 ⟨h88, H89⟩
    refine CND_f h88 ?_
    refine JOIN_intro (fun st w' => w' = w89 /\ st.1 = mkf t) (CND_dec (fun g => by
     obtain ⟨q3, hq3, hc3⟩ := h1.cellB (show t < a1.len by omega)
     rw [hq3]
     refine NC_in ⟨⟨by omega, by omega⟩, z1 t, by rw [Int.toNat_natCast, Nat.mul_one]; exact (H89.old 3 rfl).cell hc3 fun f => f, rfl, ?_⟩
     rw [hmkf]
     show z1 t = (decide (t < a1.len) && z1 t)
     rw [decide_eq_true (by omega)]; rfl) fun g => ⟨rfl, by rw [hmkf]; show false = (decide (t < a1.len) && z1 t); rw [decide_eq_false (by omega)]; rfl⟩) ?_
    rintro ⟨fl, u⟩ _ w98 ⟨rfl, hfl⟩
    dsimp only at hfl ⊢
    subst hfl
    have hl30 : (remB W3.L x.id).length <= 30 := Nat.le_trans (List.length_filter_le _ _) (by have := hO3.len; omega)
    have y1' : ({ W3 with L := remB W3.L x.id } : SW).S.sp x.id = some y := by rw [hid]; exact y1
    refine swone_spec hE hTz H89 hI4 (by show (remB W3.L x.id).length < _; omega) (by show W3.em.length + W3.R.length <= _; rw [hO3.em, hO3.R]; decide) (fun z hz => (mem_remB.1 hz).2) (fun hn => by rw [y1'] at hn; cases hn) (fun z hz ⟨m, hm1, hm2⟩ => ?_) fun n gone W4 U4 M4 hone hI5 w104 H104 => ?_
    ·rw [hid] at hm1 hm2
     rw [y4] at hm1
     rw [y3] at hm2
     rw [hm2] at hm1; cases hm1
    obtain ⟨k1, rfl, rfl⟩ := hO3.step htB hnd hx.1 hid hb hone hI5
    refine JOIN_in (CND_f rfl ?_)
    rw [show i64 ((t : Int) + 1) = ((t + 1 : Nat) : Int) by rw [i64_id (by omega) (by omega)]; rfl]
    have fin : ∃ t_1 : Nat, ∃ W U M, ((t + 1 : Nat) : Int) = (t_1 : Int) /\ t_1 <= Bs.length /\ OrdT W U M Bs mkf t_1 /\ Sat [SweepP E b h s r W, Row E.t_uint64 1 sl1 (ints .u64 Bs), Row E.t_uint64 1 sl2 (ints .u64 As), Old w3] w104 := ⟨t + 1, W4, U4, M4, rfl, by omega, k1, H104⟩
    cases mkf t
    ·exact CND_f rfl fun _ => CND_f rfl ⟨fin, by omega⟩
    ·exact CND_f rfl fun _ => CND_f rfl ⟨fin, by omega⟩
  ·obtain rfl : t = Bs.length := by omega
   have hall : ∀ x ∈ W3.L, x.swept = true := fun x hx => by
    obtain ⟨j, q1, _, _, q4⟩ := hO3.it x hx
    cases hs : x.swept with
    | true => rfl
    | false =>
     have := q4 hs
     have := (List.getElem?_eq_some_iff.1 q1).1
     omega
   refine swnext_spec hE H82 hO3.inv (fun _ w110 H110 => CND_t rfl ?_) fun x hx => ?_
   rotate_left
   ·have := hall x hx.1
    rw [hx.2.1] at this; cases this
   refine swsets_spec H110 ?_
   obtain ⟨R, HH, hz, hb⟩ := H110.swSets
   refine secount_spec HH fun w114 H114 => ?_
   have hc0 : cntS W3.L false = 0 := by
    show (W3.L.filter _).length = 0
    rw [List.length_eq_zero_iff, List.filter_eq_nil_iff]
    intro x hx
    rw [hall x hx]; simp
   rw [hc0]
   refine CND_t rfl (swheap_spec (hb H114) ?_)
   obtain ⟨R2, HH2, hz2, hb2⟩ := (hb H114).swHeap
   have hin : ∀ n, W3.S.sp n ≠ none ↔ n ∈ ((List.range Bs.length).filter mkf).map fun j : Nat => (j : Int) + 1 := fun n => by
    constructor
    ·intro hn
     obtain ⟨j, q1, q2, q3⟩ := hO3.no n hn
     refine List.mem_map.2 ⟨j, List.mem_filter.2 ⟨List.mem_range.2 q1, ?_⟩, q2.symm⟩
     rcases q3 with q3 | q3
     ·omega
     ·exact q3
    ·intro hn
     obtain ⟨j, q1, rfl⟩ := List.mem_map.1 hn
     obtain ⟨q2, q3⟩ := List.mem_filter.1 q1
     exact hO3.ex j (List.mem_range.1 q2) q3 (List.mem_range.1 q2)
   have hnd2 : (((List.range Bs.length).filter mkf).map fun j : Nat => (j : Int) + 1).Nodup := by
    exact List.Pairwise.map _ (fun a b (e : a ≠ b) => by show (a : Int) + 1 ≠ (b : Int) + 1; omega) (List.Pairwise.filter _ List.nodup_range)
   refine hspans_spec hH HH2 (fun l hnd hin2 => ?_) fun s117 l w118 hnd hall2 H118 => ?_
   ·have := rf_bnd Bs.length l hnd fun n hn => by
     obtain ⟨j, q1, q2, _⟩ := hO3.no n (hin2 n hn)
     omega
    omega
   have hp : l.Perm (((List.range Bs.length).filter mkf).map fun j : Nat => (j : Int) + 1) := (List.perm_ext_iff_of_nodup hnd hnd2).2 fun n => (hall2 n).trans (hin n)
   have hll := hp.length_eq
   rw [List.length_map, <- hM.ln] at hll
   have hsl := H118.rowLen
   rw [ints, List.length_map, Nat.mul_one] at hsl
   refine CND_t (by rw [show s117.len = sl2.len by omega]; simp) ?_
   exact haw 3 (hb2 H118.tail) rfl
end
end Go.Sh

namespace Go.Proofs.YtdnkgjeggfhfiaaGreatDoor.sweepOrder
open Go.ChangeShapes Go.WideShapes Go.ChangeAt Go.RowKit
set_option linter.unusedVariables false
set_option linter.unusedSimpArgs false
theorem own : ownKnob Tryz.prog.godebug = none := by kernel_rfl
theorem laidOut : laidOutB Tryz.prog = true := by kernel_rfl
theorem gTab : Tryz.prog.globalNamed "math/bits.deBruijn64tab" = some 0 := by kernel_rfl
theorem gTabType : (Tryz.prog.globals[0]?).map (·.type) = some 212 := by kernel_rfl
theorem und1 : Tryz.prog.underlying 212 = some (.array 64 5) := by kernel_rfl
theorem und2 : Tryz.prog.underlying 5 = some (.int .u8) := by kernel_rfl
theorem cells1 : Tryz.prog.cellsOf 212 = 64 := by kernel_rfl
theorem cells2 : Tryz.prog.cellsOf 5 = 1 := by kernel_rfl
theorem table {W : World} (h : laidMetH Tryz.prog Rows.sweepOrderRow.laid W) : Go.Sh.TabAt Go.Sh.env.g_math_bits_deBruijn64tab W := by
 have ht := Lib.tabIs_of_head (rest := []) (k := .u8) (zs := Lib.deBruijn64tab.map fun n : Nat => (n : Int)) gTab gTabType und1 und2 cells2 cells1 h
 intro i hi
 have := ht.cell gTab i (by rw [List.length_map]; exact hi)
 rw [show (Lib.deBruijn64tab.map fun n : Nat => (n : Int)).getD i 0 = ((Lib.deBruijn64tab.getD i 0 : Nat) : Int) by rw [List.getD_eq_getElem?_getD, List.getD_eq_getElem?_getD, List.getElem?_map]; cases Lib.deBruijn64tab[i]? <;> rfl] at this
 exact this
theorem walk (x : Go.Sh.ArgTs [.sl (.int .i64), .sl (.bool)]) (w : World) (h : Go.Sh.argOks w [.sl (.int .i64), .sl (.bool)] x) (hT : Go.Sh.TabAt Go.Sh.env.g_math_bits_deBruijn64tab w) :
  Calls Tryz.prog 8 ⟨Go.Sh.argVals [.sl (.int .i64), .sl (.bool)] x⟩ w fun e w' => e = .returned (.bool true) /\ Below w.heap.size w w' := by
 obtain ⟨a0, a1, u⟩ := x
 obtain ⟨w0, w1, _⟩ := h
 obtain ⟨z0, w0⟩ := w0
 obtain ⟨z1, w1⟩ := w1
 refine (Go.Sh.fits8 _ w (fun v w' => v = .bool true /\ Below w.heap.size w w') Go.Sh.noP ?_).2.mono ?_
 ·show Go.Sh.F.mallowlaw18_SweepOrder Go.Sh.env a0 a1 (fun r w' => Value.bool r = .bool true /\ Below w.heap.size w w') w
  exact Go.Sh.order_spec Go.Sh.envW Go.Sh.envH hT w0 w1 fun w' h => ⟨rfl, h.below (Nat.le_refl _) fun _ f => f.elim⟩
 ·intro e w' hE
  obtain ⟨v, rfl, rfl, h⟩ := hE.val
  exact ⟨rfl, h⟩
noncomputable def laidWorld (os : Os) : World :=
 { World.holding Tryz.prog os ⟨#[], #[], []⟩ with heap := (World.holding Tryz.prog os ⟨#[], #[], []⟩).heap.modify 0 fun
   | .cells _ t frozen => .cells ⟨Lib.deBruijn64tab.map fun n : Nat => .int .u8 (n : Int)⟩ t frozen
   | o => o }
theorem laid_met (os : Os) : laidMet Tryz.prog Rows.sweepOrderRow.laid ((laidWorld os).forCall (fun _ _ => 0) ⟨#[], #[.slice none 0 0, .slice none 0 0], []⟩).memory :=
 laidMet_of_run' 8 (by kernel_rfl) (by kernel_rfl)
theorem reads (os : Os) {H : Type} (enc : TypeId × Value -> H) : ∃ places, DataW.whole enc Tryz.prog ((laidWorld os).forCall (fun _ _ => 0) ⟨#[], #[.slice none 0 0, .slice none 0 0], []⟩).memory Tryz.f8.params.toList Rows.sweepOrderSpec.vars false (#[.slice none 0 0, .slice none 0 0] : Array Value).toList 8 = some ([.nil, .nil], [], places) :=
 ⟨[], by kernel_rfl⟩
set_option maxRecDepth 100000 in
theorem lifted (os : Os) (started : os.Started) (H : Type) (enc : TypeId × Value -> H) (F : Stop.Interp) :
  ReturnsInHanded {} Tryz.checked os 8 .any ((OpenSpec.ofChange Rows.sweepOrderSpec).preRow enc Tryz.prog Tryz.f8 Rows.sweepOrderRow.domain false Rows.sweepOrderRow.laid) (((OpenSpec.ofChange Rows.sweepOrderSpec).at F).post enc Tryz.prog Tryz.f8 false true false false) := by
 obtain ⟨places, hx⟩ := reads os enc
 refine returnsInHanded_of_row (C := Tryz.checked) (s := OpenSpec.ofChange Rows.sweepOrderSpec) own started (by kernel_rfl) Tryz.func8
  (witness_row_at (enc := enc) (C := Tryz.checked) false (laidWorld os) #[.slice none 0 0, .slice none 0 0] rfl (by kernel_rfl) (by kernel_rfl) (by kernel_rfl)
   (OpenSpec.preRow_of_cond 8 hx (by kernel_rfl) (fun k hk => by cases hk) (by kernel_rfl) (laid_met os))) ?_
 intro W base args ds gs before hval0 hW _ _ _ hL _ _
 have hW' := hW
 obtain ⟨p, q, hA, hV, rfl, hfz, hnd⟩ := hW
 obtain ⟨rfl, rfl⟩ := trodVars_none hV
 have hargs := Go.Sh.args_of (P := Tryz.prog) (shs := [.sl (.int .i64), .sl (.bool)]) (by kernel_rfl) (fun j t v ht hv => hval0 j t v (by simpa using ht) (by simpa using hv)) hA
 obtain ⟨x, hx, hok⟩ := Go.Sh.argVals_of hargs
 obtain rfl : args = ⟨Go.Sh.argVals [.sl (.int .i64), .sl (.bool)] x⟩ := Array.toList_inj.1 (by simpa using hx)
 have hlen := Go.Sh.trodAll_len hA
 obtain ⟨d0, d1, rfl⟩ : ∃ d0 d1, ds = [d0, d1] := by
  have hl : ds.length = 2 := hlen
  match ds, hl with
  | [d0, d1], _ => exact ⟨d0, d1, rfl⟩
 refine (walk x W hok (table hL)).mono fun e W' ⟨he, bel⟩ => ?_
 subst he
 exact ⟨_, rfl, _, _, _, [], _, [], hW', trodAll_mk1 (shut_bool Tryz.underlying4 _), Go.Sh.trodAll_below laidOut bel (by kernel_rfl) hA, rfl, bel.frame _, fun h => by cases h⟩
theorem said : Rows.SweepOrderSaid :=
 OpenClaim.holds_of_cond 8 Tryz.f8 rfl rfl rfl rfl rfl rfl rfl ⟨rfl, rfl, rfl, rfl, rfl⟩ rfl rfl rfl rfl rfl (by kernel_rfl) Tryz.func8 (by kernel_rfl)
  (of_decide_eq_true (by kernel_rfl)) (by unfold Func.isWrapper; first | (rw [if_pos (by decide +kernel)]; kernel_rfl) | (rw [if_neg (by decide +kernel)]; exact ⟨rfl, rfl⟩))
  (fun os started H enc _ F => by rw [OpenClaim.pre_eq_preRow]; exact lifted os started H enc F)
theorem plain (f : FuncId) (fn : Func) (hf : Tryz.pinned.checked.prog.funcNamed "mallow/mallowlaw18.SweepOrder" = some f) (hfn : Tryz.pinned.checked.prog.funcs[f]? = some fn) :
  true = Tryz.pinned.checked.prog.looks [] /\ ∀ (j : Nat) t, fn.params[j]? = some t -> Tryz.pinned.checked.prog.wantsStandIn t = false := by
 obtain rfl : f = 8 := Option.some.inj ((show Tryz.prog.funcNamed "mallow/mallowlaw18.SweepOrder" = some 8 by kernel_rfl).symm.trans hf) |>.symm
 obtain rfl : fn = Tryz.f8 := (Option.some.inj (Tryz.func8.symm.trans hfn)).symm
 refine ⟨by kernel_rfl, fun j t ht => ?_⟩
 have hall : (Tryz.f8.params.toList.all fun t => !(Tryz.prog.wantsStandIn t)) = true := by kernel_rfl
 have := List.all_eq_true.1 hall t (Array.mem_toList_iff.2 (Array.mem_of_getElem? ht))
 exact Bool.not_eq_true' _ ▸ this
theorem proved : Rows.SweepOrderCardSaid :=
 Claim7.holds_tied_plain_at .later [] _ _ _ _ said (fun _ h => by cases h) (by kernel_rfl) (fun _ h => by cases h) sweepOrder_row_tie rfl ⟨rfl, rfl⟩ (by kernel_rfl) rfl plain (by kernel_rfl)
#print axioms proved
end Go.Proofs.YtdnkgjeggfhfiaaGreatDoor.sweepOrder
