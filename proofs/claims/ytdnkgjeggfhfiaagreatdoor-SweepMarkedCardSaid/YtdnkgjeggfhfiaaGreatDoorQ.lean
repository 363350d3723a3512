/- The sweep's sets and marks do what they say. No further condition. -/
import Derived.Test.YtdnkgjeggfhfiaaGreatDoorA
import Derived.Test.YtdnkgjeggfhfiaaGreatDoorC
import Derived.Test.YtdnkgjeggfhfiaaGreatDoorS
import Derived.Test.YtdnkgjeggfhfiaaGreatDoorF
import Derived.Test.YtdnkgjeggfhfiaaGreatDoorL
import Derived.Test.YtdnkgjeggfhfiaaGreatDoorH
import Derived.Test.YtdnkgjeggfhfiaaGreatDoorB
import Derived.Test.YtdnkgjeggfhfiaaGreatDoorV
set_option linter.all false
set_option maxRecDepth 4000
set_option maxHeartbeats 1000000
namespace Go.Sh
theorem Sat.rowShrink {F : List Pr} {w : World} {t : Nat} {s : SlV} {vs us : List Value} (H : Sat (Row t 1 s (vs ++ us) :: F) w) : Sat (Row t 1 ⟨s.base, vs.length, s.cap⟩ vs :: F) w := by
 obtain ⟨D, h, hs⟩ := H.step
 have ho := h.2
 have hl : vs.length + us.length = s.len := by have := ho.len; rw [List.length_append] at this; simpa using this
 refine hs w D _ (Ext.refl _ _) ⟨h.1, ⟨by simp, by have := ho.cap; simp only; omega, ho.top, ?_⟩⟩ fun _ hk => .inl hk
 rcases ho.row with ⟨h1, h2⟩ | ⟨b, cs, h1, h2, h3, h4, h5⟩
 ·exact .inl ⟨h1, h2⟩
 ·refine .inr ⟨b, cs, h1, h2, h3, h4, ?_⟩
  have h6 : ((cs.toList.take (s.len * 1)).take (vs.length * 1)) = vs := by
   rw [h5, List.take_left' (by omega)]
  rw [List.take_take, show min (vs.length * 1) (s.len * 1) = vs.length * 1 by omega] at h6
  exact h6
theorem CPY_up {F : List Pr} {w : World} {t : Nat} {s : SlV} {vs : List Value} {v : Value} (H : Sat (Row t 1 s (vs ++ [v]) :: F) w) (ho : ∀ u ∈ vs, u.oneCell' = true) {i : Nat} (hi : i <= vs.length) {K : Nat -> World -> Prop}
  (hK : ∀ n w' u, Sat (Row t 1 s (vs.take i ++ u :: vs.drop i) :: F) w' -> K n w') :
  CPY 1 ⟨slB s.base s.cap (i + 1) 1, s.len - (i + 1), s.cap - (i + 1)⟩ ⟨slB s.base s.cap i 1, s.len - i, s.cap - i⟩ w K := by
 have hl := H.rowLen
 simp at hl
 have hcap := H.own.cap
 have hmin : Nat.min (s.len - i) (s.len - (i + 1)) = vs.length - i := by
  rw [<- hl, show Nat.min (vs.length + 1 - i) (vs.length + 1 - (i + 1)) = min (vs.length + 1 - i) (vs.length + 1 - (i + 1)) from rfl]; omega
 obtain ⟨b, hb⟩ := H.own.base_of (by omega)
 have h1 := rowAt_drop (z := 1) H.rowAll rfl (k := i) (by omega) hcap H.rowLen
 have hd : (vs ++ [v]).drop (i * 1) = vs.drop i ++ [v] := by rw [Nat.mul_one, List.drop_append_of_le_length hi]
 rw [hd] at h1
 have h2 := rowAt_take h1 (m := vs.length - i) (by omega) (by simp; omega)
 rw [List.take_left' (by simp)] at h2
 unfold CPY
 simp only [hmin]
 refine ⟨vs.drop i, by simpa using h2, ?_⟩
 have hbase : slB s.base s.cap (i + 1) 1 = some (if s.cap = i + 1 then (Addr.mk b 0 none) else (Addr.mk b 0 none).add (i + 1)) := by
  rw [hb]; unfold slB
  split <;> simp
 rw [hbase]
 simp only
 by_cases hc : s.cap = i + 1
 ·have : vs.drop i = [] := List.drop_eq_nil_iff.2 (by omega)
  rw [if_pos hc, this]
  refine hK _ w v ?_
  have e : vs.take i = vs := List.take_of_length_le (by omega)
  rw [this, e]; exact H
 ·rw [if_neg hc]
  obtain ⟨u, hu⟩ : ∃ u, (vs ++ [v])[i]? = some u := ⟨_, List.getElem?_eq_getElem (by simp; omega)⟩
  refine st_rows (vs.drop i) (i + 1) 0 H (by simp; omega) (fun x hx => ho x (List.mem_of_mem_drop hx)) hb fun w' H' => hK _ w' u ?_
  have e1 : (vs ++ [v]).take (i + 1 + 0) = vs.take i ++ [u] := by
   rw [Nat.add_zero, List.take_succ, hu, List.take_append_of_le_length hi]; rfl
  have e2 : (vs ++ [v]).drop (i + 1 + 0 + (vs.drop i).length) = [] := List.drop_eq_nil_iff.2 (by simp; omega)
  rw [e1, e2] at H'
  simpa using H'
theorem APP_cut {F : List Pr} {w : World} {t bytes : Nat} {s : SlV} {vs : List Value} {zs : Array Value} (H : Sat (Row t 1 s vs :: F) w) (ho : ∀ u ∈ vs, u.oneCell' = true) {i : Nat} (hi : i < vs.length) {K : SlV -> World -> Prop}
  (hK : ∀ s' w', Sat (Row t 1 s' (vs.eraseIdx i) :: F) w' -> K s' w') :
  APP t 1 bytes zs ⟨slB s.base s.cap 0 1, i, s.cap⟩ ⟨slB s.base s.cap (i + 1) 1, s.len - (i + 1), s.cap - (i + 1)⟩ w K := by
 have hl := H.rowLen
 simp at hl
 have hcap := H.own.cap
 obtain ⟨b, hb⟩ := H.own.base_of (by omega)
 have h1 := rowAt_drop (z := 1) H.rowAll rfl (k := i + 1) (by omega) hcap H.rowLen
 rw [slB_zero]
 refine ⟨vs.drop (i + 1), by simpa using h1, fun _ => ?_, fun g => ?_⟩
 ·rw [hb]
  simp only
  rw [show i * 1 = i by omega]
  refine st_rows (vs.drop (i + 1)) i 0 H (by simp; omega) (fun x hx => ho x (List.mem_of_mem_drop hx)) hb fun w' H' => ?_
  rw [show i + (s.len - (i + 1)) = (vs.eraseIdx i).length by rw [List.length_eraseIdx_of_lt hi]; omega, <- hb]
  refine hK _ w' (Sat.rowShrink (us := vs.drop (i + 0 + (vs.drop (i + 1)).length)) ?_)
  rw [List.eraseIdx_eq_take_drop_succ]
  simpa using H'
 ·simp only at g; omega
end Go.Sh

set_option linter.all false
set_option maxRecDepth 4000
set_option maxHeartbeats 1000000
namespace Go.Sh
structure Itm where
 blk : Nat
 id : Int
 base : Int
 kd : Kd
abbrev Itm.swept (x : Itm) : Bool := x.kd.2.2.2
def iptr (x : Itm) : Value := .pointer (some ⟨x.blk, 0, none⟩)
def itcells (x : Itm) : List Value := [.int .i64 x.id, .int .u64 x.base, .int .i64 x.kd.1, .bool x.kd.2.1, .bool x.kd.2.2.1, .bool x.kd.2.2.2]
def itR (E : Env) (x : Itm) : Pr := Cells x.blk E.t_sets_item (itcells x)
def keyM (f : Itm -> Int) (L : List Itm) : Int -> Option Value := fun i => (L.find? fun x => f x == i).map iptr
def ofK (L : List Itm) (k : Kd) : List Itm := L.filter fun x => decide (x.kd = k)
def insB (L : List Itm) (x : Itm) : List Itm := L.take (pos (·.base) L x.base) ++ x :: L.drop (pos (·.base) L x.base)
def remB (L : List Itm) (id : Int) : List Itm := L.filter fun x => decide (x.id ≠ id)
theorem Srt.ext {α : Type} {key : α -> Int} : ∀ {A B : List α}, Srt key A -> Srt key B -> (∀ x, x ∈ A ↔ x ∈ B) -> A = B
 | [], [], _, _, _ => rfl
 | [], b :: s, _, _, h => by have := (h b).2 List.mem_cons_self; cases this
 | a :: r, [], _, _, h => by have := (h a).1 List.mem_cons_self; cases this
 | a :: r, b :: s, hA, hB, h => by
  have hA' := List.pairwise_cons.1 hA
  have hB' := List.pairwise_cons.1 hB
  have e : a = b := by
   rcases List.mem_cons.1 ((h a).1 List.mem_cons_self) with e | h1
   ·exact e
   ·rcases List.mem_cons.1 ((h b).2 List.mem_cons_self) with e | h2
    ·exact e.symm
    ·have := hB'.1 a h1; have := hA'.1 b h2; omega
  subst e
  rw [Srt.ext hA'.2 hB'.2 fun x => ?_]
  constructor
  ·intro hx
   rcases List.mem_cons.1 ((h x).1 (List.mem_cons_of_mem _ hx)) with e | h1
   ·subst e; have := hA'.1 x hx; omega
   ·exact h1
  ·intro hx
   rcases List.mem_cons.1 ((h x).2 (List.mem_cons_of_mem _ hx)) with e | h1
   ·subst e; have := hB'.1 x hx; omega
   ·exact h1
theorem insB_perm (L : List Itm) (x : Itm) : (insB L x).Perm (x :: L) := by
 unfold insB
 exact List.perm_middle.trans (by rw [List.take_append_drop])
theorem mem_insB {L : List Itm} {x y : Itm} : y ∈ insB L x ↔ y = x ∨ y ∈ L := by rw [(insB_perm L x).mem_iff, List.mem_cons]
theorem insB_srt {L : List Itm} {x : Itm} (hs : Srt (·.base) L) (hx : ∀ y ∈ L, y.base ≠ x.base) : Srt (·.base) (insB L x) := by
 unfold insB
 have := Srt.mid (L := L.take (pos (·.base) L x.base)) (M := [x]) (N := L.drop (pos (·.base) L x.base)) (hs.take _) (by simp [Srt]) (hs.drop _) (a := x.base) (b := x.base + 1) (by omega) (fun c hc => (mem_take_pos hc).2) (fun c hc => by simp at hc; subst hc; omega) fun c hc => by
  have h1 := mem_drop_pos hs hc
  have := hx c h1.1
  have := h1.2
  omega
 simpa using this
theorem mem_remB {L : List Itm} {id : Int} {y : Itm} : y ∈ remB L id ↔ y ∈ L /\ y.id ≠ id := by simp [remB]
theorem mem_ofK {L : List Itm} {k : Kd} {y : Itm} : y ∈ ofK L k ↔ y ∈ L /\ y.kd = k := by simp [ofK]
theorem ofK_srt {L : List Itm} (hs : Srt (·.base) L) (k : Kd) : Srt (·.base) (ofK L k) := hs.filter _
theorem remB_srt {L : List Itm} (hs : Srt (·.base) L) (id : Int) : Srt (·.base) (remB L id) := hs.filter _
theorem ofK_ins_ne {L : List Itm} {x : Itm} {k : Kd} (hs : Srt (·.base) L) (hx : ∀ y ∈ L, y.base ≠ x.base) (h : x.kd ≠ k) : ofK (insB L x) k = ofK L k :=
 Srt.ext (ofK_srt (insB_srt hs hx) k) (ofK_srt hs k) fun y => by
  rw [mem_ofK, mem_ofK, mem_insB]
  constructor
  ·rintro ⟨rfl | h1, h2⟩
   ·exact absurd h2 h
   ·exact ⟨h1, h2⟩
  ·rintro ⟨h1, h2⟩; exact ⟨.inr h1, h2⟩
theorem ofK_ins {L : List Itm} {x : Itm} (hs : Srt (·.base) L) (hx : ∀ y ∈ L, y.base ≠ x.base) : ofK (insB L x) x.kd = insB (ofK L x.kd) x :=
 Srt.ext (ofK_srt (insB_srt hs hx) _) (insB_srt (ofK_srt hs _) fun y hy => hx y (mem_ofK.1 hy).1) fun y => by
  rw [mem_ofK, mem_insB, mem_insB, mem_ofK]
  constructor
  ·rintro ⟨rfl | h1, h2⟩
   ·exact .inl rfl
   ·exact .inr ⟨h1, h2⟩
  ·rintro (rfl | ⟨h1, h2⟩)
   ·exact ⟨.inl rfl, rfl⟩
   ·exact ⟨.inr h1, h2⟩
theorem nodup_of_map {α β : Type} {f : α -> β} : ∀ {L : List α}, (L.map f).Nodup -> L.Nodup
 | [], _ => .nil
 | x :: r, h => by
  rw [List.map_cons, List.nodup_cons] at h
  rw [List.nodup_cons]
  exact ⟨fun hx => h.1 (List.mem_map.2 ⟨x, hx, rfl⟩), nodup_of_map h.2⟩
theorem map_inj {α β : Type} {f : α -> β} : ∀ {L : List α}, (L.map f).Nodup -> ∀ {x y}, x ∈ L -> y ∈ L -> f x = f y -> x = y
 | [], _, x, y, hx, _, _ => by cases hx
 | a :: r, h, x, y, hx, hy, e => by
  rw [List.map_cons, List.nodup_cons] at h
  rcases List.mem_cons.1 hx with h1 | hx
  ·rcases List.mem_cons.1 hy with h2 | hy
   ·rw [h1, h2]
   ·exact absurd (List.mem_map.2 ⟨y, hy, by rw [<- e, h1]⟩) h.1
  ·rcases List.mem_cons.1 hy with h2 | hy
   ·exact absurd (List.mem_map.2 ⟨x, hx, by rw [e, h2]⟩) h.1
   ·exact map_inj h.2 hx hy e
theorem srt_nodup {α : Type} {key : α -> Int} {L : List α} (hs : Srt key L) : (L.map key).Nodup := List.Pairwise.map _ (fun a b h => by omega) hs
theorem keyM_none {f : Itm -> Int} {L : List Itm} {i : Int} : keyM f L i = none ↔ ∀ x ∈ L, f x ≠ i := by
 unfold keyM
 rw [Option.map_eq_none_iff, List.find?_eq_none]
 simp
theorem keyM_some {f : Itm -> Int} {L : List Itm} (hn : (L.map f).Nodup) {x : Itm} (hx : x ∈ L) : keyM f L (f x) = some (iptr x) := by
 unfold keyM
 cases h : L.find? fun y => f y == f x with
 | none =>
  rw [List.find?_eq_none] at h
  have := h x hx
  simp at this
 | some y =>
  have h1 := List.find?_some h
  have h2 := List.mem_of_find?_eq_some h
  rw [map_inj hn h2 hx (by simpa using h1)]; rfl
theorem keyM_get {f : Itm -> Int} {L : List Itm} {i : Int} {v : Value} (h : keyM f L i = some v) : ∃ x ∈ L, f x = i /\ v = iptr x := by
 unfold keyM at h
 rw [Option.map_eq_some_iff] at h
 obtain ⟨x, h1, rfl⟩ := h
 exact ⟨x, List.mem_of_find?_eq_some h1, by simpa using List.find?_some h1, rfl⟩
theorem keyM_perm {f : Itm -> Int} {L L' : List Itm} (hn : (L.map f).Nodup) (hp : L.Perm L') : keyM f L = keyM f L' := by
 funext i
 cases h : keyM f L' i with
 | none => rw [keyM_none] at h ⊢; exact fun x hx => h x (hp.mem_iff.1 hx)
 | some v =>
  obtain ⟨x, hx, rfl, rfl⟩ := keyM_get h
  exact keyM_some hn (hp.mem_iff.2 hx)
theorem keyM_cons {f : Itm -> Int} {L : List Itm} {x : Itm} : keyM f (x :: L) = fun i => if i = f x then some (iptr x) else keyM f L i := by
 funext i
 unfold keyM
 rw [List.find?_cons]
 by_cases e : f x = i
 ·rw [if_pos e.symm, show (f x == i) = true by simp [e]]; rfl
 ·rw [if_neg (Ne.symm e), show (f x == i) = false by simp [e]]
theorem keyM_ins {f : Itm -> Int} {L : List Itm} {x : Itm} (hn : (L.map f).Nodup) (hx : ∀ y ∈ L, f y ≠ f x) : keyM f (insB L x) = fun i => if i = f x then some (iptr x) else keyM f L i := by
 rw [<- keyM_cons]
 refine keyM_perm ?_ (insB_perm L x)
 rw [((insB_perm L x).map f).nodup_iff, List.map_cons, List.nodup_cons]
 refine ⟨fun h => ?_, hn⟩
 obtain ⟨y, h1, h2⟩ := List.mem_map.1 h
 exact hx y h1 h2
theorem remB_at : ∀ {L : List Itm} (hn : (L.map (·.id)).Nodup) {j : Nat} {x : Itm}, L[j]? = some x -> remB L x.id = L.eraseIdx j
 | a :: r, hn, 0, x, h => by
  have h : a = x := Option.some.inj h
  subst h
  rw [List.map_cons, List.nodup_cons] at hn
  unfold remB
  rw [List.filter_cons, if_neg (by simp), List.eraseIdx_cons_zero]
  exact List.filter_eq_self.2 fun y hy => by
   have : y.id ≠ a.id := fun e => hn.1 (List.mem_map.2 ⟨y, hy, e⟩)
   simpa using this
 | a :: r, hn, j + 1, x, h => by
  rw [List.map_cons, List.nodup_cons] at hn
  have h : r[j]? = some x := by simpa using h
  have hx := List.mem_of_getElem? h
  have ne : a.id ≠ x.id := fun e => hn.1 (List.mem_map.2 ⟨x, hx, e.symm⟩)
  have ih := remB_at hn.2 h
  unfold remB at ih ⊢
  rw [List.filter_cons, if_pos (by simpa using ne), List.eraseIdx_cons_succ, ih]
theorem remB_perm {L : List Itm} (hn : (L.map (·.id)).Nodup) {x : Itm} (hx : x ∈ L) : L.Perm (x :: remB L x.id) := by
 obtain ⟨j, hj⟩ := List.mem_iff_getElem?.1 hx
 rw [remB_at hn hj]
 exact perm_front hj
theorem keyM_rem {f : Itm -> Int} {L : List Itm} {x : Itm} (hi : (L.map (·.id)).Nodup) (hn : (L.map f).Nodup) (hx : x ∈ L) : keyM f (remB L x.id) = fun i => if i = f x then none else keyM f L i := by
 have hp := remB_perm hi hx
 rw [keyM_perm hn hp, keyM_cons]
 funext i
 by_cases e : i = f x
 ·rw [if_pos e, keyM_none]
  intro y hy e2
  have h1 := mem_remB.1 hy
  exact h1.2 (by rw [map_inj hn h1.1 hx (e2.trans e)])
 ·simp only [if_neg e]
structure SeInv (L : List Itm) : Prop where
 srt : Srt (·.base) L
 nd : (L.map (·.id)).Nodup
 few : L.length <= 1099511627776
structure SeG where
 bi : Nat
 bb : Nat
 bm : Nat
 kinds : List Kd
 sl : Kd -> SlV
def kdM (ks : List Kd) (sl : Kd -> SlV) : Kd -> Option Value := fun k => if k ∈ ks then some (slV (sl k)) else none
def kdR (E : Env) (sl : Kd -> SlV) (L : List Itm) (k : Kd) : Pr := Row E.t__sets_item 1 (sl k) ((ofK L k).map iptr)
def secells (g : SeG) : List Value := [.map (some g.bi), .map (some g.bb), .map (some g.bm)]
def seres (E : Env) (b : Nat) (L : List Itm) (g : SeG) : List Pr :=
 [Cells b E.t_sets_Sets (secells g), MapF g.bi .i64 (keyM (·.id) L), MapF g.bb .u64 (keyM (·.base) L), MapK g.bm (kdM g.kinds g.sl), Many (kdR E g.sl L) g.kinds, Many (itR E) L]
structure SeIn (L : List Itm) (g : SeG) : Prop where
 inv : SeInv L
 kn : g.kinds.Nodup
 ks : ∀ x ∈ L, x.kd ∈ g.kinds
def SetsP (E : Env) (b : Nat) (L : List Itm) : Pr := Ex fun g : SeG => Where (SeIn L g) (Star (seres E b L g))
section
variable {E : Env} {w : World} {Z : List Pr} {b : Nat} {L : List Itm} {g : SeG}
theorem Sat.sets : Sat (SetsP E b L :: Z) w ↔ ∃ g, SeIn L g /\ Sat (seres E b L g ++ Z) w := by
 unfold SetsP
 rw [Sat.ex]
 constructor
 ·rintro ⟨g, h⟩
  rw [Sat.where, Sat.star] at h
  exact ⟨g, h.1, h.2⟩
 ·rintro ⟨g, h1, h2⟩
  refine ⟨g, ?_⟩
  rw [Sat.where, Sat.star]
  exact ⟨h1, h2⟩
theorem senew_spec (H : Sat Z w) {K : Option Addr -> World -> Prop} (hK : ∀ b w', Sat (SetsP E b [] :: Z) w' -> K (some ⟨b, 0, none⟩) w') : F.sets_New E K w := by
 unfold F.sets_New
 refine AL_map H .i64 fun b1 w2 H2 _ => AL_map H2 .u64 fun b3 w4 H4 _ => AL_mapA H4 fun b5 w6 H6 _ => ?_
 refine AL_cells (vs := [.map (some b1), .map (some b3), .map (some b5)]) H6 fun b7 w8 H8 _ => hK b7 w8 (Sat.sets.2 ⟨⟨b1, b3, b5, [], fun _ => ⟨none, 0, 0⟩⟩, ⟨⟨.nil, .nil, by decide⟩, .nil, fun _ h => (by cases h)⟩, ?_⟩)
 have h2 := ((H8.manyNil (kdR E (fun _ => ⟨none, 0, 0⟩) [])).front 0 rfl).manyNil (itR E)
 exact ((((h2.front 1 rfl).front 3 rfl).front 4 rfl).front 5 rfl).front 5 rfl
end
structure EnvW (E : Env) : Prop extends EnvA E where
 place1 : ∀ i p1 p2 (R : Value -> World -> Prop) w, F.sets_Sets_place_1 E i p1 p2 (fun r w' => R (.bool r) w') w -> E.call E.f_sets_Sets_place_1 #[.int .i64 i, .pointer p1, .pointer p2] w R noP
section
variable {E : Env} (hE : EnvW E) {w : World}
include hE
theorem seplace_spec {p : Addr} {bm : Nat} {k : Kd} {a : Int} {s : SlV} {l : List Itm} {G : Kd -> Option Value} {Z : List Pr} (hc : w.cell? (p.add 2) = some (.map (some bm))) (H : Sat (MapK bm G :: Z) w) (hg : (G k).getD (.slice none 0 0) = slV s)
  (hr : rowAt w s.base s.len (l.map iptr)) (hl : l.length = s.len) (hl2 : s.len < 4611686018427387904) (hi : ∀ x ∈ l, w.cell? ⟨x.blk, 1, none⟩ = some (.int .u64 x.base)) (hs : Srt (·.base) l) {K : Int -> World -> Prop}
  (hK : ∀ w', Ext Nothing w w' -> K ((pos (·.base) l a : Nat) : Int) w') : F.sets_Sets_place E (some p) k.1 k.2.1 k.2.2.1 k.2.2.2 a K w := by
 unfold F.sets_Sets_place T0.sets_Sets_place
 refine AL_cells (vs := kdv k) (Sat.start w) fun b1 w2 H2 e2 => AL_cells (vs := [.int .u64 a]) H2 fun b3 w4 H4 e4 => ?_
 simp only [NC_some]
 have H5 := H4.drew
 have e5 := H5.old 2 rfl
 have c5 := H5.front 1 rfl
 refine ⟨some bm, e5.cell hc (fun f => f), k.1, c5.cell rfl, k.2.1, c5.cell rfl, k.2.2.1, c5.cell rfl, k.2.2.2, c5.cell rfl, ?_⟩
 refine LKA_sl (n := k) (H.nothing e5) fun es hes => ⟨s, hg, ?_⟩
 refine AL_cells (vs := [.slice none 0 0]) H5 fun b15 w16 H16 e16 => ?_
 have e17 := H16.old 3 rfl
 have c16 := H16.front 2 rfl
 obtain ⟨c, hes⟩ := hes
 refine ⟨⟨c, e16.obj hes (fun f => f)⟩, ⟨c16.cell rfl, c16.cell rfl, c16.cell rfl, c16.cell rfl, trivial⟩, e17.cell hc (fun f => f), ?_⟩
 refine st_all (news := [slV s]) H16 rfl (by simp [slV, Value.oneCell']) fun w17 H17 => ?_
 refine ⟨s, H17.cell0 rfl, ?_⟩
 have e18 := H17.old 3 rfl
 have hp := pos_le (key := fun x : Itm => x.base) l a
 refine search_spec (fun i => match l[i.toNat]? with | some x => decide (x.base ≥ a) | none => true) (by omega) (by omega) ?_ (pos (fun x : Itm => x.base) l a : Nat) (by omega) (by omega) ?_ ?_ fun w' hw' => hK w' (e18.trans' hw')
 ·intro i w' hi0 hin hw' K' hK'
  have hlt : i.toNat < l.length := by omega
  have hg := List.getElem?_eq_getElem hlt
  simp only [hg] at hK'
  have H18 := (H17.nothing hw').drew
  refine hE.place1 i (some ⟨b15, 0, none⟩) (some ⟨b3, 0, none⟩) K' w' ?_
  unfold F.sets_Sets_place_1
  simp only [NC_some]
  refine ⟨s, H18.cell0 rfl, ?_⟩
  have e19 := H18.old 3 rfl
  have hr' : rowAt w'.drew s.base s.len (l.map iptr) := rowAt_ext hr e19 fun _ _ _ f => f
  cases hb : s.base with
  | none => rw [hb] at hr'; have : l.map iptr = [] := hr'; simp at this; subst this; simp at hlt
  | some q =>
   rw [hb] at hr'
   simp only [NC_some]
   refine ⟨⟨hi0, by omega⟩, some ⟨l[i.toNat].blk, 0, none⟩, by rw [Nat.mul_one]; exact hr'.2 _ _ (by rw [List.getElem?_map, hg]; rfl), ?_⟩
   simp only [NC_some]
   refine ⟨l[i.toNat].base, ?_, a, (H18.front 1 rfl).cell0 rfl, ?_⟩
   ·rw [add_eq]; exact e19.cell (hi _ (List.getElem_mem hlt)) fun f => f
   ·exact hK' _ (hw'.trans' (Ext.drew _ _))
 ·intro i hi0 hi
  have hlt : i.toNat < l.length := by omega
  have hg := List.getElem?_eq_getElem hlt
  simp only [hg]
  have := pos_before (key := fun x : Itm => x.base) hg (n := a) (by omega)
  exact decide_eq_false (by omega)
 ·intro i hi0 hi
  have hlt : i.toNat < l.length := by omega
  have hg := List.getElem?_eq_getElem hlt
  simp only [hg]
  have := pos_after hs hg (n := a) (by omega)
  exact decide_eq_true (by omega)
end
end Go.Sh

set_option linter.all false
set_option maxRecDepth 4000
set_option maxHeartbeats 2000000
namespace Go.Sh
def slO (g : SeG) (k : Kd) : SlV := if k ∈ g.kinds then g.sl k else ⟨none, 0, 0⟩
theorem kdM_look (g : SeG) (k : Kd) : (kdM g.kinds g.sl k).getD (.slice none 0 0) = slV (slO g k) := by
 unfold kdM slO
 split <;> rfl
theorem ofK_none {L : List Itm} {k : Kd} (h : ∀ x ∈ L, x.kd ≠ k) : ofK L k = [] := by
 unfold ofK
 rw [List.filter_eq_nil_iff]
 intro x hx
 simpa using h x hx
theorem ofK_len (L : List Itm) (k : Kd) : (ofK L k).length <= L.length := List.length_filter_le _ _
theorem iptr_one (l : List Itm) : ∀ v ∈ l.map iptr, v.oneCell' = true := by
 intro v hv
 obtain ⟨x, _, rfl⟩ := List.mem_map.1 hv
 rfl
section
variable {E : Env} {w : World} {Z : List Pr} {b : Nat} {L : List Itm} {g : SeG}
theorem secell {Y : List Pr} (H : Sat (Cells b E.t_sets_Sets (secells g) :: Y) w) : w.cell? (Addr.mk b 0 none) = some (.map (some g.bi)) /\ w.cell? ((Addr.mk b 0 none).add 1) = some (.map (some g.bb)) /\ w.cell? ((Addr.mk b 0 none).add 2) = some (.map (some g.bm)) :=
 ⟨H.cell0 rfl, H.cell rfl, H.cell rfl⟩
theorem itcell {Y : List Pr} (H : Sat (Many (itR E) L :: Y) w) {x : Itm} (hx : x ∈ L) {j : Nat} {v : Value} (hv : (itcells x)[j]? = some v) : w.cell? ((Addr.mk x.blk 0 none).add j) = some v := by
 obtain ⟨i, hi⟩ := List.mem_iff_getElem?.1 hx
 exact (H.manyGet hi).cell (by rw [Nat.zero_add]; exact hv)
theorem Sat.seRow (hI : SeIn L g) (H : Sat (seres E b L g ++ Z) w) (k : Kd) :
  Sat (Row E.t__sets_item 1 (slO g k) ((ofK L k).map iptr) :: Many (kdR E g.sl L) (g.kinds.erase k) :: Cells b E.t_sets_Sets (secells g) :: MapF g.bi .i64 (keyM (·.id) L) :: MapF g.bb .u64 (keyM (·.base) L) :: MapK g.bm (kdM g.kinds g.sl) :: Many (itR E) L :: Z) w := by
 by_cases hk : k ∈ g.kinds
 ·have H1 := (H.front 4 rfl).manyPerm (List.perm_cons_erase hk)
  have H2 := Sat.manyCons.1 H1
  have e : kdR E g.sl L k = Row E.t__sets_item 1 (slO g k) ((ofK L k).map iptr) := by unfold kdR slO; rw [if_pos hk]
  rw [e] at H2
  exact H2
 ·have e : slO g k = ⟨none, 0, 0⟩ := by unfold slO; rw [if_neg hk]
  rw [e, ofK_none (k := k) fun x hx h => hk (by rw [<- h]; exact hI.ks x hx), List.erase_of_not_mem hk]
  exact (H.front 4 rfl).nil E.t__sets_item 1
theorem Sat.seBack {L' : List Itm} {s : SlV} {k : Kd} (hI : SeIn L g) (hV : SeInv L') (hne : ∀ j, j ≠ k -> ofK L' j = ofK L j) (hks : ∀ x ∈ L', x.kd = k ∨ x.kd ∈ g.kinds)
  (H : Sat (Row E.t__sets_item 1 s ((ofK L' k).map iptr) :: Many (kdR E g.sl L) (g.kinds.erase k) :: Cells b E.t_sets_Sets (secells g) :: MapF g.bi .i64 (keyM (·.id) L') :: MapF g.bb .u64 (keyM (·.base) L') :: MapK g.bm (fun i => if i = k then some (slV s) else kdM g.kinds g.sl i) :: Many (itR E) L' :: Z) w) :
  Sat (SetsP E b L' :: Z) w := by
 have hnk : k ∉ g.kinds.erase k := fun h => ((hI.kn.mem_erase_iff).1 h).1 rfl
 refine Sat.sets.2 ⟨{ g with kinds := k :: g.kinds.erase k, sl := fun j => if j = k then s else g.sl j }, ⟨hV, List.nodup_cons.2 ⟨hnk, hI.kn.erase k⟩, fun x hx => ?_⟩, ?_⟩
 ·rcases hks x hx with e | h
  ·rw [e]; exact List.mem_cons_self
  ·by_cases e : x.kd = k
   ·rw [e]; exact List.mem_cons_self
   ·exact List.mem_cons_of_mem _ ((hI.kn.mem_erase_iff).2 ⟨e, h⟩)
 ·have e1 : (fun i => if i = k then some (slV s) else kdM g.kinds g.sl i) = kdM (k :: g.kinds.erase k) (fun j => if j = k then s else g.sl j) := by
   funext i
   unfold kdM
   by_cases e : i = k
   ·subst e; simp
   ·simp only [List.mem_cons, e, false_or, hI.kn.mem_erase_iff, ne_eq, not_false_eq_true, true_and, if_false]
  have e2 : Many (kdR E g.sl L) (g.kinds.erase k) = Many (kdR E (fun j => if j = k then s else g.sl j) L') (g.kinds.erase k) := Many.congr fun j hj => by
   have : j ≠ k := fun e => hnk (e ▸ hj)
   unfold kdR
   simp only [if_neg this, hne j this]
  have e3 : Row E.t__sets_item 1 s ((ofK L' k).map iptr) = kdR E (fun j => if j = k then s else g.sl j) L' k := by unfold kdR; simp only [if_true]
  rw [e1, e2, e3] at H
  have h2 := Sat.manyCons.2 H
  exact (((h2.front 4 rfl).front 4 rfl).front 4 rfl).front 4 rfl |>.perm (by
   refine List.Perm.refl _)
theorem insB_inv {x : Itm} (h : SeInv L) (h1 : ∀ y ∈ L, y.id ≠ x.id /\ y.base ≠ x.base) (h2 : L.length < 1099511627776) : SeInv (insB L x) := by
 refine ⟨insB_srt h.srt fun y hy => (h1 y hy).2, ?_, ?_⟩
 ·rw [((insB_perm L x).map _).nodup_iff, List.map_cons, List.nodup_cons]
  refine ⟨fun hm => ?_, h.nd⟩
  obtain ⟨y, g1, g2⟩ := List.mem_map.1 hm
  exact (h1 y g1).1 g2
 ·rw [(insB_perm L x).length_eq, List.length_cons]; omega
theorem remB_inv (h : SeInv L) (id : Int) : SeInv (remB L id) :=
 ⟨remB_srt h.srt id, List.Nodup.sublist (List.filter_sublist.map _) h.nd, Nat.le_trans (List.length_filter_le _ _) h.few⟩
def seBad (id c : Int) : Prop := id < 1 ∨ c < 0 ∨ 68 <= c
variable (hE : EnvW E)
include hE
theorem seput_spec (H : Sat (SetsP E b L :: Z) w) {id base c : Int} {np full sw : Bool} (hf : L.length < 1099511627776) {K : Int -> World -> Prop}
  (hk1 : seBad id c -> K 1 w) (hk2 : ¬ seBad id c -> (∃ x ∈ L, x.id = id ∨ x.base = base) -> K 34 w)
  (hk0 : ¬ seBad id c -> (∀ x ∈ L, x.id ≠ id /\ x.base ≠ base) -> ∀ blk w', Sat (SetsP E b (insB L ⟨blk, id, base, (c, np, full, sw)⟩) :: Z) w' -> K 0 w') :
  F.sets_Sets_Put E (some ⟨b, 0, none⟩) id base c np full sw K w := by
 obtain ⟨g, hI, H⟩ := Sat.sets.1 H
 unfold F.sets_Sets_Put T0.sets_Sets_Put
 simp only [NC_some, add_add]
 refine JOIN_in (CND_dec (fun h j => CND_t rfl (hk1 (.inl h))) fun n1 => CND_dec (fun h j => CND_t rfl (hk1 (.inr (.inl h)))) fun n2 j => CND_dec (fun h => hk1 (.inr (.inr h))) fun n3 => ?_)
 have nb : ¬ seBad id c := fun h => by rcases h with h | h | h <;> omega
 have hc := secell H
 refine JOIN_in ⟨_, hc.1, LKP_sl (H.front 1 rfl) fun es _ => ?_⟩
 cases e1 : keyM (·.id) L id with
 | some v =>
  obtain ⟨x, hx, h1, rfl⟩ := keyM_get e1
  exact ⟨some ⟨x.blk, 0, none⟩, rfl, CND_t rfl fun j => CND_t rfl (hk2 nb ⟨x, hx, .inl h1⟩)⟩
 | none =>
 refine ⟨none, rfl, CND_f rfl ⟨_, hc.2.1, LKP_sl (H.front 2 rfl) fun es _ => ?_⟩⟩
 cases e2 : keyM (·.base) L base with
 | some v =>
  obtain ⟨x, hx, h1, rfl⟩ := keyM_get e2
  exact ⟨some ⟨x.blk, 0, none⟩, rfl, fun j => CND_t rfl (hk2 nb ⟨x, hx, .inr h1⟩)⟩
 | none =>
 refine ⟨none, rfl, fun j => CND_f rfl ?_⟩
 have hno : ∀ x ∈ L, x.id ≠ id /\ x.base ≠ base := fun x hx => ⟨keyM_none.1 e1 x hx, keyM_none.1 e2 x hx⟩
 have H0 := H.seRow hI (c, np, full, sw)
 refine AL_cells (vs := [.int .i64 id, .int .u64 base, .int .i64 c, .bool np, .bool full, .bool sw]) H0 fun b19 w20 H20 _ => ?_
 have H21 := H20.drew
 have c21 := secell (H21.front 3 rfl)
 refine ⟨_, c21.1, _, c21.2.1, ?_⟩
 refine MENT_sl (H21.front 4 rfl) fun w28 H28 => ?_
 have H28' := Sat.back (Ps := _ :: _ :: _ :: _ :: _ :: _ :: _ :: _ :: Z) 4 H28
 refine MENT_sl (H28'.front 5 rfl) fun w32 H32 => ?_
 have H33 := Sat.back (Ps := _ :: _ :: _ :: _ :: _ :: _ :: _ :: _ :: Z) 5 H32
 simp only [List.set_cons_succ, List.set_cons_zero] at H33
 clear H28 H28' H32
 obtain ⟨x, hx⟩ : ∃ x : Itm, x = ⟨b19, id, base, (c, np, full, sw)⟩ := ⟨_, rfl⟩
 have hk : x.kd = (c, np, full, sw) := by rw [hx]
 have m1 : (fun i => if i = id then some (Value.pointer (some (Addr.mk b19 0 none))) else keyM (·.id) L i) = keyM (·.id) (insB L x) := by
  rw [keyM_ins hI.inv.nd (by rw [hx]; exact fun y hy => (hno y hy).1), hx]; rfl
 have m2 : (fun i => if i = base then some (Value.pointer (some (Addr.mk b19 0 none))) else keyM (·.base) L i) = keyM (·.base) (insB L x) := by
  rw [keyM_ins (srt_nodup hI.inv.srt) (by rw [hx]; exact fun y hy => (hno y hy).2), hx]; rfl
 rw [m1, m2] at H33
 refine ⟨c, H33.cell rfl, np, H33.cell rfl, full, H33.cell rfl, sw, H33.cell rfl, ?_⟩
 have hlen : ∀ {w' : World} {Y : List Pr} {s : SlV}, Sat (Row E.t__sets_item 1 s ((ofK L (c, np, full, sw)).map iptr) :: Y) w' -> (ofK L (c, np, full, sw)).length = s.len := fun h => by simpa using h.rowLen
 have hl0 := hlen (H33.front 1 rfl)
 have hl1 := ofK_len L (c, np, full, sw)
 have hcap := (H33.front 1 rfl).own.cap
 refine seplace_spec (k := (c, np, full, sw)) hE (secell (H33.front 3 rfl)).2.2 (H33.front 6 rfl) (kdM_look _ _) (by simpa using (H33.front 1 rfl).rowAll) hl0 (by omega) (fun y hy => ?_) (ofK_srt hI.inv.srt _) fun w38 e38 => ?_
 ·have := itcell (H33.front 7 rfl) (mem_ofK.1 hy).1 (j := 1) rfl
  rwa [add_eq] at this
 have hp := pos_le (key := fun x : Itm => x.base) (ofK L (c, np, full, sw)) base
 generalize hpp : pos (fun x : Itm => x.base) (ofK L (c, np, full, sw)) base = i at *
 have H38 := (H33.nothing e38).drew
 have c38 := secell (H38.front 3 rfl)
 have d38 : ∀ {Y : List Pr} {w' : World}, Sat (Cells b19 E.t_sets_item [.int .i64 id, .int .u64 base, .int .i64 c, .bool np, .bool full, .bool sw] :: Y) w' -> w'.cell? ((Addr.mk b19 0 none).add (2 + 0)) = some (.int .i64 c) /\ w'.cell? ((Addr.mk b19 0 none).add (2 + 1)) = some (.bool np) /\ w'.cell? ((Addr.mk b19 0 none).add (2 + 2)) = some (.bool full) /\ w'.cell? ((Addr.mk b19 0 none).add (2 + 3)) = some (.bool sw) :=
  fun h => ⟨h.cell rfl, h.cell rfl, h.cell rfl, h.cell rfl⟩
 obtain ⟨d0, d1, d2, d3⟩ := d38 H38
 refine ⟨_, c38.2.2, c, d0, np, d1, full, d2, sw, d3, LKA_sl (n := (c, np, full, sw)) (H38.front 6 rfl) fun es hes => ⟨_, kdM_look _ _, ?_⟩⟩
 refine AL_cells (vs := [.pointer none]) H38 fun b49 w50 H50 e50 => ?_
 obtain ⟨cc, hes⟩ := hes
 obtain ⟨d0, d1, d2, d3⟩ := d38 (H50.front 1 rfl)
 refine ⟨⟨cc, e50.obj hes fun f => f⟩, ⟨d0, d1, d2, d3, trivial⟩, (secell (H50.front 4 rfl)).2.2, ?_⟩
 refine APP_one (H50.front2 1 rfl) rfl rfl (by simp [Value.oneCell']) (by omega) (by omega) fun s51 w52 H52 hl52 => ?_
 obtain ⟨d0, d1, d2, d3⟩ := d38 (H52.front 1 rfl)
 have H53 := H52.drew
 have hcap51 := H52.own.cap
 have htop51 := H52.own.top
 rw [show i64 ((i : Int) + 1) = ((i + 1 : Nat) : Int) by rw [i64_id (by omega) (by omega)]; rfl, Int.toNat_natCast, Int.toNat_natCast]
 refine ⟨⟨d0, d1, d2, d3, trivial⟩, (secell (H52.front 3 rfl)).2.2, ⟨by omega, by omega⟩, ⟨by omega, by omega⟩, ?_⟩
 refine CPY_up H53 (iptr_one _) (by simpa using hp) fun n54 w54 u H54 => ?_
 obtain ⟨bb, hbb⟩ := H54.own.base_of (by omega)
 rw [hbb]
 simp only [NC_some]
 refine ⟨⟨by omega, by omega⟩, ?_⟩
 rw [show i * 1 = i by omega]
 refine st_row H54 (j := i) rfl (by simp; omega) hbb fun w56 H56 => ?_
 have H57 := H56.drew
 have c57 := secell (H57.front 3 rfl)
 obtain ⟨d0, d1, d2, d3⟩ := d38 (H57.front 1 rfl)
 refine ⟨_, c57.2.2, c, d0, np, d1, full, d2, sw, d3, ?_⟩
 rw [<- hbb]
 refine MUPA_sl (n := (c, np, full, sw)) (H57.front 6 rfl) fun w63 H63 => ?_
 have H64 := Sat.back (Ps := _ :: _ :: _ :: _ :: _ :: _ :: _ :: _ :: Z) 6 H63
 simp only [List.set_cons_succ, List.set_cons_zero] at H64
 refine hk0 nb hno b19 w63 ?_
 rw [<- hx]
 have hb : ∀ y ∈ L, y.base ≠ x.base := by rw [hx]; exact fun y hy => (hno y hy).2
 have er : (List.take i ((ofK L (c, np, full, sw)).map iptr) ++ u :: List.drop i ((ofK L (c, np, full, sw)).map iptr)).set i (iptr x) = (ofK (insB L x) (c, np, full, sw)).map iptr := by
  rw [<- hk, ofK_ins hI.inv.srt hb]
  unfold insB
  rw [hk, show x.base = base by rw [hx], hpp, List.map_append, List.map_cons, List.map_take, List.map_drop, List.set_append_right _ _ (by simp; omega)]
  congr 1
  rw [show i - (List.take i ((ofK L (c, np, full, sw)).map iptr)).length = 0 by simp; omega]
  rfl
 have H65 : Sat (Row E.t__sets_item 1 s51 ((ofK (insB L x) (c, np, full, sw)).map iptr) :: itR E x :: Many (kdR E g.sl L) (g.kinds.erase (c, np, full, sw)) :: Cells b E.t_sets_Sets (secells g) :: MapF g.bi .i64 (keyM (·.id) (insB L x)) :: MapF g.bb .u64 (keyM (·.base) (insB L x)) :: MapK g.bm (fun i => if i = (c, np, full, sw) then some (slV s51) else kdM g.kinds g.sl i) :: Many (itR E) L :: Z) w63 := by
  have eit : itR E x = Cells b19 E.t_sets_item [.int .i64 id, .int .u64 base, .int .i64 c, .bool np, .bool full, .bool sw] := by rw [hx]; rfl
  have eip : iptr x = .pointer (some ⟨b19, 0, none⟩) := by rw [hx]; rfl
  rw [<- er, eit, eip]; exact H64
 have H66 : Sat (Many (itR E) (insB L x) :: Row E.t__sets_item 1 s51 ((ofK (insB L x) (c, np, full, sw)).map iptr) :: Many (kdR E g.sl L) (g.kinds.erase (c, np, full, sw)) :: Cells b E.t_sets_Sets (secells g) :: MapF g.bi .i64 (keyM (·.id) (insB L x)) :: MapF g.bb .u64 (keyM (·.base) (insB L x)) :: MapK g.bm (fun i => if i = (c, np, full, sw) then some (slV s51) else kdM g.kinds g.sl i) :: Z) w63 :=
  (Sat.manyCons.2 ((H65.front 7 rfl).front 2 rfl)).manyPerm (insB_perm L x).symm
 refine Sat.seBack (s := s51) (k := (c, np, full, sw)) hI (insB_inv hI.inv (by rw [hx]; exact hno) hf) (fun j hj => ofK_ins_ne hI.inv.srt hb (by rw [hk]; exact Ne.symm hj)) (fun y hy => ?_) (H66.perm ?_)
 ·rcases mem_insB.1 hy with rfl | hy
  ·exact .inl hk
  ·exact .inr (hI.ks y hy)
 ·exact (List.perm_middle (a := Many (itR E) (insB L x)) (l₁ := [_, _, _, _, _, _]) (l₂ := Z)).symm
end
end Go.Sh

set_option linter.all false
set_option maxRecDepth 4000
set_option maxHeartbeats 2000000
namespace Go.Sh
theorem ofK_rem_ne {L : List Itm} {x : Itm} {k : Kd} (hn : (L.map (·.id)).Nodup) (hx : x ∈ L) (h : x.kd ≠ k) : ofK (remB L x.id) k = ofK L k := by
 unfold ofK remB
 rw [List.filter_filter]
 refine List.filter_congr fun y hy => ?_
 by_cases e : y.kd = k
 ·have : y.id ≠ x.id := fun e2 => h (by rw [<- e, map_inj hn hy hx e2])
  simp [e, this]
 ·simp [e]
theorem ofK_rem {L : List Itm} {x : Itm} (hs : Srt (·.base) L) (hn : (L.map (·.id)).Nodup) (hx : x ∈ L) : ofK (remB L x.id) x.kd = (ofK L x.kd).eraseIdx (pos (·.base) (ofK L x.kd) x.base) := by
 have h1 : ofK (remB L x.id) x.kd = remB (ofK L x.kd) x.id := by
  unfold ofK remB
  rw [List.filter_filter, List.filter_filter]
  refine List.filter_congr fun y hy => ?_
  rw [Bool.and_comm]
 rw [h1]
 have hm : x ∈ ofK L x.kd := mem_ofK.2 ⟨hx, rfl⟩
 exact remB_at (List.Nodup.sublist (List.filter_sublist.map _) hn) (pos_has (ofK_srt hs _) hm rfl)
section
variable {E : Env} {w : World} {Z : List Pr} {b : Nat} {L : List Itm} {g : SeG} (hE : EnvW E)
include hE
theorem serem_spec (H : Sat (SetsP E b L :: Z) w) {id : Int} {K : Int -> World -> Prop} (hk1 : (∀ x ∈ L, x.id ≠ id) -> K 35 w) (hk0 : ∀ x ∈ L, x.id = id -> ∀ w', Sat (SetsP E b (remB L id) :: Z) w' -> K 0 w') :
  F.sets_Sets_Remove E (some ⟨b, 0, none⟩) id K w := by
 obtain ⟨g, hI, H⟩ := Sat.sets.1 H
 unfold F.sets_Sets_Remove T0.sets_Sets_Remove
 simp only [NC_some, add_add]
 have hc := secell H
 refine ⟨_, hc.1, LKP_sl (H.front 1 rfl) fun es _ => ?_⟩
 cases e1 : keyM (·.id) L id with
 | none => exact ⟨none, rfl, CND_t rfl (hk1 (keyM_none.1 e1))⟩
 | some v =>
 obtain ⟨x, hx, hid, rfl⟩ := keyM_get e1
 subst hid
 refine ⟨some ⟨x.blk, 0, none⟩, rfl, CND_f rfl ⟨_, hc.1, ?_⟩⟩
 simp only [NC_some]
 have H0 := H.seRow hI x.kd
 refine MDEL_sl (H0.front 3 rfl) fun w9 H9 => ?_
 have H10 := (Sat.back (Ps := _ :: _ :: _ :: _ :: _ :: _ :: _ :: Z) 3 H9).drew
 have ic : ∀ {w' : World} {Y : List Pr}, Sat (Many (itR E) L :: Y) w' -> w'.cell? ((Addr.mk x.blk 0 none).add 1) = some (.int .u64 x.base) /\ w'.cell? ((Addr.mk x.blk 0 none).add (2 + 0)) = some (.int .i64 x.kd.1) /\ w'.cell? ((Addr.mk x.blk 0 none).add (2 + 1)) = some (.bool x.kd.2.1) /\ w'.cell? ((Addr.mk x.blk 0 none).add (2 + 2)) = some (.bool x.kd.2.2.1) /\ w'.cell? ((Addr.mk x.blk 0 none).add (2 + 3)) = some (.bool x.kd.2.2.2) :=
  fun h => ⟨itcell h hx rfl, itcell h hx rfl, itcell h hx rfl, itcell h hx rfl, itcell h hx rfl⟩
 obtain ⟨i1, _⟩ := ic (H10.front 6 rfl)
 refine ⟨_, (secell (H10.front 2 rfl)).2.1, x.base, i1, MDEL_sl (H10.front 4 rfl) fun w14 H14 => ?_⟩
 have H15 := Sat.back (Ps := _ :: _ :: _ :: _ :: _ :: _ :: _ :: Z) 4 H14
 simp only [List.set_cons_succ, List.set_cons_zero] at H15
 clear H9 H10 H14 i1
 have m1 : (fun i => if i = x.id then none else keyM (·.id) L i) = keyM (·.id) (remB L x.id) := (keyM_rem (f := (·.id)) hI.inv.nd hI.inv.nd hx).symm
 have m2 : (fun i => if i = x.base then none else keyM (·.base) L i) = keyM (·.base) (remB L x.id) := (keyM_rem (f := (·.base)) hI.inv.nd (srt_nodup hI.inv.srt) hx).symm
 rw [m1, m2] at H15
 obtain ⟨j1, j2, j3, j4, j5⟩ := ic (H15.front 6 rfl)
 refine ⟨_, j2, _, j3, _, j4, _, j5, _, j1, ?_⟩
 have hl0 : (ofK L x.kd).length = (slO g x.kd).len := by simpa using H15.rowLen
 have hl1 := ofK_len L x.kd
 have hfew := hI.inv.few
 have H16 := H15.drew
 refine seplace_spec (k := x.kd) hE (secell (H16.front 2 rfl)).2.2 (H16.front 5 rfl) (kdM_look _ _) (by simpa using H16.rowAll) hl0 (by omega) (fun y hy => ?_) (ofK_srt hI.inv.srt _) fun w23 e23 => ?_
 ·have := itcell (H16.front 6 rfl) (mem_ofK.1 hy).1 (j := 1) rfl
  rwa [add_eq] at this
 have hm : x ∈ ofK L x.kd := mem_ofK.2 ⟨hx, rfl⟩
 have hat := pos_has (ofK_srt hI.inv.srt x.kd) hm (n := x.base) rfl
 have hp := (List.getElem?_eq_some_iff.1 hat).1
 have hor := ofK_rem hI.inv.srt hI.inv.nd hx
 generalize hpp : pos (fun x : Itm => x.base) (ofK L x.kd) x.base = i at *
 have H24 := (H16.nothing e23).drew
 obtain ⟨_, j2, j3, j4, j5⟩ := ic (H24.front 6 rfl)
 refine ⟨_, (secell (H24.front 2 rfl)).2.2, _, j2, _, j3, _, j4, _, j5, LKA_sl (n := x.kd) (H24.front 5 rfl) fun es hes => ⟨_, kdM_look _ _, ?_⟩⟩
 have H25 := H24.drew
 obtain ⟨_, j2, j3, j4, j5⟩ := ic (H25.front 6 rfl)
 have hcap := H25.own.cap
 rw [show i64 ((i : Int) + 1) = ((i + 1 : Nat) : Int) by rw [i64_id (by omega) (by omega)]; rfl, Int.toNat_natCast, Int.toNat_natCast]
 refine ⟨_, (secell (H25.front 2 rfl)).2.2, _, j2, _, j3, _, j4, _, j5, ⟨by omega, by omega⟩, ⟨by omega, by omega⟩, ?_⟩
 refine APP_cut H25 (iptr_one _) (by simpa using hp) fun s42 w43 H43 => ?_
 obtain ⟨_, j2, j3, j4, j5⟩ := ic (H43.front 6 rfl)
 refine ⟨⟨j2, j3, j4, j5, trivial⟩, (secell (H43.front 2 rfl)).2.2, MUPA_sl (n := x.kd) (H43.front 5 rfl) fun w44 H44 => ?_⟩
 have H45 := Sat.back (Ps := _ :: _ :: _ :: _ :: _ :: _ :: _ :: Z) 5 H44
 simp only [List.set_cons_succ, List.set_cons_zero] at H45
 refine hk0 x hx rfl w44 ?_
 have er : ((ofK L x.kd).map iptr).eraseIdx i = (ofK (remB L x.id) x.kd).map iptr := by rw [hor, map_eraseIdx']
 rw [er] at H45
 have H46 := (Sat.manyCons.1 ((H45.front 6 rfl).manyPerm (remB_perm hI.inv.nd hx))).tail
 refine Sat.seBack (s := s42) (k := x.kd) hI (remB_inv hI.inv x.id) (fun j hj => ofK_rem_ne hI.inv.nd hx (Ne.symm hj)) (fun y hy => .inr (hI.ks y (mem_remB.1 hy).1)) (H46.perm ?_)
 exact (List.perm_middle (a := Many (itR E) (remB L x.id)) (l₁ := [_, _, _, _, _, _]) (l₂ := Z)).symm
end
theorem unKd_in {k : Kd} {K : VTV (.agg [.int .i64, .bool, .bool, .bool]) -> Prop} (h : K (k.1, k.2.1, k.2.2.1, k.2.2.2, ())) : unVT (.agg [.int .i64, .bool, .bool, .bool]) (.agg ⟨kdv k⟩) K := h
theorem unSl_in {s : SlV} {K : SlV -> Prop} (h : K s) : unSl (slV s) K := h
def cntD (L : List Itm) (sw : Bool) (done : List Kd) : Nat := (done.map fun k => if k.2.2.2 = sw then (ofK L k).length else 0).sum
def cntS (L : List Itm) (sw : Bool) : Nat := (L.filter fun x => x.swept == sw).length
theorem cntD_app (L : List Itm) (sw : Bool) (d : List Kd) (k : Kd) : cntD L sw (d ++ [k]) = cntD L sw d + if k.2.2.2 = sw then (ofK L k).length else 0 := by simp [cntD]
theorem cntD_cons (x : Itm) (L : List Itm) (sw : Bool) : ∀ (d : List Kd), d.Nodup -> cntD (x :: L) sw d = cntD L sw d + if x.kd ∈ d /\ x.swept = sw then 1 else 0
 | [], _ => by simp [cntD]
 | k :: d, hn => by
  rw [List.nodup_cons] at hn
  have ih := cntD_cons x L sw d hn.2
  have e : ofK (x :: L) k = if x.kd = k then x :: ofK L k else ofK L k := by
   unfold ofK
   rw [List.filter_cons]
   simp only [decide_eq_true_eq]
  unfold cntD at ih ⊢
  rw [List.map_cons, List.sum_cons, List.map_cons, List.sum_cons, ih, e]
  by_cases h1 : x.kd = k
  ·subst h1
   have : x.kd ∉ d := hn.1
   simp only [if_true, this, false_and, if_false, List.mem_cons, true_or, true_and, List.length_cons]
   split <;> omega
  ·simp only [h1, if_false, List.mem_cons, false_or]
   omega
theorem cntD_zero (sw : Bool) : ∀ d : List Kd, cntD [] sw d = 0
 | [] => rfl
 | k :: d => by
  have := cntD_zero sw d
  unfold cntD at this ⊢
  rw [List.map_cons, List.sum_cons, this]
  split <;> rfl
theorem cntD_all : ∀ {L : List Itm} {sw : Bool} {d : List Kd}, d.Nodup -> (∀ x ∈ L, x.kd ∈ d) -> cntD L sw d = cntS L sw
 | [], sw, d, _, _ => cntD_zero sw d
 | x :: L, sw, d, hn, h => by
  have ih := cntD_all (L := L) (sw := sw) hn fun y hy => h y (List.mem_cons_of_mem _ hy)
  rw [cntD_cons x L sw d hn, ih]
  unfold cntS
  rw [List.filter_cons]
  have := h x List.mem_cons_self
  by_cases e : x.swept = sw
  ·rw [if_pos ⟨this, e⟩, if_pos (by simp [e])]; rfl
  ·rw [if_neg (fun h => e h.2), if_neg (by simpa using e)]; rfl
theorem cntD_le (L : List Itm) (sw : Bool) {d : List Kd} (hn : d.Nodup) : cntD L sw d <= L.length := by
 induction L with
 | nil => rw [cntD_zero]; exact Nat.zero_le _
 | cons x L ih =>
  rw [cntD_cons x L sw d hn, List.length_cons]
  split <;> omega
section
variable {E : Env} {w : World} {Z : List Pr} {b : Nat} {L : List Itm} {g : SeG}
theorem secount_spec (H : Sat (SetsP E b L :: Z) w) {sw : Bool} {K : Int -> World -> Prop} (hK : ∀ w', Sat (SetsP E b L :: Z) w' -> K ((cntS L sw : Nat) : Int) w') : F.sets_Sets_Count E (some ⟨b, 0, none⟩) sw K w := by
 obtain ⟨g, hI, H⟩ := Sat.sets.1 H
 unfold F.sets_Sets_Count
 simp only [NC_some]
 have hfew := hI.inv.few
 refine ⟨_, (secell H).2.2, RNG_mkA (H.front 3 rfl) fun r4 N w5 H5 => ?_⟩
 refine LOOP_intro (fun st w' => ∃ cur done N', st.1 = (cntD L sw done : Nat) /\ Sat (RngA r4 g.bm (kdM g.kinds g.sl) cur done N' :: (seres E b L g ++ Z).eraseIdx 3) w') (fun _ w' => leftWA r4 g.bm w') ⟨none, [], N, rfl, H5⟩ ?_
 rintro ⟨n, u⟩ _ w7 ⟨cur, done, N', hn, H7⟩
 dsimp only at hn ⊢
 subst hn
 rw [H7.rngLeftA]
 refine JOIN_in (NEXT_rngA H7 (fun w12 H12 hall j => JOIN_in (CND_f rfl ?_)) fun k v w13 N2 hgk hnd hN H13 j => JOIN_in (CND_t rfl fun j2 => ENT_rngA H13 fun v' S' hv' => ?_))
 ·rw [cntD_all H12.rngDoneA.1 fun x hx => (hall _).2 (by unfold kdM; rw [if_pos (hI.ks x hx)]; exact fun h => by cases h)]
  exact hK w12 (Sat.sets.2 ⟨g, hI, Sat.back (Ps := seres E b L g ++ Z) 3 H12.rngOutA (by simp [seres])⟩)
 ·have hk : k ∈ g.kinds := by
   unfold kdM at hv'
   by_cases h : k ∈ g.kinds
   ·exact h
   ·rw [if_neg h] at hv'; cases hv'
  have hv2 : v' = slV (g.sl k) := by unfold kdM at hv'; rw [if_pos hk] at hv'; exact (Option.some.inj hv').symm
  subst hv2
  have hlen : (ofK L k).length = (g.sl k).len := by
   obtain ⟨i, hi⟩ := List.mem_iff_getElem?.1 hk
   have := ((H.front 4 rfl).manyGet hi).rowLen
   simpa using this
  refine unKd_in (unSl_in (AL_cells (vs := [.int .i64 0, .bool false, .bool false, .bool false]) H13 fun b24 w25 H25 _ => ?_))
  refine st_all (news := kdv k) H25 rfl (by simp [kdv, Value.oneCell']) fun w26 H26 => ⟨k.2.2.2, H26.cell rfl, ?_⟩
  have hnd2 : (done ++ [k]).Nodup := H13.rngDoneA.1
  have hle := cntD_le L sw hnd2
  have happ := cntD_app L sw done k
  have hm : leftWA r4 g.bm w26 < N' := by rw [(H26.front 1 rfl).rngLeftA]; exact hN
  by_cases e : k.2.2.2 = sw
  ·rw [if_pos e] at happ
   refine CND_t (by simp [e]) (LET_intro fun t ht => ⟨⟨some k, done ++ [k], N2, ?_, H26.tail⟩, hm⟩)
   show t = _
   rw [ht, happ, i64_id (by omega) (by omega)]; omega
  ·rw [if_neg e] at happ
   refine CND_f (by simpa using e) ⟨⟨some k, done ++ [k], N2, ?_, H26.tail⟩, hm⟩
   show _ = _
   rw [happ]; rfl
end
end Go.Sh

set_option linter.all false
set_option maxRecDepth 4000
set_option maxHeartbeats 2000000
namespace Go.Sh
def unsw (k : Kd) : Kd := (k.1, k.2.1, k.2.2.1, false)
def resw (k : Kd) : Kd := (k.1, k.2.1, k.2.2.1, true)
def Itm.flip (x : Itm) : Itm := { x with kd := unsw x.kd }
theorem cntS_zero {L : List Itm} {sw : Bool} (h : cntS L sw = 0) : ∀ x ∈ L, x.swept ≠ sw := by
 intro x hx e
 unfold cntS at h
 rw [List.length_eq_zero_iff, List.filter_eq_nil_iff] at h
 exact h x hx (by simp [e])
def LeastS (L : List Itm) (x : Itm) : Prop := x ∈ L /\ x.swept = false /\ ∀ y ∈ L, y.swept = false -> x.base <= y.base
def PickS (L : List Itm) (done : List Kd) (p : Option Addr) : Prop :=
 (p = none /\ ∀ k ∈ done, k.2.2.2 = false -> ofK L k = []) ∨ ∃ x ∈ L, p = some ⟨x.blk, 0, none⟩ /\ x.swept = false /\ ∀ k ∈ done, k.2.2.2 = false -> ∀ y ∈ ofK L k, x.base <= y.base
section
variable {E : Env} {w : World} {Z : List Pr} {b : Nat} {L : List Itm} {g : SeG}
theorem kdrow {Y : List Pr} (H : Sat (Many (kdR E g.sl L) g.kinds :: Y) w) {k : Kd} (hk : k ∈ g.kinds) : rowAt w (g.sl k).base (g.sl k).len ((ofK L k).map iptr) /\ (ofK L k).length = (g.sl k).len := by
 obtain ⟨i, hi⟩ := List.mem_iff_getElem?.1 hk
 have h := H.manyGet hi
 exact ⟨by simpa using h.rowAll, by simpa using h.rowLen⟩
theorem row_get {q : List Itm} {s : SlV} (h : rowAt w s.base s.len (q.map iptr)) {i : Nat} {x : Itm} (hi : q[i]? = some x) : ∃ a, s.base = some a /\ w.cell? (a.add (i * 1)) = some (iptr x) := by
 cases hb : s.base with
 | none => rw [hb] at h; have : q.map iptr = [] := h; simp at this; subst this; simp at hi
 | some a => rw [hb] at h; exact ⟨a, rfl, by rw [Nat.mul_one]; exact h.2 i _ (by rw [List.getElem?_map, hi]; rfl)⟩
theorem kdM_mem {k : Kd} {v : Value} (h : kdM g.kinds g.sl k = some v) : k ∈ g.kinds /\ v = slV (g.sl k) := by
 unfold kdM at h
 by_cases e : k ∈ g.kinds
 ·rw [if_pos e] at h; exact ⟨e, (Option.some.inj h).symm⟩
 ·rw [if_neg e] at h; cases h
theorem kdM_ne {k : Kd} (h : k ∈ g.kinds) : kdM g.kinds g.sl k ≠ none := by unfold kdM; rw [if_pos h]; exact fun h => by cases h
theorem seleast_spec (H : Sat (SetsP E b L :: Z) w) {K : Int -> Bool -> World -> Prop} (hk0 : (∀ x ∈ L, x.swept = true) -> ∀ w', Sat (SetsP E b L :: Z) w' -> K 0 false w') (hk1 : ∀ x, LeastS L x -> ∀ w', Sat (SetsP E b L :: Z) w' -> K x.id true w') :
  F.sets_Sets_Least E (some ⟨b, 0, none⟩) K w := by
 obtain ⟨g, hI, H⟩ := Sat.sets.1 H
 unfold F.sets_Sets_Least
 simp only [NC_some]
 refine ⟨_, (secell H).2.2, RNG_mkA (H.front 3 rfl) fun r4 N w5 H5 => ?_⟩
 refine LOOP_intro (fun st w' => ∃ cur done N', PickS L done st.1 /\ Sat (RngA r4 g.bm (kdM g.kinds g.sl) cur done N' :: (seres E b L g ++ Z).eraseIdx 3) w') (fun _ w' => leftWA r4 g.bm w') ⟨none, [], N, .inl ⟨rfl, fun k hk => by cases hk⟩, H5⟩ ?_
 rintro ⟨p, u⟩ _ w7 ⟨cur, done, N', hp, H7⟩
 dsimp only at hp ⊢
 rw [H7.rngLeftA]
 have itc : ∀ {w'} {cur done N}, Sat (RngA r4 g.bm (kdM g.kinds g.sl) cur done N :: (seres E b L g ++ Z).eraseIdx 3) w' -> ∀ {x}, x ∈ L -> w'.cell? (Addr.mk x.blk 0 none) = some (.int .i64 x.id) /\ w'.cell? ((Addr.mk x.blk 0 none).add 1) = some (.int .u64 x.base) := fun h x hx =>
  ⟨by have := itcell (h.front 5 rfl) hx (j := 0) rfl; rwa [add_zero] at this, itcell (h.front 5 rfl) hx (j := 1) rfl⟩
 refine JOIN_in (NEXT_rngA H7 (fun w12 H12 hall j => JOIN_in (CND_f rfl ?_)) fun k v w13 N2 hgk hnd hN H13 j => JOIN_in (CND_t rfl fun j2 => ENT_rngA H13 fun v' S' hv' => ?_))
 ·have hb : Sat (SetsP E b L :: Z) w12 := Sat.sets.2 ⟨g, hI, Sat.back (Ps := seres E b L g ++ Z) 3 H12.rngOutA (by simp [seres])⟩
  have hd : ∀ x ∈ L, x.kd ∈ done := fun x hx => (hall _).2 (kdM_ne (hI.ks x hx))
  rcases hp with ⟨rfl, h0⟩ | ⟨x, hx, rfl, h1, h2⟩
  ·refine CND_t rfl (hk0 (fun x hx => ?_) w12 hb)
   cases e : x.swept with
   | true => rfl
   | false =>
    have := h0 _ (hd x hx) e
    have h3 : x ∈ ofK L x.kd := mem_ofK.2 ⟨hx, rfl⟩
    rw [this] at h3; cases h3
  ·refine CND_f rfl ?_
   simp only [NC_some]
   exact ⟨x.id, (itc H12 hx).1, hk1 x ⟨hx, h1, fun y hy e => h2 _ (hd y hy) e y (mem_ofK.2 ⟨hy, rfl⟩)⟩ w12 hb⟩
 ·obtain ⟨hk, rfl⟩ := kdM_mem hv'
  refine unKd_in (unSl_in (AL_cells (vs := [.int .i64 0, .bool false, .bool false, .bool false]) H13 fun b26 w27 H27 _ => ?_))
  refine st_all (news := kdv k) H27 rfl (by simp [kdv, Value.oneCell']) fun w28 H28 => ?_
  have H29 := H28.drew
  have H30 := H29.tail
  obtain ⟨hrow, hlen⟩ := kdrow (H30.front 4 rfl) hk
  have hm : ∀ w', w' = w28.drew -> leftWA r4 g.bm w' < N' := fun w' e => by rw [e, H30.rngLeftA]; exact hN
  refine JOIN_in ⟨k.2.2.2, H29.cell rfl, ?_⟩
  have keep : (k.2.2.2 = false -> ofK L k = [] ∨ ∃ x ∈ L, p = some ⟨x.blk, 0, none⟩ /\ ∀ y ∈ ofK L k, x.base <= y.base) -> PickS L (done ++ [k]) p := fun hq => by
   rcases hp with ⟨h0, h1⟩ | ⟨x, hx, h0, h1, h2⟩
   ·refine .inl ⟨h0, fun k' hk' e => ?_⟩
    rcases List.mem_append.1 hk' with h | h
    ·exact h1 k' h e
    ·simp at h; subst h
     rcases hq e with h | ⟨x, _, h, _⟩
     ·exact h
     ·rw [h0] at h; cases h
   ·refine .inr ⟨x, hx, h0, h1, fun k' hk' e y hy => ?_⟩
    rcases List.mem_append.1 hk' with h | h
    ·exact h2 k' h e y hy
    ·simp at h; subst h
     rcases hq e with h | ⟨x', hx', h, h3⟩
     ·rw [h] at hy; cases hy
     ·rw [h0] at h
      have := h3 y hy
      have eb : x.blk = x'.blk := by
       have := Option.some.inj h
       injection this
      have := (itc H30 hx).2
      have h5 := (itc H30 hx').2
      rw [<- eb, this] at h5
      have h6 := Option.some.inj h5
      injection h6 with _ h6
      omega
  cases hs : k.2.2.2 with
  | true => exact CND_f rfl fun j => CND_f rfl ⟨⟨_, _, N2, keep (fun h => by rw [hs] at h; cases h), H30⟩, hm _ rfl⟩
  | false =>
  refine CND_t rfl (CND_dec (fun hpos => ?_) fun hnp => ?_)
  ·obtain ⟨x, r, hr⟩ : ∃ x r, ofK L k = x :: r := by
    cases h : ofK L k with
    | nil => rw [h] at hlen; simp at hlen; omega
    | cons x r => exact ⟨x, r, rfl⟩
   have hxk := mem_ofK.1 (show x ∈ ofK L k by rw [hr]; exact List.mem_cons_self)
   have hmin : ∀ y ∈ ofK L k, x.base <= y.base := fun y hy => by
    have hsr := ofK_srt hI.inv.srt k
    rw [hr] at hy hsr
    rcases List.mem_cons.1 hy with rfl | hy
    ·exact Int.le_refl _
    ·exact Int.le_of_lt ((List.pairwise_cons.1 hsr).1 y hy)
   obtain ⟨a, ha, hc⟩ := row_get hrow (i := 0) (x := x) (by rw [hr]; rfl)
   have take : (∀ y, p = some (Addr.mk y 0 none) -> ∀ z ∈ L, z.blk = y -> x.base < z.base) -> PickS L (done ++ [k]) (some ⟨x.blk, 0, none⟩) := fun hq => by
    refine .inr ⟨x, hxk.1, rfl, by show x.kd.2.2.2 = false; rw [hxk.2]; exact hs, fun k' hk' e y hy => ?_⟩
    rcases List.mem_append.1 hk' with h | h
    ·rcases hp with ⟨h0, h1⟩ | ⟨z, hz, h0, h1, h2⟩
     ·rw [h1 k' h e] at hy; cases hy
     ·have := h2 k' h e y hy
      have := hq _ h0 z hz rfl
      omega
    ·simp at h; subst h; exact hmin y hy
   have hfin : (∀ y, p = some (Addr.mk y 0 none) -> ∀ z ∈ L, z.blk = y -> x.base < z.base) -> ∀ j : Nat -> Value, CND true
     (NC (g.sl k).base fun p39 => ((0 : Int) <= 0 /\ (0 : Int) < ((g.sl k).len : Nat)) /\ ∃ x40 : Option Addr, w28.drew.cell? (p39.add (Int.toNat 0 * 1)) = some (.pointer x40) /\ ((∃ cur done N', PickS L done x40 /\ Sat (RngA r4 g.bm (kdM g.kinds g.sl) cur done N' :: (seres E b L g ++ Z).eraseIdx 3) w28.drew) /\ leftWA r4 g.bm w28.drew < N')) False := fun hq j => by
    refine CND_t rfl ?_
    rw [ha]
    simp only [NC_some]
    exact ⟨⟨by decide, by omega⟩, _, hc, ⟨_, _, N2, take hq, H30⟩, hm _ rfl⟩
   rcases hp with ⟨rfl, h1⟩ | ⟨z, hz, rfl, h1, h2⟩
   ·exact CND_t rfl fun j => hfin (fun y hy => by cases hy) j
   ·refine CND_f rfl ?_
    rw [ha]
    simp only [NC_some]
    refine ⟨⟨by decide, by omega⟩, _, hc, ?_⟩
    simp only [NC_some]
    refine ⟨_, (itc H30 hxk.1).2, _, (itc H30 hz).2, fun j => CND_dec (fun hlt => ?_) fun hge => ?_⟩
    ·have := hfin (fun y hy z' hz' e => by
      have e1 : z.blk = y := by have := Option.some.inj hy; injection this
      have h5 := (itc H30 hz').2
      rw [e, <- e1, (itc H30 hz).2] at h5
      have h6 := Option.some.inj h5
      injection h6 with _ h6
      omega) j
     rw [ha] at this
     simpa only [CND_true, NC_some] using this
    ·refine ⟨⟨_, _, N2, keep fun _ => .inr ⟨z, hz, rfl, fun y hy => ?_⟩, H30⟩, hm _ rfl⟩
     have := hmin y hy
     omega
  ·refine fun j => CND_f rfl ⟨⟨_, _, N2, keep (fun _ => .inl (List.eq_nil_of_length_eq_zero (by omega))), H30⟩, hm _ rfl⟩
end
end Go.Sh

set_option linter.all false
set_option maxRecDepth 4000
set_option maxHeartbeats 2000000
namespace Go.Sh
theorem nodup_er {α : Type} : ∀ {l : List α} {i : Nat} {x : α}, l.Nodup -> l[i]? = some x -> x ∉ l.eraseIdx i
 | [], i, x, _, h => by simp at h
 | y :: l, 0, x, hn, h => by
  simp at h; subst h
  simpa using (List.nodup_cons.1 hn).1
 | y :: l, i + 1, x, hn, h => by
  have h : l[i]? = some x := by simpa using h
  rw [List.eraseIdx_cons_succ]
  have h1 := List.nodup_cons.1 hn
  intro hm
  rcases List.mem_cons.1 hm with e | hm
  ·exact h1.1 (e ▸ List.mem_of_getElem? h)
  ·exact nodup_er h1.2 h hm
def flipL (L : List Itm) : List Itm := L.map Itm.flip
def itF (E : Env) (c : Itm -> Bool) (x : Itm) : Pr := itR E (if c x = true then x.flip else x)
theorem flip_srt {L : List Itm} (h : Srt (·.base) L) : Srt (·.base) (flipL L) := List.Pairwise.map _ (fun a b h => h) h
theorem flip_inv {L : List Itm} (h : SeInv L) : SeInv (flipL L) := ⟨flip_srt h.srt, by
 have : (flipL L).map (·.id) = L.map (·.id) := by unfold flipL; rw [List.map_map]; rfl
 rw [this]; exact h.nd, by unfold flipL; rw [List.length_map]; exact h.few⟩
theorem keyM_flip {f : Itm -> Int} (hf : ∀ x : Itm, f x.flip = f x) : ∀ L : List Itm, keyM f (flipL L) = keyM f L
 | [] => rfl
 | x :: L => by
  show keyM f (x.flip :: flipL L) = _
  rw [keyM_cons, keyM_cons, keyM_flip hf L, hf]; rfl
theorem resw_unsw {k : Kd} (h : k.2.2.2 = true) : resw (unsw k) = k := by
 obtain ⟨a, b, c, d⟩ := k
 have : d = true := h
 subst this; rfl
theorem unsw_resw {k : Kd} (h : k.2.2.2 = false) : unsw (resw k) = k := by
 obtain ⟨a, b, c, d⟩ := k
 have : d = false := h
 subst this; rfl
theorem ofK_flip {L : List Itm} (hs : ∀ x ∈ L, x.swept = true) {k : Kd} (hk : k.2.2.2 = false) : (ofK (flipL L) k).map iptr = (ofK L (resw k)).map iptr := by
 unfold ofK flipL
 rw [List.filter_map, List.map_map]
 have : L.filter ((fun x => decide (x.kd = k)) ∘ Itm.flip) = L.filter fun x => decide (x.kd = resw k) := by
  refine List.filter_congr fun x hx => ?_
  show decide (unsw x.kd = k) = decide (x.kd = resw k)
  refine decide_eq_decide.2 ⟨fun e => ?_, fun e => ?_⟩
  ·rw [<- e, resw_unsw (hs x hx)]
  ·rw [e, unsw_resw hk]
 rw [this]; rfl
def tmM (L : List Itm) (sl : Kd -> SlV) (done : List Kd) : Kd -> Option Value := fun k => if k.2.2.2 = false /\ resw k ∈ done /\ ofK L (resw k) ≠ [] then some (slV (sl (resw k))) else none
theorem tmM_same {L : List Itm} {sl : Kd -> SlV} {done : List Kd} {k : Kd} (h : k.2.2.2 = false ∨ ofK L k = []) : tmM L sl (done ++ [k]) = tmM L sl done := by
 funext j
 unfold tmM
 by_cases e : resw j = k
 ·have : ¬ (j.2.2.2 = false /\ resw j ∈ done ++ [k] /\ ofK L (resw j) ≠ []) := fun ⟨_, _, q⟩ => by
   rcases h with h | h
   ·rw [<- e] at h; cases h
   ·rw [e] at q; exact q h
  have h2 : ¬ (j.2.2.2 = false /\ resw j ∈ done /\ ofK L (resw j) ≠ []) := fun ⟨q1, q2, q3⟩ => this ⟨q1, List.mem_append_left _ q2, q3⟩
  rw [if_neg this, if_neg h2]
 ·simp [e]
theorem tmM_new {L : List Itm} {sl : Kd -> SlV} {done : List Kd} {k : Kd} (h1 : k.2.2.2 = true) (h2 : ofK L k ≠ []) : (fun j => if j = unsw k then some (slV (sl k)) else tmM L sl done j) = tmM L sl (done ++ [k]) := by
 funext j
 unfold tmM
 by_cases e : j = unsw k
 ·rw [if_pos e]
  have : resw j = k := by rw [e, resw_unsw h1]
  rw [this, if_pos ⟨by rw [e]; rfl, by simp, h2⟩]
 ·rw [if_neg e]
  by_cases hj : j.2.2.2 = false
  ·have : resw j ≠ k := fun h => e (by rw [<- h, unsw_resw hj])
   simp [this]
  ·rw [if_neg fun h => hj h.1, if_neg fun h => hj h.1]
section
variable {E : Env} {w : World} {Z : List Pr} {b : Nat} {L : List Itm} {g : SeG}
theorem seflip_spec (H : Sat (SetsP E b L :: Z) w) {K : Int -> World -> Prop} (hk1 : 0 < cntS L false -> ∀ w', Sat (SetsP E b L :: Z) w' -> K 33 w') (hk0 : (∀ x ∈ L, x.swept = true) -> ∀ w', Sat (SetsP E b (flipL L) :: Z) w' -> K 0 w') :
  F.sets_Sets_Flip E (some ⟨b, 0, none⟩) K w := by
 unfold F.sets_Sets_Flip T0.sets_Sets_Flip
 refine secount_spec H fun w2 H2 => CND_dec (fun h => hk1 (by omega) w2 H2) fun h => ?_
 have hsw : ∀ x ∈ L, x.swept = true := fun x hx => by
  have := cntS_zero (L := L) (sw := false) (by omega) x hx
  cases e : x.swept with
  | true => rfl
  | false => exact absurd e this
 obtain ⟨g, hI, H⟩ := Sat.sets.1 H2
 refine AL_mapA H fun b3 w4 H4 _ => ?_
 simp only [NC_some]
 refine ⟨_, (secell (H4.front 1 rfl)).2.2, RNG_mkA (H4.front 4 rfl) fun r8 N w9 H9 => ?_⟩
 have hLn := nodup_of_map hI.inv.nd
 have e0 : tmM L g.sl [] = fun _ => none := by funext k; unfold tmM; simp
 have e1 : Many (itR E) L = Many (itF E fun x => decide (x.kd ∈ ([] : List Kd))) L := Many.congr fun x _ => by simp [itF]
 refine LOOP_intro (fun _ w' => ∃ cur done N', Sat (RngA r8 g.bm (kdM g.kinds g.sl) cur done N' :: MapK b3 (tmM L g.sl done) :: Cells b E.t_sets_Sets (secells g) :: MapF g.bi .i64 (keyM (·.id) L) :: MapF g.bb .u64 (keyM (·.base) L) :: Many (kdR E g.sl L) g.kinds :: Many (itF E fun x => decide (x.kd ∈ done)) L :: Z) w') (fun _ w' => leftWA r8 g.bm w') ⟨none, [], N, by rw [e0, <- e1]; exact H9⟩ ?_
 rintro _ _ w11 ⟨cur, done, N', H11⟩
 rw [H11.rngLeftA]
 refine JOIN_in (NEXT_rngA H11 (fun w16 H16 hall j => JOIN_in (CND_f rfl ?_)) fun k v w17 N2 hgk hnd hN H17 j => JOIN_in (CND_t rfl fun j2 => ENT_rngA H17 fun v' S' hv' => ?_))
 ·have hd : ∀ k, k ∈ done ↔ k ∈ g.kinds := fun k => by
   rw [hall k]
   unfold kdM
   split
   ·rename_i h; exact ⟨fun _ => h, fun _ h => by cases h⟩
   ·rename_i h; exact ⟨fun h => absurd rfl h, fun h2 => absurd h2 h⟩
  refine st_cell (H16.front 2 rfl) (o := 0) (m := 2) rfl (by simp [secells]) fun w24 H24 => hk0 hsw w24 ?_
  let P : Kd -> Bool := fun k => k.2.2.2 && !(ofK L k).isEmpty
  have hP : ∀ k, P k = true ↔ k.2.2.2 = true /\ ofK L k ≠ [] := fun k => by simp [P]
  refine Sat.sets.2 ⟨{ g with bm := b3, kinds := (g.kinds.filter P).map unsw, sl := fun k => g.sl (resw k) }, ⟨flip_inv hI.inv, ?_, ?_⟩, ?_⟩
  ·refine List.Pairwise.map _ (fun a c hac => ?_) (List.Pairwise.and_mem.1 (hI.kn.filter P))
   obtain ⟨ha, hc, hne⟩ := hac
   intro e
   have ha := ((hP a).1 (List.mem_filter.1 ha).2).1
   have hc := ((hP c).1 (List.mem_filter.1 hc).2).1
   exact hne (by rw [<- resw_unsw ha, e, resw_unsw hc])
  ·intro x hx
   obtain ⟨y, hy, rfl⟩ := List.mem_map.1 hx
   refine List.mem_map.2 ⟨y.kd, List.mem_filter.2 ⟨hI.ks y hy, (hP _).2 ⟨hsw y hy, fun h => ?_⟩⟩, rfl⟩
   have : y ∈ ofK L y.kd := mem_ofK.2 ⟨hy, rfl⟩
   rw [h] at this; cases this
  ·have q1 : tmM L g.sl done = kdM ((g.kinds.filter P).map unsw) (fun k => g.sl (resw k)) := by
    funext k
    unfold tmM kdM
    have : (k.2.2.2 = false /\ resw k ∈ done /\ ofK L (resw k) ≠ []) ↔ k ∈ (g.kinds.filter P).map unsw := by
     rw [List.mem_map]
     constructor
     ·rintro ⟨h1, h2, h3⟩
      exact ⟨resw k, List.mem_filter.2 ⟨(hd _).1 h2, (hP _).2 ⟨rfl, h3⟩⟩, unsw_resw h1⟩
     ·rintro ⟨k', h1, rfl⟩
      obtain ⟨h2, h3⟩ := List.mem_filter.1 h1
      obtain ⟨h3, h4⟩ := (hP _).1 h3
      rw [resw_unsw h3]
      exact ⟨rfl, (hd _).2 h2, h4⟩
    by_cases h : k.2.2.2 = false /\ resw k ∈ done /\ ofK L (resw k) ≠ []
    ·rw [if_pos h, if_pos (this.1 h)]
    ·rw [if_neg h, if_neg fun h2 => h (this.2 h2)]
   have q2 : Many (itF E fun x => decide (x.kd ∈ done)) L = Many (itR E) (flipL L) := by
    unfold flipL Many
    rw [List.map_map]
    congr 1
    refine List.map_congr_left fun x hx => ?_
    show itR E _ = itR E x.flip
    rw [if_pos (by simpa using (hd _).2 (hI.ks x hx))]
   have q3 : Many (kdR E g.sl L) (g.kinds.filter P) = Many (kdR E (fun k => g.sl (resw k)) (flipL L)) ((g.kinds.filter P).map unsw) := by
    unfold Many
    rw [List.map_map]
    congr 1
    refine List.map_congr_left fun k hk => ?_
    have := ((hP k).1 (List.mem_filter.1 hk).2).1
    show kdR E g.sl L k = kdR E (fun k => g.sl (resw k)) (flipL L) (unsw k)
    unfold kdR
    rw [ofK_flip hsw (k := unsw k) rfl]
    simp only [resw_unsw this]
   have H25 := Sat.back (Ps := _ :: _ :: _ :: _ :: _ :: _ :: _ :: Z) 2 H24
   simp only [List.set_cons_succ, List.set_cons_zero] at H25
   have H26 : Sat (Many (kdR E g.sl L) (g.kinds.filter P) :: MapK b3 (tmM L g.sl done) :: Cells b E.t_sets_Sets ((secells g).set 2 (.map (some b3))) :: MapF g.bi .i64 (keyM (·.id) L) :: MapF g.bb .u64 (keyM (·.base) L) :: Many (itF E fun x => decide (x.kd ∈ done)) L :: Z) w24 := by
    have h1 := (H25.tail.front 4 rfl).manyPerm (L' := g.kinds.filter P ++ g.kinds.filter fun k => !P k) (List.filter_append_perm P g.kinds).symm
    have h2 := Sat.manyApp.1 h1
    exact (h2.front 1 rfl).tail
   rw [q1, q2, q3] at H26
   unfold seres
   rw [keyM_flip (f := (·.id)) (fun _ => rfl), keyM_flip (f := (·.base)) (fun _ => rfl)]
   exact ((((H26.front 0 rfl).front 1 rfl).front 4 rfl).front 4 rfl).front 4 rfl
 ·obtain ⟨hk, rfl⟩ := kdM_mem hv'
  refine unKd_in (unSl_in (AL_cells (vs := [.int .i64 0, .bool false, .bool false, .bool false]) H17 fun b30 w31 H31 _ => ?_))
  refine st_all (news := kdv k) H31 rfl (by simp [kdv, Value.oneCell']) fun w32 H32 => ?_
  refine st_cell H32 (o := 0) (m := 3) rfl (by simp [kdv]) fun w33 H33 => ?_
  have hlen := (kdrow (H33.front 6 rfl) hk).2
  have hllen := ofK_len L k
  have hfew := hI.inv.few
  have e2 : (fun x : Itm => decide (x.kd ∈ done)) = fun x => decide (x.kd ∈ done) || decide (x.id ∈ ((ofK L k).take 0).map (·.id)) := by funext x; simp
  rw [e2] at H33
  refine LOOP_intro (fun st w' => ∃ i : Nat, st.1 = (i : Int) /\ i <= (ofK L k).length /\ Sat (Cells b30 E.t_sets_kind (kdv (unsw k)) :: RngA r8 g.bm (kdM g.kinds g.sl) (some k) (done ++ [k]) N2 :: MapK b3 (tmM L g.sl done) :: Cells b E.t_sets_Sets (secells g) :: MapF g.bi .i64 (keyM (·.id) L) :: MapF g.bb .u64 (keyM (·.base) L) :: Many (kdR E g.sl L) g.kinds :: Many (itF E fun x => decide (x.kd ∈ done) || decide (x.id ∈ ((ofK L k).take i).map (·.id))) L :: Z) w') (fun st _ => ((ofK L k).length - st.1).toNat)
   ⟨0, rfl, Nat.zero_le _, H33⟩ ?_
  rintro ⟨i', u⟩ _ w35 ⟨i, hi, hil, H35⟩
  dsimp only at hi ⊢
  subst hi
  obtain ⟨hrow, _⟩ := kdrow (H35.front 6 rfl) hk
  refine CND_dec (fun hlt => ?_) fun hge => ?_
  ·obtain ⟨x, hx⟩ : ∃ x, (ofK L k)[i]? = some x := ⟨_, List.getElem?_eq_getElem (by omega)⟩
   obtain ⟨a, ha, hc⟩ := row_get hrow hx
   have hxk := mem_ofK.1 (List.mem_of_getElem? hx)
   rw [ha]
   simp only [NC_some]
   refine ⟨⟨by omega, by omega⟩, some ⟨x.blk, 0, none⟩, hc, _, H35.cell rfl, _, H35.cell rfl, _, H35.cell rfl, _, H35.cell rfl, ?_⟩
   simp only [NC_some]
   obtain ⟨jj, hj⟩ := List.mem_iff_getElem?.1 hxk.1
   have hnid : ((ofK L k).map (·.id)).Nodup := List.Nodup.sublist (List.filter_sublist.map _) hI.inv.nd
   have hnot : x.id ∉ ((ofK L k).take i).map (·.id) := fun hm => by
    obtain ⟨y, hy, e⟩ := List.mem_map.1 hm
    obtain ⟨n, hn⟩ := List.mem_iff_getElem?.1 hy
    rw [List.getElem?_take] at hn
    split at hn
    ·rename_i hni
     have e2 := map_inj hnid (List.mem_of_getElem? hn) (List.mem_of_getElem? hx) e
     subst e2
     have n1 := (List.getElem?_eq_some_iff.1 hn)
     have n2 := (List.getElem?_eq_some_iff.1 hx)
     have := (List.getElem_inj (h₀ := n1.1) (h₁ := n2.1) (nodup_of_map hnid)).1 (by rw [n1.2, n2.2])
     omega
    ·cases hn
   have H36 := (H35.front 7 rfl).manyGet hj
   have ei : itF E (fun x => decide (x.kd ∈ done) || decide (x.id ∈ ((ofK L k).take i).map (·.id))) x = Cells x.blk E.t_sets_item (itcells x) := by
    unfold itF
    rw [if_neg]
    ·rfl
    ·intro h
     rcases Bool.or_eq_true_iff.1 h with h | h
     ·have := of_decide_eq_true h
      rw [hxk.2] at this; exact hnd this
     ·exact hnot (of_decide_eq_true h)
   rw [ei] at H36
   rw [add_eq]
   refine st_many [.int .i64 (unsw k).1, .bool (unsw k).2.1, .bool (unsw k).2.2.1, .bool (unsw k).2.2.2] (0 + 2) 0 H36 (by simp [itcells]) (by simp [Value.oneCell']) fun w44 H44 => ?_
   have ec : List.take (0 + 2 + 0) (itcells x) ++ [.int .i64 (unsw k).1, .bool (unsw k).2.1, .bool (unsw k).2.2.1, .bool (unsw k).2.2.2] ++ List.drop (0 + 2 + 0 + [Value.int .i64 (unsw k).1, .bool (unsw k).2.1, .bool (unsw k).2.2.1, .bool (unsw k).2.2.2].length) (itcells x) = itcells x.flip := by
    rw [<- hxk.2]; rfl
   rw [ec] at H44
   have e3 : Cells x.blk E.t_sets_item (itcells x.flip) = itF E (fun x => decide (x.kd ∈ done) || decide (x.id ∈ ((ofK L k).take (i + 1)).map (·.id))) x := by
    unfold itF
    rw [if_pos]
    ·rfl
    ·rw [take_succ_get hx]; simp
   have e4 : Many (itF E fun x => decide (x.kd ∈ done) || decide (x.id ∈ ((ofK L k).take i).map (·.id))) (L.eraseIdx jj) = Many (itF E fun x => decide (x.kd ∈ done) || decide (x.id ∈ ((ofK L k).take (i + 1)).map (·.id))) (L.eraseIdx jj) := Many.congr fun y hy => by
    have hyL : y ∈ L := List.mem_of_mem_eraseIdx hy
    have hne : y.id ≠ x.id := fun e => nodup_er hLn hj (map_inj hI.inv.nd hyL hxk.1 e ▸ hy)
    unfold itF
    rw [take_succ_get hx, List.map_append]
    simp [hne]
   rw [e3, e4] at H44
   have H45 := Sat.back (Ps := _ :: _ :: _ :: _ :: _ :: _ :: _ :: _ :: Z) 7 (H44.manyBack hj)
   simp only [List.set_cons_succ, List.set_cons_zero] at H45
   refine ⟨⟨i + 1, by rw [i64_id (by omega) (by omega)]; rfl, by omega, H45⟩, ?_⟩
   rw [i64_id (by omega) (by omega)]
   omega
  ·have hi2 : i = (ofK L k).length := by omega
   have e5 : Many (itF E fun x => decide (x.kd ∈ done) || decide (x.id ∈ ((ofK L k).take i).map (·.id))) L = Many (itF E fun x => decide (x.kd ∈ done ++ [k])) L := Many.congr fun x hx => by
    unfold itF
    rw [hi2, List.take_length]
    have : (decide (x.kd ∈ done) || decide (x.id ∈ (ofK L k).map (·.id))) = decide (x.kd ∈ done ++ [k]) := by
     have hiff : x.id ∈ (ofK L k).map (·.id) ↔ x.kd = k := by
      rw [List.mem_map]
      constructor
      ·rintro ⟨y, hy, e⟩
       have hy := mem_ofK.1 hy
       rw [<- map_inj hI.inv.nd hy.1 hx e]; exact hy.2
      ·intro e; exact ⟨x, mem_ofK.2 ⟨hx, e⟩, rfl⟩
     rw [Bool.eq_iff_iff, Bool.or_eq_true, decide_eq_true_eq, decide_eq_true_eq, decide_eq_true_eq, hiff, List.mem_append, List.mem_singleton]
    simp only [this]
   rw [e5] at H35
   have hm : ∀ {w'} {Y}, Sat (RngA r8 g.bm (kdM g.kinds g.sl) (some k) (done ++ [k]) N2 :: Y) w' -> leftWA r8 g.bm w' < N' := fun h => by rw [h.rngLeftA]; exact hN
   refine CND_dec (fun hpos => ?_) fun hnp => ?_
   ·have hne : ofK L k ≠ [] := fun h => by rw [h] at hlen; simp at hlen; omega
    have hks : k.2.2.2 = true := by
     cases hq : ofK L k with
     | nil => exact absurd hq hne
     | cons x r =>
      have hx := mem_ofK.1 (show x ∈ ofK L k by rw [hq]; exact List.mem_cons_self)
      rw [<- hx.2]; exact hsw x hx.1
    refine ⟨_, H35.cell rfl, _, H35.cell rfl, _, H35.cell rfl, _, H35.cell rfl, MUPA_sl (n := unsw k) (H35.front 2 rfl) fun w49 H49 => ?_⟩
    have H50 := Sat.back (Ps := _ :: _ :: _ :: _ :: _ :: _ :: _ :: _ :: Z) 2 H49
    simp only [List.set_cons_succ, List.set_cons_zero] at H50
    have et := tmM_new (sl := g.sl) (done := done) hks hne
    unfold slV at et
    rw [et] at H50
    exact ⟨⟨_, _, _, H50.tail⟩, hm H50.tail⟩
   ·have he : ofK L k = [] := List.eq_nil_of_length_eq_zero (by omega)
    have H36 := H35.tail
    rw [<- tmM_same (sl := g.sl) (done := done) (.inr he)] at H36
    exact ⟨⟨_, _, _, H36⟩, hm H36⟩
end
end Go.Sh

set_option linter.all false
set_option maxRecDepth 8000
set_option maxHeartbeats 2000000
namespace Go.Sh
theorem NC_in {a : Addr} {K : Addr -> Prop} (h : K a) : NC (some a) K := by rw [NC_some]; exact h
def wordAt (U : Nat -> Bool) (k : Nat) : Int := W fun i => U (64 * k + i)
def wordsU (U : Nat -> Bool) (n : Nat) : List Int := (List.range n).map (wordAt U)
def rowBt (uw : List Int) (U : Nat -> Bool) : Prop := uw = wordsU U uw.length /\ ∀ i, 64 * uw.length <= i -> U i = false
theorem wordsU_len (U : Nat -> Bool) (n : Nat) : (wordsU U n).length = n := by simp [wordsU]
theorem wordsU_get {U : Nat -> Bool} {n k : Nat} (h : k < n) : (wordsU U n)[k]? = some (wordAt U k) := by simp [wordsU, h]
theorem rowBt_get {uw : List Int} {U : Nat -> Bool} (h : rowBt uw U) {k : Nat} (hk : k < uw.length) : (ints .u64 uw)[k]? = some (.int .u64 (wordAt U k)) := by
 rw [h.1]
 exact ints_get (wordsU_get hk)
theorem rowBt_mk {U : Nat -> Bool} {n : Nat} (h : ∀ i, 64 * n <= i -> U i = false) : rowBt (wordsU U n) U := by
 refine ⟨by rw [wordsU_len], ?_⟩
 rw [wordsU_len]; exact h
theorem rowBt_nil {U : Nat -> Bool} (h : ∀ i, U i = false) : rowBt [] U := ⟨rfl, fun i _ => h i⟩
theorem wordsU_congr {U V : Nat -> Bool} {n : Nat} (h : ∀ i, i < 64 * n -> U i = V i) : wordsU U n = wordsU V n := by
 unfold wordsU wordAt
 refine List.map_congr_left fun k hk => ?_
 rw [List.mem_range] at hk
 exact W_congr fun i hi => h _ (by omega)
theorem wordsU_set {U V : Nat -> Bool} {n k : Nat} (h : ∀ i, i / 64 ≠ k -> U i = V i) : (wordsU U n).set k (wordAt V k) = wordsU V n := by
 apply List.ext_getElem?
 intro j
 rw [List.getElem?_set]
 by_cases hj : j < n
 ·rw [wordsU_get hj, wordsU_get hj, wordsU_len]
  by_cases e : k = j
  ·subst e; rw [if_pos rfl, if_pos hj]
  ·rw [if_neg e]
   unfold wordAt
   congr 1
   exact W_congr fun i hi => h _ (by omega)
 ·rw [List.getElem?_eq_none (l := wordsU V n) (by rw [wordsU_len]; omega), List.getElem?_eq_none (l := wordsU U n) (by rw [wordsU_len]; omega), wordsU_len]
  split
  ·rw [if_neg (by omega)]
  ·rfl
theorem wordsU_snoc {U : Nat -> Bool} {n : Nat} (h : ∀ i, 64 * n <= i -> U i = false) : wordsU U n ++ [0] = wordsU U (n + 1) := by
 unfold wordsU
 rw [List.range_succ, List.map_append]
 congr 1
 have : wordAt U n = 0 := by
  unfold wordAt
  exact W_eq_zero.2 fun i _ => h _ (by omega)
 rw [List.map_singleton, this]
theorem gdiv {n : Nat} : Int.fdiv (n : Int) (2 ^ (min (Int.toNat 6) (IntKind.bits .i64))) = ((n / 64 : Nat) : Int) := by
 rw [show (2 : Int) ^ (min (Int.toNat 6) (IntKind.bits .i64)) = 64 by decide, Int.fdiv_eq_ediv_of_nonneg _ (by decide)]; omega
theorem gmod {n : Nat} (h : n < 9223372036854775808) : bitK .i64 0 (n : Int) 63 = ((n % 64 : Nat) : Int) := by
 show IntKind.wrap .i64 ((BitVec.ofInt 64 (n : Int) &&& BitVec.ofInt 64 63).toNat : Int) = _
 have e1 : (BitVec.ofInt 64 (n : Int)).toNat = n := by
  rw [BitVec.toNat_ofInt]; omega
 have e2 : (BitVec.ofInt 64 63).toNat = 63 := by decide
 rw [BitVec.toNat_and, e1, e2, show (63 : Nat) = 2 ^ 6 - 1 from rfl, Nat.and_two_pow_sub_one_eq_mod]
 have : n % 2 ^ 6 < 64 := Nat.mod_lt _ (by decide)
 exact i64_id (by omega) (by omega)
theorem gshl {n : Nat} (h : n < 1099511627776) : i64 ((n : Int) * 2 ^ (min (Int.toNat 6) (IntKind.bits .i64))) = ((64 * n : Nat) : Int) := by
 rw [show (2 : Int) ^ (min (Int.toNat 6) (IntKind.bits .i64)) = 64 by decide, i64_id (by omega) (by omega)]; omega
section
variable {E : Env} {w : World} {Z : List Pr} {s : SlV} {uw : List Int} {U : Nat -> Bool}
theorem rowBt_slen (H : Sat (Row E.t_uint64 1 s (ints .u64 uw) :: Z) w) : uw.length = s.len /\ s.len <= s.cap /\ s.cap < 9223372036854775808 := by
 have hl := H.rowLen
 simp only [ints, List.length_map] at hl
 exact ⟨by omega, H.own.cap, H.own.top⟩
theorem rowBt_cell (H : Sat (Row E.t_uint64 1 s (ints .u64 uw) :: Z) w) (hU : rowBt uw U) {k : Nat} (hk : k < uw.length) : ∃ b, s.base = some ⟨b, 0, none⟩ /\ w.cell? ((Addr.mk b 0 none).add (k * 1)) = some (.int .u64 (wordAt U k)) := by
 have h := rowBt_slen H
 obtain ⟨b, hb⟩ := H.own.base_of (by omega)
 exact ⟨b, hb, by rw [Nat.mul_one]; exact H.own.cell hb (rowBt_get hU hk)⟩
theorem rowBt_getS (H : Sat (Row E.t_uint64 1 s (ints .u64 uw) :: Z) w) (hU : rowBt uw U) {n : Nat} (hn : n < 1099511627776) {K : Bool -> World -> Prop} (hK : K (U n) w) : F._span_row_get E s n K w := by
 unfold F._span_row_get
 have hl := rowBt_slen H
 rw [gdiv, gmod (by omega)]
 refine ⟨by decide, CND_dec (fun g => ⟨by decide, ?_⟩) fun g => ?_⟩
 ·obtain ⟨b, hb, hc⟩ := rowBt_cell H hU (k := n / 64) (by omega)
  rw [hb, Int.toNat_natCast]
  simp only [NC_some]
  refine ⟨⟨by omega, by omega⟩, _, hc, by omega, ?_⟩
  unfold wordAt
  rw [W_get _ (by omega) (by omega), Int.toNat_natCast, show 64 * (n / 64) + n % 64 = n by omega]
  cases hu : U n
  ·rw [hu] at hK; exact hK
  ·rw [hu] at hK; exact hK
 ·rw [hU.2 n (by omega)] at hK; exact hK
theorem rowBt_freeS (hT : TabAt E.g_math_bits_deBruijn64tab w) (H : Sat (Row E.t_uint64 1 s (ints .u64 uw) :: Z) w) (hU : rowBt uw U) {n : Nat} (hn : n < 1099511627776) (hs : s.len < 1099511627776) {K : Int -> World -> Prop}
  (hK : ∀ r : Nat, n <= r -> U r = false -> (∀ i, n <= i -> i < r -> U i = true) -> K r w) : F._span_row_free E s n K w := by
 unfold F._span_row_free T0._span_row_free
 have hl := rowBt_slen H
 rw [gdiv, gmod (by omega), W_low_mask (by omega)]
 refine ⟨by decide, LET_intro fun k hk => ?_⟩
 subst hk
 refine LOOP_intro (fun st w' => w' = w /\ ∃ k : Nat, st.1 = (k : Int) /\ n / 64 <= k /\ (k <= uw.length ∨ k = n / 64) /\ ∀ i, n <= i -> i < 64 * k -> U i = true) (fun st _ => ((uw.length : Int) - st.1).toNat) ⟨rfl, n / 64, rfl, Nat.le_refl _, .inr rfl, fun i h1 h2 => by omega⟩ ?_
 rintro ⟨k', u⟩ _ w3 ⟨rfl, k, hk, k1, k2, k3⟩
 dsimp only at hk ⊢
 subst hk
 refine CND_dec (fun g => ?_) fun g => ⟨by decide, LET_intro fun t ht => ?_⟩
 ·obtain ⟨b, hb, hc⟩ := rowBt_cell H hU (k := k) (by omega)
  rw [hb]
  simp only [NC_some]
  refine ⟨⟨by omega, by omega⟩, _, by rw [Int.toNat_natCast]; exact hc, ?_⟩
  have main : ∀ V : Nat -> Bool, (∀ i, i < 64 -> (V i = true ↔ U (64 * k + i) = true ∨ 64 * k + i < n)) -> CND (W V != 18446744073709551615)
    ((0 : Int) <= 6 /\ F.math_bits_TrailingZeros64 E (bitK .u64 2 18446744073709551615 (W V)) (fun r11 w12 => LET (i64 ((i64 ((k : Int) * 2 ^ (min (Int.toNat 6) (IntKind.bits .i64)))) + r11) : Int) fun t13 => K t13 w12) w3)
    (((w3 = w3 /\ ∃ k_1 : Nat, i64 ((k : Int) + 1) = (k_1 : Int) /\ n / 64 <= k_1 /\ (k_1 <= uw.length ∨ k_1 = n / 64) /\ ∀ i, n <= i -> i < 64 * k_1 -> U i = true) /\ ((uw.length : Int) - i64 ((k : Int) + 1)).toNat < ((uw.length : Int) - (k : Int)).toNat)) := fun V hV => by
   refine CND_ne (fun hne => ⟨by decide, ?_⟩) fun he => ?_
   ·rw [W_not]
    refine tz64_spec hT (fun hall => ?_) fun r hr h1 h2 => LET_intro fun t ht => ?_
    ·exfalso
     refine hne ?_
     rw [<- W_ones]
     refine W_congr fun i hi => ?_
     have := hall i hi
     simpa using this
    ·have : t = ((64 * k + r : Nat) : Int) := by
      rw [ht, gshl (by omega), i64_id (by omega) (by omega)]; omega
     rw [this]
     have h1' : ¬ (U (64 * k + r) = true ∨ 64 * k + r < n) := fun h => by rw [(hV r hr).2 h] at h1; cases h1
     have hr0 : U (64 * k + r) = false := by
      cases e : U (64 * k + r) with
      | false => rfl
      | true => exact absurd (.inl e) h1'
     refine hK _ (by omega) hr0 fun i i1 i2 => ?_
     by_cases e : i < 64 * k
     ·exact k3 i i1 e
     ·have h4 : V (i - 64 * k) = true := by
       have := h2 (i - 64 * k) (by omega)
       simpa using this
      rcases (hV _ (by omega)).1 h4 with q | q
      ·rwa [show 64 * k + (i - 64 * k) = i by omega] at q
      ·omega
   ·rw [show i64 ((k : Int) + 1) = ((k + 1 : Nat) : Int) by rw [i64_id (by omega) (by omega)]; rfl]
    refine ⟨⟨rfl, k + 1, rfl, by omega, .inl (by omega), fun i i1 i2 => ?_⟩, by omega⟩
    by_cases e : i < 64 * k
    ·exact k3 i i1 e
    ·rw [<- W_ones] at he
     have := W_inj he (i := i - 64 * k) (by omega)
     rcases (hV _ (by omega)).1 this with q | q
     ·rwa [show 64 * k + (i - 64 * k) = i by omega] at q
     ·omega
  refine JOIN_in ⟨by decide, CND_eq (fun e => ⟨by omega, LET_intro fun t ht j => ?_⟩) fun e j => ?_⟩
  ·unfold wordAt at ht
   rw [W_or] at ht
   subst ht
   refine main _ fun i hi => ?_
   rw [Bool.or_eq_true, decide_eq_true_eq]
   have : k = n / 64 := by omega
   constructor
   ·rintro (h | h)
    ·exact .inl h
    ·exact .inr (by omega)
   ·rintro (h | h)
    ·exact .inl h
    ·exact .inr (by omega)
  ·refine main (fun i => U (64 * k + i)) fun i hi => ⟨.inl, fun h => ?_⟩
   rcases h with h | h
   ·exact h
   ·omega
 ·rw [<- hl.1, gshl (by omega)] at ht
  unfold maxI at ht
  by_cases e : 64 * uw.length <= n
  ·have : t = (n : Int) := by rw [ht]; split <;> omega
   rw [this]
   exact hK n (Nat.le_refl _) (hU.2 n e) fun i i1 i2 => by omega
  ·have : t = ((64 * uw.length : Nat) : Int) := by rw [ht]; split <;> omega
   rw [this]
   exact hK _ (by omega) (hU.2 _ (Nat.le_refl _)) fun i i1 i2 => k3 i i1 (by omega)
theorem rowBt_setS {b t : Nat} {cs : List Value} {o : Nat} (hcs : o < cs.length) (H : Sat (Cells b t (cs.set o (slV s)) :: Row E.t_uint64 1 s (ints .u64 uw) :: Z) w) (hU : rowBt uw U) (hs : uw.length < 1099511627776) {n : Nat} (hn : n < 1099511627776) {K : World -> Prop}
  (hK : ∀ s' uw' w', rowBt uw' (fun i => U i || i == n) -> uw'.length = max uw.length (n / 64 + 1) -> Sat (Cells b t (cs.set o (slV s')) :: Row E.t_uint64 1 s' (ints .u64 uw') :: Z) w' -> K w') : F.span_row_set E (some ((Addr.mk b 0 none).add o)) n K w := by
 unfold F.span_row_set
 rw [gdiv, gmod (by omega), W_bit (by omega)]
 refine LOOP_intro (fun _ w' => ∃ s uw', rowBt uw' U /\ (uw'.length = uw.length ∨ (uw.length <= uw'.length /\ uw'.length <= n / 64 + 1)) /\ Sat (Cells b t (cs.set o (slV s)) :: Row E.t_uint64 1 s (ints .u64 uw') :: Z) w') (fun _ w' => match w'.cell? ((Addr.mk b 0 none).add o) with | some (.slice _ l _) => n / 64 + 1 - l | _ => 0) ⟨s, uw, hU, .inl rfl, H⟩ ?_
 rintro u _ w2 ⟨s, uw2, hU2, hlen, H2⟩
 have hc : ∀ {s : SlV}, (cs.set o (slV s))[0 + o]? = some (slV s) := fun {s} => by rw [Nat.zero_add, List.getElem?_set_self hcs]
 have hcell : ∀ {s : SlV} {w'} {Y}, Sat (Cells b t (cs.set o (slV s)) :: Y) w' -> w'.cell? ((Addr.mk b 0 none).add o) = some (.slice s.base s.len s.cap) := fun h => h.cell hc
 have hl := rowBt_slen (H2.front 1 rfl)
 have hm : ∀ {s : SlV} {w'} {Y}, Sat (Cells b t (cs.set o (slV s)) :: Y) w' -> (match w'.cell? ((Addr.mk b 0 none).add o) with | some (.slice _ l _) => n / 64 + 1 - l | _ => 0 : Nat) = n / 64 + 1 - s.len := fun h => by rw [hcell h]
 simp only [NC_some]
 refine ⟨by decide, s, hcell H2, CND_dec (fun g => ?_) fun g => ?_⟩
 ·refine ⟨s, hcell H2, AL_cells (vs := [.int .u64 0]) H2 fun b8 w9 H9 _ => ?_⟩
  refine APP_one (zs := #[.int .u64 0]) (bytes := 8) (H9.front2 1 rfl) rfl rfl (by simp [Value.oneCell']) (by omega) (by omega) fun s10 w11 H11 hl10 => ?_
  refine st_cell (H11.front 1 rfl) (v := slV s10) (o := 0) (m := o) rfl (by rw [List.length_set]; omega) fun w13 H13 => ?_
  rw [Nat.zero_add, List.set_set] at H13
  have e : ints .u64 uw2 ++ [.int .u64 0] = ints .u64 (wordsU U (uw2.length + 1)) := by
   rw [<- wordsU_snoc hU2.2, <- hU2.1]; simp [ints]
  rw [e] at H13
  refine ⟨⟨s10, wordsU U (uw2.length + 1), rowBt_mk fun i hi => hU2.2 i (by omega), by rw [wordsU_len]; omega, H13⟩, ?_⟩
  rw [hm H13, hm H2, hl10]; omega
 ·have H3 := H2.drew
  refine ⟨s, hcell H3, by decide, ?_⟩
  obtain ⟨a, ha, hca⟩ := rowBt_cell (H3.front 1 rfl) hU2 (k := n / 64) (by omega)
  rw [ha, Int.toNat_natCast]
  simp only [NC_some]
  refine ⟨⟨by omega, by omega⟩, _, hca, by omega, ⟨by omega, by omega⟩, ?_⟩
  have ew : bitK .u64 1 (wordAt U (n / 64)) (W fun i => i == n % 64) = wordAt (fun i => U i || i == n) (n / 64) := by
   unfold wordAt
   rw [W_or]
   refine W_congr fun i hi => ?_
   congr 1
   rw [Bool.eq_iff_iff, beq_iff_eq, beq_iff_eq]
   omega
  rw [ew, Nat.mul_one]
  refine st_row (H3.front 1 rfl) (j := n / 64) rfl (by simp [ints]; omega) ha fun w19 H19 => ?_
  have e2 : (ints .u64 uw2).set (n / 64) (.int .u64 (wordAt (fun i => U i || i == n) (n / 64))) = ints .u64 (wordsU (fun i => U i || i == n) uw2.length) := by
   rw [hU2.1, wordsU_len, <- wordsU_set (U := U) (k := n / 64) (V := fun i => U i || i == n) fun i hi => by
    have : (i == n) = false := by
     have : i ≠ n := fun e => hi (by rw [e])
     simpa using this
    rw [this, Bool.or_false]]
   simp only [ints, List.map_set]
  rw [e2] at H19
  refine hK s _ w19 (rowBt_mk fun i hi => ?_) (by rw [wordsU_len]; omega) (H19.front 1 rfl)
  have : (i == n) = false := by
   have : i ≠ n := by omega
   simpa using this
  rw [hU2.2 i hi, this]; rfl
end
end Go.Sh

set_option linter.all false
set_option maxRecDepth 8000
set_option maxHeartbeats 2000000
namespace Go.Sh
theorem cN_stay {U : Nat -> Bool} {n : Nat} (h : ∀ i, n <= i -> U i = false) : ∀ m, cN U (n + m) = cN U n
 | 0 => rfl
 | m + 1 => by
  show cN U (n + m) + (U (n + m)).toNat = _
  rw [cN_stay h m, h _ (by omega)]; rfl
theorem cN_any {U : Nat -> Bool} {n m : Nat} (h1 : ∀ i, n <= i -> U i = false) (h2 : ∀ i, m <= i -> U i = false) : cN U n = cN U m := by
 rcases Nat.le_total n m with h | h
 ·have := cN_stay h1 (m - n); rw [show n + (m - n) = m by omega] at this; exact this.symm
 ·have := cN_stay h2 (n - m); rw [show m + (n - m) = n by omega] at this; exact this
structure SpG (S : SI) (U M : Nat -> Bool) : Prop where
 uw : rowBt S.uw U
 mw : rowBt S.mw M
 lu : (S.uw.length : Int) * 64 <= S.slots + 63
 lm : (S.mw.length : Int) * 64 <= S.slots + 63
 lim : ∀ i : Nat, U i = true -> (i : Int) < S.slots
 mlim : ∀ i : Nat, M i = true -> (i : Int) < S.slots
 sl : 0 <= S.slots /\ S.slots <= 1048576
 cnt : S.used = (cN U S.slots.toNat : Nat)
 look : 0 <= S.look /\ S.look <= S.slots /\ ∀ i : Nat, (i : Int) < S.look -> U i = true
theorem SpG.out {S : SI} {U M : Nat -> Bool} (h : SpG S U M) (i : Nat) (hi : S.slots.toNat <= i) : U i = false := by
 cases e : U i with
 | false => rfl
 | true => have := h.lim i e; have := h.sl; omega
theorem SpG.next {S : SI} {U M : Nat -> Bool} (h : SpG S U M) {n : Nat} (hn : (n : Int) < S.slots) (hu : U n = false) (hl : ∀ i, i < n -> U i = true) {uw' : List Int} (h1 : rowBt uw' fun i => U i || i == n) (h2 : uw'.length = max S.uw.length (n / 64 + 1)) :
  SpG { S with uw := uw', used := S.used + 1, look := (n : Int) + 1 } (fun i => U i || i == n) M := by
 have hs := h.sl
 have h3 := h.lu
 refine ⟨h1, h.mw, by show (uw'.length : Int) * 64 <= S.slots + 63; omega, h.lm, fun i hi => ?_, h.mlim, h.sl, ?_, ⟨by show (0 : Int) <= (n : Int) + 1; omega, by show (n : Int) + 1 <= S.slots; omega, fun i hi => ?_⟩⟩
 ·rw [Bool.or_eq_true, beq_iff_eq] at hi
  rcases hi with hi | rfl
  ·exact h.lim i hi
  ·exact hn
 ·show S.used + 1 = _
  rw [cN_set hu, if_pos (by show n < S.slots.toNat; omega), h.cnt]; rfl
 ·have hi : (i : Int) < (n : Int) + 1 := hi
  rw [Bool.or_eq_true, beq_iff_eq]
  by_cases e : i = n
  ·exact .inr e
  ·exact .inl (hl i (by omega))
theorem SpG.mark {S : SI} {U M : Nat -> Bool} (h : SpG S U M) {n : Nat} (hn : (n : Int) < S.slots) {mw' : List Int} (h1 : rowBt mw' fun i => M i || i == n) (h2 : mw'.length = max S.mw.length (n / 64 + 1)) :
  SpG { S with mw := mw' } U (fun i => M i || i == n) := by
 have hs := h.sl
 have h3 := h.lm
 refine ⟨h.uw, h1, h.lu, by show (mw'.length : Int) * 64 <= S.slots + 63; omega, h.lim, fun i hi => ?_, h.sl, h.cnt, h.look⟩
 rw [Bool.or_eq_true, beq_iff_eq] at hi
 rcases hi with hi | rfl
 ·exact h.mlim i hi
 ·exact hn
theorem SpG.used_le {S : SI} {U M : Nat -> Bool} (h : SpG S U M) : 0 <= S.used /\ S.used <= S.slots := by
 have := cN_le U S.slots.toNat
 have := h.sl
 rw [h.cnt]; omega
section
variable {E : Env} {w : World} {Z : List Pr} {b : Nat} {S : SI} {U M : Nat -> Bool}
theorem spnextG_spec (hT : TabAt E.g_math_bits_deBruijn64tab w) (H : Sat (SpanP E b S :: Z) w) (hU : SpG S U M) (hst : S.state ≠ 0) {K : Int -> Int -> World -> Prop}
  (hk0 : (∀ i : Nat, (i : Int) < S.slots -> U i = true) -> ∀ w', Sat (SpanP E b S :: Z) w' -> K 0 30 w')
  (hk1 : ∀ (n : Nat) uw', (n : Int) < S.slots -> U n = false -> (∀ i, i < n -> U i = true) -> SpG { S with uw := uw', used := S.used + 1, look := (n : Int) + 1 } (fun i => U i || i == n) M ->
   ∀ w', Sat (SpanP E b { S with uw := uw', used := S.used + 1, look := (n : Int) + 1 } :: Z) w' -> K n 0 w') : F.span_Span_Next E (some ⟨b, 0, none⟩) K w := by
 obtain ⟨su, sm, H⟩ := Sat.span.1 H
 unfold F.span_Span_Next T0.span_Span_Next
 simp only [NC_some]
 have hs := hU.sl
 obtain ⟨l0, l1, l2⟩ := hU.look
 obtain ⟨k, hk⟩ := Int.eq_ofNat_of_zero_le l0
 have Hd : Sat (spres E b S su sm ++ Z) w.drew := H.drew
 refine ⟨_, H.cell rfl, CND_eq (fun e => absurd e hst) fun _ => ⟨su, Hd.cell rfl, _, Hd.cell rfl, ?_⟩⟩
 rw [hk]
 have hlu := hU.lu
 have hsl := rowBt_slen (Hd.front 1 rfl)
 refine rowBt_freeS (hT.ext (Ext.drew _ _)) (Hd.front 1 rfl) hU.uw (by omega) (by omega) fun r r1 r2 r4 => ⟨_, Hd.cell rfl, ?_⟩
 have below : ∀ i, i < r -> U i = true := fun i hi => by
  by_cases e : i < k
  ·exact l2 i (by omega)
  ·exact r4 i (by omega) hi
 refine CND_dec (fun g => hk0 (fun i hi => below i (by omega)) _ (Sat.span.2 ⟨su, sm, Hd⟩)) fun g => ?_
 have hr : (r : Int) < S.slots := by omega
 have H1 : Sat (Cells b E.t_span_Span ((sicells S su sm).set 11 (slV su)) :: Row E.t_uint64 1 su (ints .u64 S.uw) :: Row E.t_uint64 1 sm (ints .u64 S.mw) :: Z) w.drew := Hd
 refine rowBt_setS (by simp [sicells]) H1 hU.uw (by omega) (by omega) fun s' uw' w12 hB hln H12 => ?_
 have hul := hU.used_le
 refine ⟨S.used, H12.cell rfl, ?_⟩
 rw [i64_id (n := S.used + 1) (by omega) (by omega), i64_id (n := (r : Int) + 1) (by omega) (by omega)]
 refine st_cell H12 (o := 0) (m := 7) rfl (by simp [sicells]) fun w16 H16 => st_cell H16 (o := 0) (m := 13) rfl (by simp [sicells]) fun w18 H18 => ?_
 exact hk1 r uw' hr r2 below (hU.next hr r2 below hB hln) w18 (Sat.span.2 ⟨s', sm, H18⟩)
theorem spthere_cases (H : Sat (SpanP E b S :: Z) w) {i : Int} {K : Bool -> World -> Prop} (h1 : 0 <= i /\ i < S.slots -> K true w) (h2 : ¬ (0 <= i /\ i < S.slots) -> K false w) : F.span_Span_there E (some ⟨b, 0, none⟩) i K w := by
 refine spthere_spec H ?_
 by_cases g : 0 <= i /\ i < S.slots
 ·rw [decide_eq_true g]; exact h1 g
 ·rw [decide_eq_false g]; exact h2 g
theorem spused_spec (H : Sat (SpanP E b S :: Z) w) (hU : SpG S U M) {n : Nat} (hn : (n : Int) < S.slots) {K : Bool -> World -> Prop} (hK : K (U n) w) : F.span_Span_Used E (some ⟨b, 0, none⟩) n K w := by
 have H0 := H
 obtain ⟨su, sm, H⟩ := Sat.span.1 H
 unfold F.span_Span_Used T0.span_Span_Used
 simp only [NC_some]
 have hs := hU.sl
 refine spthere_cases H0 (fun _ => CND_t rfl ⟨su, H.cell rfl, ?_⟩) fun g => absurd (by omega) g
 exact rowBt_getS (H.front 1 rfl) hU.uw (by omega) hK
theorem spmarked_spec (H : Sat (SpanP E b S :: Z) w) (hU : SpG S U M) {n : Nat} (hn : (n : Int) < S.slots) {K : Bool -> World -> Prop} (hK : K (M n) w) : F.span_Span_Marked E (some ⟨b, 0, none⟩) n K w := by
 have H0 := H
 obtain ⟨su, sm, H⟩ := Sat.span.1 H
 unfold F.span_Span_Marked T0.span_Span_Marked
 simp only [NC_some]
 have hs := hU.sl
 refine spthere_cases H0 (fun _ => CND_t rfl ⟨sm, H.cell rfl, ?_⟩) fun g => absurd (by omega) g
 exact rowBt_getS (H.front 2 rfl) hU.mw (by omega) hK
theorem spmark_spec (H : Sat (SpanP E b S :: Z) w) (hU : SpG S U M) (hst : S.state = 1) {n : Nat} (hn : (n : Int) < S.slots) {K : Int -> World -> Prop}
  (hK : ∀ mw', SpG { S with mw := mw' } U (fun i => M i || i == n) -> ∀ w', Sat (SpanP E b { S with mw := mw' } :: Z) w' -> K 0 w') : F.span_Span_Mark E (some ⟨b, 0, none⟩) n K w := by
 have H0 := H
 obtain ⟨su, sm, H⟩ := Sat.span.1 H
 unfold F.span_Span_Mark T0.span_Span_Mark
 simp only [NC_some]
 have hs := hU.sl
 have hlm := hU.lm
 refine ⟨_, H.cell rfl, CND_ne (fun g => absurd hst g) fun _ => spthere_cases H0 (fun _ => CND_f rfl ?_) fun g => absurd (by omega) g⟩
 have H1 : Sat (Cells b E.t_span_Span ((sicells S su sm).set 12 (slV sm)) :: Row E.t_uint64 1 sm (ints .u64 S.mw) :: Row E.t_uint64 1 su (ints .u64 S.uw) :: Z) w := H.perm (.cons _ (.swap _ _ _))
 refine rowBt_setS (by simp [sicells]) H1 hU.mw (by omega) (by omega) fun s' mw' w12 hB hln H12 => ?_
 exact hK mw' (hU.mark hn hB hln) w12 (Sat.span.2 ⟨su, s', H12.perm (.cons _ (.swap _ _ _))⟩)
theorem bit_word {V : Nat -> Bool} {k i : Nat} : wordAt V k = 0 -> i / 64 = k -> V i = false := fun h hi => by
 have := W_eq_zero.1 h (i % 64) (by omega)
 rwa [show 64 * k + i % 64 = i by omega] at this
theorem spzombie_spec (H : Sat (SpanP E b S :: Z) w) (hU : SpG S U M) {K : Bool -> World -> Prop} (hk1 : (∃ i, M i = true /\ U i = false) -> K true w) (hk0 : (∀ i, M i = true -> U i = true) -> K false w) : F.span_Span_Zombie E (some ⟨b, 0, none⟩) K w := by
 obtain ⟨su, sm, H⟩ := Sat.span.1 H
 unfold F.span_Span_Zombie
 simp only [NC_some]
 have hs := hU.sl
 have hlu := hU.lu
 have hlm := hU.lm
 have l1 := rowBt_slen (H.front 1 rfl)
 have l2 := rowBt_slen (H.front 2 rfl)
 refine ⟨sm, H.cell rfl, ?_⟩
 refine LOOP_intro (fun st w' => w' = w /\ ∃ k : Nat, st.1 = (k : Int) /\ ∀ i, i < 64 * k -> M i = true -> U i = true) (fun st _ => ((S.mw.length : Int) - st.1).toNat) ⟨rfl, 0, rfl, fun i hi => by omega⟩ ?_
 rintro ⟨k', u⟩ _ w3 ⟨rfl, k, hk, k1⟩
 dsimp only at hk ⊢
 subst hk
 refine CND_dec (fun g => ?_) fun g => hk0 fun i hi => ?_
 ·obtain ⟨c, hc, hcc⟩ := rowBt_cell (H.front 2 rfl) hU.mw (k := k) (by omega)
  rw [hc]
  simp only [NC_some]
  refine ⟨⟨by omega, by omega⟩, _, by rw [Int.toNat_natCast]; exact hcc, ?_⟩
  have main : ∀ v : Int, v = wordAt (fun i => M i && !U i) k -> CND (v != 0) (K true w3) ((w3 = w3 /\ ∃ k_1 : Nat, i64 ((k : Int) + 1) = (k_1 : Int) /\ ∀ i, i < 64 * k_1 -> M i = true -> U i = true) /\ ((S.mw.length : Int) - i64 ((k : Int) + 1)).toNat < ((S.mw.length : Int) - (k : Int)).toNat) := fun v hv => by
   refine CND_ne (fun hne => ?_) fun he => ?_
   ·obtain ⟨c, c1, c2, _⟩ := W_lowest (by rw [hv] at hne; exact hne)
    rw [Bool.and_eq_true, Bool.not_eq_true'] at c2
    exact hk1 ⟨_, c2⟩
   ·rw [show i64 ((k : Int) + 1) = ((k + 1 : Nat) : Int) by rw [i64_id (by omega) (by omega)]; rfl]
    refine ⟨⟨rfl, k + 1, rfl, fun i hi hm => ?_⟩, by omega⟩
    by_cases e : i < 64 * k
    ·exact k1 i e hm
    ·have := bit_word (hv ▸ he) (show i / 64 = k by omega)
     cases hu : U i with
     | true => rfl
     | false => rw [hm, hu] at this; cases this
  refine JOIN_in ⟨su, H.cell rfl, CND_dec (fun g2 => ?_) fun g2 j => main _ ?_⟩
  ·obtain ⟨d, hd, hdc⟩ := rowBt_cell (H.front 1 rfl) hU.uw (k := k) (by omega)
   refine ⟨su, H.cell rfl, ?_⟩
   rw [hd]
   refine NC_in ⟨⟨by omega, by omega⟩, _, by rw [Int.toNat_natCast]; exact hdc, fun j => main _ ?_⟩
   unfold wordAt
   rw [W_andNot]
  ·unfold wordAt
   refine W_congr fun i hi => ?_
   show M _ = (M _ && !U _)
   rw [hU.uw.2 _ (by omega)]; simp
 ·by_cases e : i < 64 * k
  ·exact k1 i e hi
  ·rw [hU.mw.2 i (by omega)] at hi; cases hi
def magOk (S : SI) : Prop := 0 <= S.magic /\ S.magic < 4294967296 /\ (0 < S.magic -> S.slots * S.elem < 4294967296 /\ ∀ off : Int, 0 <= off -> off < S.slots * S.elem -> off * S.magic / 4294967296 = off / S.elem)
theorem spindexG_spec (H : Sat (SpanP E b S :: Z) w) (hm : magOk S) (he : 0 < S.elem) (he2 : S.elem <= 2199023255552) (hs : 0 <= S.slots /\ S.slots <= 1048576) (hb : 0 <= S.base /\ S.base <= 281474976710656) {a : Int} (ha : 0 <= a /\ a < 18446744073709551616) {K : Int -> Int -> World -> Prop}
  (hk0 : ¬ (S.base <= a /\ a < S.base + S.slots * S.elem) -> ∀ w', Sat (SpanP E b S :: Z) w' -> K 0 10 w') (hk1 : S.base <= a -> a < S.base + S.slots * S.elem -> ∀ w', Sat (SpanP E b S :: Z) w' -> K ((a - S.base) / S.elem) 0 w') : F.span_Span_Index E (some ⟨b, 0, none⟩) a K w := by
 obtain ⟨su, sm, H⟩ := Sat.span.1 H
 unfold F.span_Span_Index T0.span_Span_Index
 simp only [NC_some]
 have Hd : Sat (spres E b S su sm ++ Z) w.drew := H.drew
 have hb0 : Sat (SpanP E b S :: Z) w.drew := Sat.span.2 ⟨su, sm, Hd⟩
 have h2 : S.slots * S.elem <= 1048576 * 2199023255552 := Int.mul_le_mul hs.2 he2 (by omega) (by decide)
 have h3 : 0 <= S.slots * S.elem := Int.mul_nonneg hs.1 (by omega)
 have e1 : u64 (u64 S.slots * u64 S.elem) = S.slots * S.elem := by rw [u64_id (n := S.slots) (by omega) (by omega), u64_id (n := S.elem) (by omega) (by omega), u64_id (by omega) (by omega)]
 refine JOIN_in ⟨_, Hd.cell0 rfl, CND_dec (fun g j => CND_t rfl (hk0 (fun h => by omega) _ hb0)) fun g1 => ⟨_, Hd.cell0 rfl, _, Hd.cell rfl, _, Hd.cell rfl, fun j => ?_⟩⟩
 rw [e1, u64_id (n := a - S.base) (by omega) (by omega)]
 refine CND_dec (fun g => hk0 (fun h => by omega) _ hb0) fun g2 => ⟨_, Hd.cell0 rfl, _, Hd.cell rfl, ?_⟩
 have hq : 0 <= (a - S.base) / S.elem /\ (a - S.base) / S.elem <= a - S.base := ⟨Int.ediv_nonneg (by omega) (by omega), Int.ediv_le_self _ (by omega)⟩
 rw [u64_id (n := a - S.base) (by omega) (by omega)]
 refine CND_dec (fun g => ⟨_, Hd.cell rfl, ?_⟩) fun g => ⟨_, Hd.cell rfl, ?_⟩
 ·obtain ⟨m0, m1, m2⟩ := hm
  obtain ⟨m3, m4⟩ := m2 g
  unfold F.num_Quot
  refine ⟨by decide, LET_intro fun t ht => ?_⟩
  have w32 : ∀ {n : Int}, 0 <= n -> n < 4294967296 -> IntKind.wrap .u32 n = n := fun {n} h0 h1 => by
   show n % _ = n
   exact Int.emod_eq_of_lt h0 h1
  have hx : 0 <= (a - S.base) * S.magic /\ (a - S.base) * S.magic < 18446744073709551616 := by
   refine ⟨Int.mul_nonneg (by omega) m0, ?_⟩
   have : (a - S.base) * S.magic <= 4294967295 * 4294967295 := Int.mul_le_mul (by omega) (by omega) m0 (by decide)
   omega
  rw [w32 (n := a - S.base) (by omega) (by omega), u64_id (n := a - S.base) (by omega) (by omega), u64_id (n := S.magic) (by omega) (by omega), u64_id hx.1 hx.2,
   show (2 : Int) ^ (min (Int.toNat 32) (IntKind.bits .u64)) = 4294967296 by decide, Int.fdiv_eq_ediv_of_nonneg _ (by decide), m4 _ (by omega) (by omega), w32 (by omega) (by omega)] at ht
  rw [ht]
  show K (i64 _) 0 _
  rw [i64_id (by omega) (by omega)]
  exact hk1 (by omega) (by omega) _ hb0
 ·rw [u64_id (n := S.elem) (by omega) (by omega), Int.tdiv_eq_ediv_of_nonneg (by omega)]
  refine ⟨by omega, LET_intro fun t ht => ?_⟩
  have : t = (a - S.base) / S.elem := by rw [ht, u64_id (by omega) (by omega), i64_id (by omega) (by omega)]
  rw [this]
  exact hk1 (by omega) (by omega) _ hb0
end
end Go.Sh

set_option linter.all false
set_option maxRecDepth 8000
set_option maxHeartbeats 2000000
namespace Go.Sh
def freedL (F : Nat -> Bool) (m : Nat) : List Int := ((List.range m).filter F).map fun i : Nat => (i : Int)
theorem freedL_len (F : Nat -> Bool) : ∀ m, (freedL F m).length = cN F m
 | 0 => rfl
 | m + 1 => by
  have ih := freedL_len F m
  unfold freedL at ih ⊢
  rw [List.length_map] at ih ⊢
  rw [List.range_succ, List.filter_append, List.length_append, ih]
  show _ = cN F m + (F m).toNat
  cases h : F m <;> simp [h]
theorem freedL_skip {F : Nat -> Bool} {m : Nat} : ∀ {n : Nat}, (∀ i, m <= i -> i < m + n -> F i = false) -> freedL F (m + n) = freedL F m
 | 0, _ => rfl
 | n + 1, h => by
  have ih := freedL_skip (F := F) (m := m) (n := n) fun i h1 h2 => h i h1 (by omega)
  unfold freedL at ih ⊢
  rw [show m + (n + 1) = m + n + 1 by omega, List.range_succ, List.filter_append, List.map_append, ih, List.filter_cons_of_neg (by rw [h _ (by omega) (by omega)]; decide)]
  simp
theorem freedL_one {F : Nat -> Bool} {m n : Nat} (hmn : m <= n) (h : ∀ i, m <= i -> i < n -> F i = false) (hn : F n = true) : freedL F (n + 1) = freedL F m ++ [(n : Int)] := by
 have e := freedL_skip (F := F) (m := m) (n := n - m) fun i h1 h2 => h i h1 (by omega)
 rw [show m + (n - m) = n by omega] at e
 unfold freedL at e ⊢
 rw [List.range_succ, List.filter_append, List.map_append, e, List.filter_cons_of_pos hn]
 simp
theorem cN_split (U M : Nat -> Bool) : ∀ n, cN U n = cN (fun i => U i && M i) n + cN (fun i => U i && !M i) n
 | 0 => rfl
 | n + 1 => by
  show cN U n + (U n).toNat = cN _ n + (U n && M n).toNat + (cN _ n + (U n && !M n).toNat)
  have := cN_split U M n
  cases U n <;> cases M n <;> simp <;> omega
def sweptI (S : SI) (uw' : List Int) (U M : Nat -> Bool) : SI := { S with uw := uw', mw := [], used := (cN (fun i => U i && M i) S.slots.toNat : Nat), look := 0 }
theorem SpG.swept {S : SI} {U M : Nat -> Bool} (h : SpG S U M) {uw' : List Int} (h1 : rowBt uw' fun i => U i && M i) (h2 : uw'.length = S.uw.length) : SpG (sweptI S uw' U M) (fun i => U i && M i) (fun _ => false) := by
 have := h.lu
 have := h.sl
 refine ⟨h1, rowBt_nil fun _ => rfl, by show (uw'.length : Int) * 64 <= S.slots + 63; omega, by show ((0 : Nat) : Int) * 64 <= S.slots + 63; omega, fun i hi => ?_, fun i hi => (by cases hi), h.sl, rfl, ⟨Int.le_refl 0, h.sl.1, fun i hi => ?_⟩⟩
 ·rw [Bool.and_eq_true] at hi; exact h.lim i hi.1
 ·have hi : (i : Int) < 0 := hi
  omega
section
variable {E : Env} {w : World} {Z : List Pr} {b : Nat} {S : SI} {U M : Nat -> Bool}
theorem spsweep_spec (hT : ∀ w', Sat Z w' -> TabAt E.g_math_bits_deBruijn64tab w') (H : Sat (SpanP E b S :: Z) w) (hU : SpG S U M) (hst : S.state = 1) {K : SlV -> Int -> World -> Prop} (hkz : (∃ i, M i = true /\ U i = false) -> K ⟨none, 0, 0⟩ 40 w)
  (hk : (∀ i, M i = true -> U i = true) -> ∀ uw' s, SpG (sweptI S uw' U M) (fun i => U i && M i) (fun _ => false) -> s.len = cN (fun i => U i && !M i) S.slots.toNat ->
   ∀ w', Sat (Row E.t_int 1 s (ints .i64 (freedL (fun i => U i && !M i) (64 * S.uw.length))) :: SpanP E b (sweptI S uw' U M) :: Z) w' -> K s 0 w') : F.span_Span_Sweep E (some ⟨b, 0, none⟩) K w := by
 have H0 := H
 obtain ⟨su, sm, H⟩ := Sat.span.1 H
 unfold F.span_Span_Sweep T0.span_Span_Sweep
 refine NC_in ⟨_, H.cell rfl, CND_ne (fun g => absurd hst g) fun _ => spzombie_spec H0 hU (fun h => CND_t rfl (hkz h)) fun hz => CND_f rfl (NC_in ⟨su, H.cell rfl, ?_⟩)⟩
 have hs := hU.sl
 have hlu := hU.lu
 have hlm := hU.lm
 have l1 := rowBt_slen (H.front 1 rfl)
 have l2 := rowBt_slen (H.front 2 rfl)
 let G : Nat -> Bool := fun i => U i && !M i
 let Uk : Nat -> Nat -> Bool := fun k i => if i < 64 * k then U i && M i else U i
 have hn : S.uw.length <= 16385 := by omega
 have hUk : ∀ k, rowBt (wordsU (Uk k) S.uw.length) (Uk k) := fun k => rowBt_mk fun i hi => by
  show (if i < 64 * k then U i && M i else U i) = false
  rw [hU.uw.2 i hi]; split <;> rfl
 have e0 : wordsU (Uk 0) S.uw.length = S.uw := by
  have : Uk 0 = U := by funext i; show (if i < 64 * 0 then _ else _) = _; rw [if_neg (by omega)]
  rw [this]; exact hU.uw.1.symm
 have fl : ∀ m, (freedL G m).length <= m := fun m => by rw [freedL_len]; exact cN_le G m
 refine LOOP_intro (fun st w' => ∃ k : Nat, st.2.1 = (k : Int) /\ k <= S.uw.length /\ Sat (Row E.t_int 1 st.1 (ints .i64 (freedL G (64 * k))) :: Cells b E.t_span_Span (sicells S su sm) :: Row E.t_uint64 1 su (ints .u64 (wordsU (Uk k) S.uw.length)) :: Row E.t_uint64 1 sm (ints .u64 S.mw) :: Z) w') (fun st _ => ((S.uw.length : Int) - st.2.1).toNat) ⟨0, rfl, Nat.zero_le _, by rw [e0]; exact H.nil E.t_int 1⟩ ?_
 rintro ⟨fr, k', u⟩ _ w8 ⟨k, hk', hkn, H8⟩
 dsimp only at hk' H8 ⊢
 subst hk'
 refine CND_dec (fun g => ?_) fun g => ?_
 ·have hkl : k < S.uw.length := by omega
  have hg : k < (wordsU (Uk k) S.uw.length).length := by rw [wordsU_len]; exact hkl
  obtain ⟨a, ha, hac⟩ := rowBt_cell (H8.front 2 rfl) (hUk k) hg
  have ew : wordAt (Uk k) k = wordAt U k := W_congr fun i hi => by show (if 64 * k + i < 64 * k then _ else _) = _; rw [if_neg (by omega)]
  rw [ew] at hac
  have cu : ∀ {w'} {vs : List Value} {Y}, Sat (Row E.t_int 1 fr vs :: Cells b E.t_span_Span (sicells S su sm) :: Y) w' -> w'.cell? ((Addr.mk b 0 none).add 11) = some (.slice su.base su.len su.cap) /\ w'.cell? ((Addr.mk b 0 none).add 12) = some (.slice sm.base sm.len sm.cap) := fun h => ⟨(h.front 1 rfl).cell rfl, (h.front 1 rfl).cell rfl⟩
  have hcu := cu H8
  refine NC_in ⟨su, hcu.1, ?_⟩
  rw [ha]
  refine NC_in ⟨⟨by omega, by omega⟩, _, by rw [Int.toNat_natCast]; exact hac, ?_⟩
  have main : ∀ v : Int, v = wordAt G k -> ∀ (next9 : SlV × Int × Unit -> World -> Prop), (∀ st w', (∃ k : Nat, st.2.1 = (k : Int) /\ k <= S.uw.length /\ Sat (Row E.t_int 1 st.1 (ints .i64 (freedL G (64 * k))) :: Cells b E.t_span_Span (sicells S su sm) :: Row E.t_uint64 1 su (ints .u64 (wordsU (Uk k) S.uw.length)) :: Row E.t_uint64 1 sm (ints .u64 S.mw) :: Z) w') /\ ((S.uw.length : Int) - st.2.1).toNat < ((S.uw.length : Int) - (k : Int)).toNat -> next9 st w') ->
    NC (some (Addr.mk b 0 none)) fun p23 => ∃ x24 : SlV, w8.cell? (p23.add 11) = some (.slice x24.base x24.len x24.cap) /\ NC x24.base fun p25 => ((0 : Int) <= (k : Int) /\ ((k : Int) : Int) < (x24.len : Nat)) /\ ∃ x26 : Int, w8.cell? (p25.add (Int.toNat (k : Int) * 1)) = some (.int .u64 x26) /\ NC x24.base fun p27 => ((0 : Int) <= (k : Int) /\ ((k : Int) : Int) < (x24.len : Nat)) /\
     stCells (p27.add (Int.toNat (k : Int) * 1)) 0 [.int .u64 (bitK .u64 3 x26 v)] w8 fun w28 =>
      LOOP (SlV × Int × Unit) (fr, v, ()) w28 fun s29 _ w30 next31 =>
       CND ((s29.2.1 : Int) != 0) (
        (0 : Int) <= 6 /\
        F.math_bits_TrailingZeros64 E s29.2.1 (fun r32 w33 =>
        AL (.cells ⟨[.int .i64 (i64 ((i64 ((k : Int) * 2 ^ (min (Int.toNat 6) (IntKind.bits .i64)))) + r32))]⟩ E.t_int) w33 fun b34 w35 =>
        APP E.t_int 1 8 #[.int .i64 0] s29.1 ⟨(some (Addr.mk b34 0 none)), 1, 1⟩ w35 fun s36 w37 =>
        LET (bitK .u64 0 s29.2.1 (u64 (s29.2.1 - 1)) : Int) fun w_38 =>
        next31 (s36, w_38, ()) w37
        ) w30
       ) (
        next9 (s29.1, i64 ((k : Int) + 1), ()) w30
       ) := fun v hv next9 hnext => by
   refine NC_in ⟨su, hcu.1, ?_⟩
   rw [ha]
   refine NC_in ⟨⟨by omega, by omega⟩, _, by rw [Int.toNat_natCast]; exact hac, NC_in ⟨⟨by omega, by omega⟩, ?_⟩⟩
   subst hv
   have e1 : bitK .u64 3 (wordAt U k) (wordAt G k) = wordAt (Uk (k + 1)) k := by
    unfold wordAt
    rw [W_andNot]
    refine W_congr fun i hi => ?_
    show (U _ && !(U _ && !M _)) = if 64 * k + i < 64 * (k + 1) then _ else _
    rw [if_pos (by omega)]
    cases U (64 * k + i) <;> cases M (64 * k + i) <;> rfl
   rw [e1, Int.toNat_natCast, Nat.mul_one]
   refine st_row (H8.front 2 rfl) (j := k) rfl (by simp [ints, wordsU_len]; omega) ha fun w28 H28 => ?_
   have e2 : (ints .u64 (wordsU (Uk k) S.uw.length)).set k (.int .u64 (wordAt (Uk (k + 1)) k)) = ints .u64 (wordsU (Uk (k + 1)) S.uw.length) := by
    rw [<- wordsU_set (U := Uk k) (V := Uk (k + 1)) (k := k) fun i hi => by
     show (if i < 64 * k then _ else _) = if i < 64 * (k + 1) then _ else _
     by_cases e : i < 64 * k
     ·rw [if_pos e, if_pos (by omega)]
     ·rw [if_neg e, if_neg (by omega)]]
    simp only [ints, List.map_set]
   rw [e2] at H28
   have H29 := H28.front 1 rfl
   refine LOOP_intro (fun st w' => ∃ c : Nat, c <= 64 /\ st.2.1 = W (fun i => G (64 * k + i) && decide (c <= i)) /\ Sat (Row E.t_int 1 st.1 (ints .i64 (freedL G (64 * k + c))) :: Row E.t_uint64 1 su (ints .u64 (wordsU (Uk (k + 1)) S.uw.length)) :: Cells b E.t_span_Span (sicells S su sm) :: Row E.t_uint64 1 sm (ints .u64 S.mw) :: Z) w') (fun st _ => 64 * (k + 1) - st.1.len) ⟨0, by omega, W_congr fun i hi => by simp, H29⟩ ?_
   rintro ⟨fr2, v2, u2⟩ _ w30 ⟨c, hc, hv2, H30⟩
   dsimp only at hv2 H30 ⊢
   subst hv2
   have hlen := H30.rowLen
   simp only [ints, List.length_map, Nat.mul_one] at hlen
   have hfl := fl (64 * k + c)
   refine CND_ne (fun hne => ⟨by decide, ?_⟩) fun he => ?_
   ·refine tz64_spec (hT w30 H30.tail.tail.tail.tail) (fun hall => absurd (W_eq_zero.2 hall) hne) fun r hr h1 h2 => ?_
    rw [Bool.and_eq_true, decide_eq_true_eq] at h1
    have h3 : ∀ i, 64 * k + c <= i -> i < 64 * k + r -> G i = false := fun i i1 i2 => by
     have := h2 (i - 64 * k) (by omega)
     rw [show 64 * k + (i - 64 * k) = i by omega] at this
     cases hf : G i with
     | false => rfl
     | true => rw [hf] at this; simp at this; omega
    rw [gshl (by omega), i64_id (n := ((64 * k : Nat) : Int) + (r : Int)) (by omega) (by omega)]
    refine AL_cells (vs := [.int .i64 (((64 * k : Nat) : Int) + (r : Int))]) H30 fun b34 w35 H35 _ => APP_one (zs := #[.int .i64 0]) (bytes := 8) H35 rfl rfl (by simp [Value.oneCell']) (by omega) (by omega) fun s36 w37 H37 hl36 => LET_intro fun t ht => ?_
    have eb := W_low1 (u := fun i => G (64 * k + i) && decide (c <= i)) hr (by show (G _ && decide _) = true; rw [h1.1, decide_eq_true h1.2]; rfl) h2
    rw [eb] at ht
    have ef := freedL_one (F := G) (m := 64 * k + c) (n := 64 * k + r) (by omega) h3 h1.1
    refine ⟨⟨r + 1, by omega, ?_, ?_⟩, ?_⟩
    ·show t = _
     rw [ht]
     refine W_congr fun i hi => ?_
     show (G (64 * k + i) && decide (c <= i) && !(i == r)) = (G (64 * k + i) && decide (r + 1 <= i))
     by_cases e1 : i < r
     ·have := h2 i e1
      rw [show (G (64 * k + i) && decide (c <= i)) = false from this, decide_eq_false (by omega)]; simp
     ·by_cases e2 : i = r
      ·subst e2; simp
      ·have : (i == r) = false := by simpa using e2
       rw [this, decide_eq_true (show r + 1 <= i by omega), decide_eq_true (show c <= i by omega)]; simp
    ·rw [show 64 * k + (r + 1) = 64 * k + r + 1 by omega, ef]
     have : ints .i64 (freedL G (64 * k + c)) ++ [.int .i64 (((64 * k : Nat) : Int) + (r : Int))] = ints .i64 (freedL G (64 * k + c) ++ [((64 * k + r : Nat) : Int)]) := by
      simp [ints]
     rw [<- this]; exact H37
    ·show 64 * (k + 1) - s36.len < 64 * (k + 1) - fr2.len
     omega
   ·rw [show i64 ((k : Int) + 1) = ((k + 1 : Nat) : Int) by rw [i64_id (by omega) (by omega)]; rfl]
    refine hnext _ _ ⟨⟨k + 1, rfl, by omega, ?_⟩, by dsimp only; omega⟩
    have e3 : freedL G (64 * (k + 1)) = freedL G (64 * k + c) := by
     rw [show 64 * (k + 1) = 64 * k + c + (64 - c) by omega]
     refine freedL_skip fun i i1 i2 => ?_
     have := W_eq_zero.1 he (i - 64 * k) (by omega)
     rw [show 64 * k + (i - 64 * k) = i by omega, decide_eq_true (show c <= i - 64 * k by omega), Bool.and_true] at this
     exact this
    show Sat (Row E.t_int 1 fr2 (ints .i64 (freedL G (64 * (k + 1)))) :: _) w30
    rw [e3]
    exact H30.perm (.cons _ (.swap _ _ _))
  refine JOIN_in (NC_in ⟨sm, hcu.2, CND_dec (fun g2 => NC_in ⟨sm, hcu.2, ?_⟩) fun g2 j => main _ ?_ _ fun _ _ h => h⟩)
  ·obtain ⟨d, hd, hdc⟩ := rowBt_cell (H8.front 3 rfl) hU.mw (k := k) (by omega)
   rw [hd]
   refine NC_in ⟨⟨by omega, by omega⟩, _, by rw [Int.toNat_natCast]; exact hdc, fun j => main _ ?_ _ fun _ _ h => h⟩
   unfold wordAt
   rw [W_andNot]
  ·unfold wordAt
   refine W_congr fun i hi => ?_
   show U _ = (U _ && !M _)
   rw [hU.mw.2 _ (by omega)]; simp
 ·have hkk : k = S.uw.length := by omega
  have hcells := H8.front 1 rfl
  have hlen := H8.rowLen
  simp only [ints, List.length_map, Nat.mul_one] at hlen
  have e4 : cN G (64 * S.uw.length) = cN G S.slots.toNat := cN_any (fun i hi => by show (U i && !M i) = false; rw [hU.uw.2 i hi]; rfl) fun i hi => by show (U i && !M i) = false; rw [hU.out i hi]; rfl
  have hfl : fr.len = cN G S.slots.toNat := by rw [<- hlen, freedL_len, hkk, e4]
  have hsplit := cN_split U M S.slots.toNat
  have hcnt := hU.cnt
  have hul := hU.used_le
  have hle := cN_le U S.slots.toNat
  have eu : i64 (S.used - ((fr.len : Nat) : Int)) = (cN (fun i => U i && M i) S.slots.toNat : Nat) := by
   have : cN G S.slots.toNat = cN (fun i => U i && !M i) S.slots.toNat := rfl
   rw [i64_id (by omega) (by omega)]; omega
  refine NC_in ⟨_, hcells.cell rfl, NC_in ?_⟩
  rw [eu]
  refine st_cell hcells (o := 0) (m := 7) rfl (by simp [sicells]) fun w42 H42 => NC_in (st_cell H42 (o := 0) (m := 12) (v := slV ⟨none, 0, 0⟩) rfl (by simp [sicells]) fun w44 H44 => NC_in (st_cell H44 (o := 0) (m := 13) rfl (by simp [sicells]) fun w46 H46 => ?_))
  have e5 : wordsU (Uk k) S.uw.length = wordsU (fun i => U i && M i) S.uw.length := wordsU_congr fun i hi => by
   show (if i < 64 * k then _ else _) = _
   rw [if_pos (by omega)]
  rw [e5, hkk] at H46
  refine hk hz (wordsU (fun i => U i && M i) S.uw.length) fr (hU.swept (rowBt_mk fun i hi => by show (U i && M i) = false; rw [hU.uw.2 i hi]; rfl) (wordsU_len _ _)) hfl w46 ?_
  have H47 := ((H46.front 3 rfl).tail.nil E.t_uint64 1)
  have H48 : Sat (spres E b (sweptI S (wordsU (fun i => U i && M i) S.uw.length) U M) su ⟨none, 0, 0⟩ ++ Row E.t_int 1 fr (ints .i64 (freedL G (64 * S.uw.length))) :: Z) w46 :=
   (((H47.front 0 rfl).front 3 rfl).front 2 rfl)
  have H49 := Sat.span.2 ⟨su, ⟨none, 0, 0⟩, H48⟩
  exact H49.perm (.swap _ _ _)
end
end Go.Sh

set_option linter.all false
set_option maxRecDepth 8000
set_option maxHeartbeats 4000000
namespace Go.Sh
def SP (E : Env) (s : SlV) (Z : List Pr) (l0 : List Int) (w : World) : Prop := ∃ l : List Int, l.Perm l0 /\ Sat (Row E.t_int 1 s (ints .i64 l) :: Z) w
def CmpOk (E : Env) (cmp : Value) (s : SlV) (Z : List Pr) (l0 : List Int) : Prop := ∀ x y w (R : Value -> World -> Prop), x ∈ l0 -> y ∈ l0 -> SP E s Z l0 w -> (∀ r w', SP E s Z l0 w' -> R (.int .i64 r) w') -> DYN E.call cmp #[.int .i64 x, .int .i64 y] w R
section
variable {E : Env} {cmp : Value} {s : SlV} {Z : List Pr} {l0 : List Int} {w : World}
variable (hC : CmpOk E cmp s Z l0) (hsm : s.len < 1099511627776)
include hC hsm
end
end Go.Sh

set_option linter.all false
set_option maxRecDepth 8000
set_option maxHeartbeats 4000000
namespace Go.Sh
section
variable {E : Env} {w : World}
end
section
variable {E : Env} {cmp : Value} {s : SlV} {Z : List Pr} {l0 : List Int} {w : World}
end
end Go.Sh

set_option linter.all false
set_option maxRecDepth 8000
set_option maxHeartbeats 4000000
namespace Go.Sh
structure EnvH (E : Env) : Prop extends EnvA E where
 spans1 : ∀ x y p (R : Value -> World -> Prop) w, F.mheap_Heap_Spans_1 E x y p (fun r w' => R (.int .i64 r) w') w -> E.call E.f_mheap_Heap_Spans_1 #[.int .i64 x, .int .i64 y, .pointer p] w R noP
section
variable {E : Env} {w : World} {Z : List Pr}
variable {h : Nat} {S : HS} (hE : EnvH E)
include hE
end
end Go.Sh

set_option linter.all false
namespace Go.Sh
open Go.Proofs
theorem envS : EnvS env where
 at1 := by
  intro i p1 p2 K w h
  refine ⟨(fits155 #[.int .i64 i, .pointer p1, .pointer p2] w (fun v w' => ∃ b, v = .bool b /\ K b w') noP ?_).1, (fits155 #[.int .i64 i, .pointer p1, .pointer p2] w (fun v w' => ∃ b, v = .bool b /\ K b w') noP ?_).2⟩ <;>
  exact (show F.stretch_Set_at_1 env i p1 p2 (fun b w' => ∃ b', Value.bool b = .bool b' /\ K b' w') w from at1_mono (fun b w' h => ⟨b, rfl, h⟩) h)
 mono := ground_mono
theorem envA : EnvA env where
 toEnvS := envS
 set1 := by
  intro x y p1 p2 R w h
  refine ⟨(fits126 #[.int .u64 x, .int .u64 y, .pointer p1, .pointer p2] w R noP ?_).1, (fits126 #[.int .u64 x, .int .u64 y, .pointer p1, .pointer p2] w R noP ?_).2⟩ <;>
  exact h
theorem envW : EnvW env where
 toEnvA := envA
 place1 := by
  intro i p1 p2 R w h
  refine ⟨(fits129 #[.int .i64 i, .pointer p1, .pointer p2] w R noP ?_).1, (fits129 #[.int .i64 i, .pointer p1, .pointer p2] w R noP ?_).2⟩ <;>
  exact h
end Go.Sh
