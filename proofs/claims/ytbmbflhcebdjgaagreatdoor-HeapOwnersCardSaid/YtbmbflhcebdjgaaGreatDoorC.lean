/- Records, classes and spans do what they say. No further condition. -/
import Derived.Test.YtbmbflhcebdjgaaGreatDoorA
import Derived.Test.YtbmbflhcebdjgaaGreatDoorM
import Derived.Test.YtbmbflhcebdjgaaGreatDoorY
import Derived.Test.YtbmbflhcebdjgaaGreatDoorF
import Derived.Test.YtbmbflhcebdjgaaGreatDoorSh
set_option linter.all false
set_option maxRecDepth 4000
set_option maxHeartbeats 1000000
namespace Go.Sh
section
variable {α : Type} {f : α -> List Value} {z : Nat}
def recs (f : α -> List Value) (L : List α) : List Value := L.flatMap f
theorem recs_cons (x : α) (L : List α) : recs f (x :: L) = f x ++ recs f L := by simp [recs]
theorem recs_app (L M : List α) : recs f (L ++ M) = recs f L ++ recs f M := by simp [recs]
theorem recs_len (hf : ∀ x, (f x).length = z) : ∀ L : List α, (recs f L).length = L.length * z
  | [] => by simp [recs]
  | x :: r => by rw [recs_cons, List.length_append, recs_len hf r, hf, List.length_cons, Nat.succ_mul]; omega
theorem recs_get (hf : ∀ x, (f x).length = z) : ∀ {L : List α} {i : Nat} {x : α} {j : Nat} {v : Value}, L[i]? = some x -> (f x)[j]? = some v -> (recs f L)[i * z + j]? = some v
  | y :: r, 0, x, j, v, h, hj => by
    have h : y = x := Option.some.inj h
    subst h
    have := (List.getElem?_eq_some_iff.1 hj).1
    rw [recs_cons, Nat.zero_mul, Nat.zero_add, List.getElem?_append_left this]; exact hj
  | y :: r, i + 1, x, j, v, h, hj => by
    rw [recs_cons, Nat.succ_mul, List.getElem?_append_right (by rw [hf]; omega), hf, show i * z + z + j - z = i * z + j by omega]
    exact recs_get hf (L := r) h hj
theorem recs_set (hf : ∀ x, (f x).length = z) : ∀ {L : List α} {i : Nat} {x y : α} {j : Nat} {v : Value}, L[i]? = some x -> j < z -> (f x).set j v = f y -> (recs f L).set (i * z + j) v = recs f (L.set i y)
  | c :: r, 0, x, y, j, v, h, hj, he => by
    have h : c = x := Option.some.inj h
    subst h
    rw [recs_cons, Nat.zero_mul, Nat.zero_add, List.set_append_left _ _ (by rw [hf]; exact hj), he, List.set_cons_zero, recs_cons]
  | c :: r, i + 1, x, y, j, v, h, hj, he => by
    rw [recs_cons, List.set_cons_succ, recs_cons, Nat.succ_mul, List.set_append_right _ _ (by rw [hf]; omega), hf, show i * z + z + j - z = i * z + j by omega, recs_set hf (L := r) h hj he]
def pos (key : α -> Int) : List α -> Int -> Nat
  | [], _ => 0
  | c :: r, n => if key c < n then pos key r n + 1 else 0
variable {key : α -> Int}
end
section
variable {α : Type} {f : α -> List Value} {z t : Nat} {F : List Pr} {w : World} {s : SlV} {L : List α}
theorem Sat.recLen (hz : 0 < z) (hf : ∀ x, (f x).length = z) (H : Sat (Row t z s (recs f L) :: F) w) : L.length = s.len /\ s.len <= s.cap /\ s.cap < 9223372036854775808 := by
  have h := H.rowLen
  rw [recs_len hf] at h
  exact ⟨Nat.eq_of_mul_eq_mul_right hz h, H.own.cap, H.own.top⟩
theorem Sat.recBase (hz : 0 < z) (hf : ∀ x, (f x).length = z) (H : Sat (Row t z s (recs f L) :: F) w) {i : Nat} (hi : i < L.length) : ∃ b, s.base = some ⟨b, 0, none⟩ :=
  H.own.base_of (by have := H.recLen hz hf; omega)
theorem Sat.recCell (hf : ∀ x, (f x).length = z) (H : Sat (Row t z s (recs f L) :: F) w) {a : Addr} (ha : s.base = some a) {i : Nat} {x : α} (hi : L[i]? = some x) {j : Nat} {v : Value} (hj : (f x)[j]? = some v) : w.cell? (a.add (i * z + j)) = some v :=
  H.own.cell ha (recs_get hf hi hj)
end
end Go.Sh

set_option linter.all false
set_option maxRecDepth 4000
set_option maxHeartbeats 1000000
namespace Go.Sh
structure FX where
  n : Nat
  bk : List Nat
def afterL : List Nat -> Nat -> Option Nat
  | [], _ => none
  | a :: r, i => if a = i then r.head? else afterL r i
def ptrOf (R : Nat -> Nat) (x : Option Nat) : Option Addr := x.map fun i => ⟨R i, 0, none⟩
def recC (E : Env) (R : Nat -> Nat) (bk : List Nat) (i : Nat) : Pr := Cells (R i) E.t_fix_record [.int .i64 ((i : Int) + 1), .bool (!bk.contains i), .pointer (ptrOf R (afterL bk i))]
structure FInv (X : FX) : Prop where
  nd : X.bk.Nodup
  lt : ∀ i ∈ X.bk, i < X.n
  few : X.n <= 1099511627776
def fres (E : Env) (b : Nat) (X : FX) (s : SlV) (R : Nat -> Nat) (c : Int) : List Pr :=
  [Cells b E.t_fix_Fix [.int .i64 1, slV s, .pointer (ptrOf R X.bk.head?), .int .i64 c], Row E.t__fix_record 1 s ((List.range X.n).map fun i => .pointer (some ⟨R i, 0, none⟩)), Many (recC E R X.bk) (List.range X.n)]
def FixP (E : Env) (b : Nat) (X : FX) : Pr := Ex fun x : SlV × (Nat -> Nat) × Int => Where (FInv X) (Star (fres E b X x.1 x.2.1 x.2.2))
section
variable {E : Env} {b : Nat} {X : FX} {Z : List Pr} {w : World} {s : SlV} {R : Nat -> Nat} {c : Int}
theorem Sat.fix : Sat (FixP E b X :: Z) w ↔ ∃ s R c, FInv X /\ Sat (fres E b X s R c ++ Z) w := by
  unfold FixP
  rw [Sat.ex]
  constructor
  · rintro ⟨⟨s, R, c⟩, h⟩
    rw [Sat.where, Sat.star] at h
    exact ⟨s, R, c, h.1, h.2⟩
  · rintro ⟨s, R, c, h1, h2⟩
    refine ⟨⟨s, R, c⟩, ?_⟩
    rw [Sat.where, Sat.star]
    exact ⟨h1, h2⟩
theorem fnew_spec (H : Sat Z w) {K : Option Addr -> Int -> World -> Prop} (hK : ∀ b w', Sat (FixP E b ⟨0, []⟩ :: Z) w' -> K (some ⟨b, 0, none⟩) 0 w') : F.fix_New E 1 K w := by
  unfold F.fix_New
  refine JOIN_in (CND_f (by decide) fun j => CND_f (by decide) ?_)
  refine AL_cells (vs := [.int .i64 1, .slice none 0 0, .pointer none, .int .i64 0]) H fun b w' H' _ => hK b w' (Sat.fix.2 ⟨⟨none, 0, 0⟩, fun _ => 0, 0, ⟨.nil, fun i h => (by cases h), by decide⟩, ?_⟩)
  have h1 := H'.nil E.t__fix_record 1
  have h2 : Sat (Many (recC E (fun _ => 0) []) [] :: _) w' := h1.manyNil (recC E (fun _ => 0) [])
  exact h2.perm ((List.reverse_perm [_, _, _]).symm.append_right Z)
theorem after_not {l : List Nat} {i : Nat} (h : i ∉ l) : afterL l i = none := by
  induction l with
  | nil => rfl
  | cons a r ih =>
    unfold afterL
    rw [if_neg fun e => h (by simp [e]), ih fun e => h (by simp [e])]
theorem erase_ne {n a x : Nat} (ha : a < n) (hx : x ∈ (List.range n).eraseIdx a) : x ≠ a := by
  obtain ⟨i, hi⟩ := List.mem_iff_getElem?.1 hx
  rw [List.getElem?_eraseIdx] at hi
  split at hi
  · rename_i h
    rw [List.getElem?_range (by omega)] at hi
    cases hi; omega
  · rename_i h
    have hl := (List.getElem?_eq_some_iff.1 hi).1
    rw [List.length_range] at hl
    rw [List.getElem?_range hl] at hi
    cases hi; omega
theorem ftake_spec (H : Sat (FixP E b X :: Z) w) (hfew : X.n < 1099511627776) {K : Int -> World -> Prop}
    (hk1 : X.bk = [] -> ∀ w', Sat (FixP E b ⟨X.n + 1, []⟩ :: Z) w' -> K ((X.n : Int) + 1) w')
    (hk2 : ∀ a r, X.bk = a :: r -> ∀ w', Sat (FixP E b ⟨X.n, r⟩ :: Z) w' -> K ((a : Int) + 1) w') : F.fix_Fix_Take E (some ⟨b, 0, none⟩) K w := by
  obtain ⟨s, R, c, hI, H⟩ := Sat.fix.1 H
  unfold F.fix_Fix_Take
  simp only [NC_some]
  refine ⟨_, H.cell rfl, ?_⟩
  cases hb : X.bk with
  | nil =>
    unfold fres at H
    rw [hb] at H
    have hl := (H.front 1 rfl).rowLen
    rw [List.length_map, List.length_range, Nat.mul_one] at hl
    refine JOIN_in (CND_t rfl ⟨s, H.cell rfl, ?_⟩)
    rw [i64_id (n := ((s.len : Nat) : Int) + 1) (by omega) (by omega), <- hl]
    refine AL_cells (vs := [.int .i64 ((X.n : Int) + 1), .bool false, .pointer none]) H fun b8 w9 H9 _ => ⟨s, (H9.front 1 rfl).cell rfl, ?_⟩
    refine AL_cells (vs := [.pointer (some ⟨b8, 0, none⟩)]) H9 fun b12 w13 H13 _ => ?_
    refine APP_one (news := [.pointer (some ⟨b8, 0, none⟩)]) (H13.front2 2 rfl) rfl rfl (by intro v hv; simp at hv; subst hv; rfl) (by omega) (by omega) fun s14 w15 H15 _ => ?_
    refine st_cell (H15.front 2 rfl) (o := 0) (m := 1) rfl (by simp) fun w17 H17 j => ?_
    simp only [NC_some]
    have H18 := H17.front 2 rfl
    refine st_cell H18 (o := 0) (m := 1) rfl (by simp) fun w23 H23 => st_cell H23 (o := 0) (m := 2) rfl (by simp) fun w25 H25 => ?_
    have H26 := H25.front 1 rfl
    refine ⟨_, H26.cell rfl, st_cell H26 (o := 0) (m := 3) rfl (by simp) fun w29 H29 => ⟨_, (H29.front 1 rfl).cell0 rfl, hk1 hb w29 ?_⟩⟩
    refine Sat.fix.2 ⟨s14, fun i => if i = X.n then b8 else R i, i64 (c + 1), ⟨.nil, fun i h => (by cases h), by show X.n + 1 <= _; omega⟩, ?_⟩
    have e1 : (List.range (X.n + 1)).map (fun i => Value.pointer (some ⟨(if i = X.n then b8 else R i), 0, none⟩)) = ((List.range X.n).map fun i => Value.pointer (some ⟨R i, 0, none⟩)) ++ [.pointer (some ⟨b8, 0, none⟩)] := by
      rw [List.range_succ, List.map_append]
      congr 1
      · refine List.map_congr_left fun i hi => ?_
        have := List.mem_range.1 hi
        rw [if_neg (by omega)]
      · simp
    have e2 : Many (recC E R []) (List.range X.n) = Many (recC E (fun i => if i = X.n then b8 else R i) []) (List.range X.n) := Many.congr fun x hx => by
      have := List.mem_range.1 hx
      show recC E R [] x = Cells (if x = X.n then b8 else R x) _ _
      rw [if_neg (by omega)]; rfl
    have e3 : recC E (fun i => if i = X.n then b8 else R i) [] X.n = Cells b8 E.t_fix_record [.int .i64 ((X.n : Int) + 1), .bool true, .pointer none] := by
      show Cells (if X.n = X.n then b8 else R X.n) _ _ = _
      rw [if_pos rfl]; rfl
    have H30 := (H29.front 3 rfl).front2 1 rfl |> fun h => h.perm (.swap _ _ _)
    have H31 : Sat (recC E (fun i => if i = X.n then b8 else R i) [] X.n :: Many (recC E (fun i => if i = X.n then b8 else R i) []) (List.range X.n) :: Cells b E.t_fix_Fix [.int .i64 1, slV s14, .pointer none, .int .i64 (i64 (c + 1))] :: Row E.t__fix_record 1 s14 (((List.range X.n).map fun i => Value.pointer (some ⟨R i, 0, none⟩)) ++ [.pointer (some ⟨b8, 0, none⟩)]) :: Z) w29 := by
      rw [e3, <- e2]
      exact H30
    have H32 := H31.manySnoc
    rw [<- List.range_succ] at H32
    unfold fres
    rw [e1]
    exact H32.perm (by
      have : ∀ (a b c : Pr), (a :: b :: c :: Z).Perm (b :: c :: a :: Z) := fun a b c => (List.perm_middle (l₁ := [b, c]) (a := a)).symm
      exact this _ _ _)
  | cons a r =>
    unfold fres at H
    rw [hb] at H
    have ha : a < X.n := hI.lt a (by rw [hb]; simp)
    have hnd := hI.nd
    rw [hb] at hnd
    have har : a ∉ r := (List.nodup_cons.1 hnd).1
    have hg : (List.range X.n)[a]? = some a := List.getElem?_range ha
    have H2 := (H.front 2 rfl).manyGet hg
    have e0 : ptrOf R (afterL (a :: r) a) = ptrOf R r.head? := by unfold afterL; rw [if_pos rfl]
    have e0' : recC E R (a :: r) a = Cells (R a) E.t_fix_record [.int .i64 ((a : Int) + 1), .bool (!(a :: r).contains a), .pointer (ptrOf R r.head?)] := by unfold recC; rw [e0]
    rw [e0'] at H2
    refine JOIN_in (CND_f rfl ?_)
    show NC (some (Addr.mk (R a) 0 none)) _
    simp only [NC_some]
    refine ⟨_, H2.cell rfl, st_cell (H2.front 2 rfl) (o := 0) (m := 2) rfl (by simp) fun w21 H21 j => ?_⟩
    show NC (some (Addr.mk (R a) 0 none)) _
    simp only [NC_some]
    have H22 := H21.front 1 rfl
    refine st_cell H22 (o := 0) (m := 1) rfl (by simp) fun w23 H23 => ?_
    show NC (some (Addr.mk (R a) 0 none)) _
    simp only [NC_some]
    refine st_cell H23 (o := 0) (m := 2) rfl (by simp) fun w25 H25 => ?_
    have H26 := H25.front 1 rfl
    refine ⟨_, H26.cell rfl, st_cell H26 (o := 0) (m := 3) rfl (by simp) fun w29 H29 => ?_⟩
    show NC (some (Addr.mk (R a) 0 none)) _
    simp only [NC_some]
    refine ⟨_, (H29.front 1 rfl).cell0 rfl, hk2 a r hb w29 ?_⟩
    refine Sat.fix.2 ⟨s, R, i64 (c + 1), ⟨(List.nodup_cons.1 hnd).2, fun i hi => hI.lt i (by rw [hb]; simp [hi]), hI.few⟩, ?_⟩
    have e3 : recC E R r a = Cells (R a) E.t_fix_record [.int .i64 ((a : Int) + 1), .bool true, .pointer none] := by
      unfold recC
      rw [after_not har]
      have : r.contains a = false := by simpa using har
      rw [this]; rfl
    have e2 : Many (recC E R (a :: r)) ((List.range X.n).eraseIdx a) = Many (recC E R r) ((List.range X.n).eraseIdx a) := Many.congr fun x hx => by
      have hne := erase_ne ha hx
      unfold recC
      have h1 : (a :: r).contains x = r.contains x := by
        rw [List.contains_cons]
        have : (x == a) = false := by simpa using hne
        rw [this, Bool.false_or]
      have h2 : afterL (a :: r) x = afterL r x := by
        show (if a = x then r.head? else afterL r x) = _
        rw [if_neg fun e => hne e.symm]
      rw [h1, h2]
    have H30 := (H29.front 1 rfl).front2 1 rfl
    rw [e2] at H30
    have H31 : Sat (recC E R r a :: Many (recC E R r) ((List.range X.n).eraseIdx a) :: Cells b E.t_fix_Fix [.int .i64 1, slV s, .pointer (ptrOf R r.head?), .int .i64 (i64 (c + 1))] :: Row E.t__fix_record 1 s ((List.range X.n).map fun i => .pointer (some ⟨R i, 0, none⟩)) :: Z) w29 := by
      rw [e3]; exact H30
    have H32 := H31.manyBack hg
    exact H32.perm (by
      have : ∀ (a b c : Pr), (a :: b :: c :: Z).Perm (b :: c :: a :: Z) := fun a b c => (List.perm_middle (l₁ := [b, c]) (a := a)).symm
      exact this _ _ _)
theorem fgive_spec (H : Sat (FixP E b X :: Z) w) {a : Nat} (ha : a < X.n) (hna : a ∉ X.bk) {K : Int -> World -> Prop} (hK : ∀ w', Sat (FixP E b ⟨X.n, a :: X.bk⟩ :: Z) w' -> K 0 w') : F.fix_Fix_Give E (some ⟨b, 0, none⟩) ((a : Int) + 1) K w := by
  obtain ⟨s, R, c, hI, H⟩ := Sat.fix.1 H
  have hfew := hI.few
  have hl := (H.front 1 rfl).rowLen
  rw [List.length_map, List.length_range, Nat.mul_one] at hl
  have hg : (List.range X.n)[a]? = some a := List.getElem?_range ha
  have hgp : ((List.range X.n).map fun i => Value.pointer (some ⟨R i, 0, none⟩))[a]? = some (.pointer (some ⟨R a, 0, none⟩)) := by rw [List.getElem?_map, hg]; rfl
  obtain ⟨x, hx⟩ := (H.front 1 rfl).own.base_of (by omega)
  have hc := (H.front 1 rfl).own.cell hx hgp
  unfold F.fix_Fix_Give T0.fix_Fix_Give F.fix_Fix_Live
  simp only [NC_some, Nat.mul_one]
  have et : Int.toNat (i64 (((a : Int) + 1) - 1)) = a := by rw [i64_id (by omega) (by omega)]; omega
  have H2 := (H.front 2 rfl).manyGet hg
  have e0 : recC E R X.bk a = Cells (R a) E.t_fix_record [.int .i64 ((a : Int) + 1), .bool true, .pointer none] := by
    unfold recC
    rw [after_not hna]
    have : X.bk.contains a = false := by simpa using hna
    rw [this]; rfl
  rw [e0] at H2
  refine CND_t (decide_eq_true (by omega)) ⟨s, H.cell rfl, CND_t (decide_eq_true (by omega)) ⟨s, H.cell rfl, ?_⟩⟩
  rw [hx]
  simp only [NC_some]
  rw [et]
  have hbd : (0 : Int) <= i64 (((a : Int) + 1) - 1) /\ i64 (((a : Int) + 1) - 1) < (s.len : Nat) := by rw [i64_id (by omega) (by omega)]; omega
  refine ⟨hbd, _, hc, ?_⟩
  simp only [NC_some]
  refine ⟨true, H2.cell rfl, CND_f rfl ⟨s, H.cell rfl, ?_⟩⟩
  rw [hx]
  simp only [NC_some]
  refine ⟨hbd, _, hc, _, H.cell rfl, ?_⟩
  simp only [NC_some]
  refine st_cell H2 (o := 0) (m := 1) rfl (by simp) fun w10 H10 => st_cell H10 (o := 0) (m := 2) rfl (by simp) fun w12 H12 => ?_
  refine st_cell (H12.front 2 rfl) (o := 0) (m := 2) rfl (by simp) fun w14 H14 => ⟨_, H14.cell rfl, st_cell H14 (o := 0) (m := 3) rfl (by simp) fun w18 H18 => hK w18 ?_⟩
  refine Sat.fix.2 ⟨s, R, i64 (c - 1), ⟨List.nodup_cons.2 ⟨hna, hI.nd⟩, fun i hi => ?_, hI.few⟩, ?_⟩
  · rcases List.mem_cons.1 hi with h | h
    · subst h; exact ha
    · exact hI.lt i h
  · have e3 : recC E R (a :: X.bk) a = Cells (R a) E.t_fix_record [.int .i64 ((a : Int) + 1), .bool false, .pointer (ptrOf R X.bk.head?)] := by
      unfold recC
      have : (a :: X.bk).contains a = true := by simp
      rw [this]
      have : afterL (a :: X.bk) a = X.bk.head? := by unfold afterL; rw [if_pos rfl]
      rw [this]; rfl
    have e2 : Many (recC E R X.bk) ((List.range X.n).eraseIdx a) = Many (recC E R (a :: X.bk)) ((List.range X.n).eraseIdx a) := Many.congr fun x hx => by
      have hne := erase_ne ha hx
      unfold recC
      have h1 : (a :: X.bk).contains x = X.bk.contains x := by
        rw [List.contains_cons]
        have : (x == a) = false := by simpa using hne
        rw [this, Bool.false_or]
      have h2 : afterL (a :: X.bk) x = afterL X.bk x := by
        show (if a = x then X.bk.head? else afterL X.bk x) = _
        rw [if_neg fun e => hne e.symm]
      rw [h1, h2]
    have H30 := (H18.front 1 rfl).front2 1 rfl
    rw [e2] at H30
    have H31 : Sat (recC E R (a :: X.bk) a :: Many (recC E R (a :: X.bk)) ((List.range X.n).eraseIdx a) :: Cells b E.t_fix_Fix [.int .i64 1, slV s, .pointer (some ⟨R a, 0, none⟩), .int .i64 (i64 (c - 1))] :: Row E.t__fix_record 1 s ((List.range X.n).map fun i => .pointer (some ⟨R i, 0, none⟩)) :: Z) w18 := by
      rw [e3]; exact H30
    have H32 := Sat.manyBack H31 hg
    exact H32.perm (by
      have : ∀ (a b c : Pr), (a :: b :: c :: Z).Perm (b :: c :: a :: Z) := fun a b c => (List.perm_middle (l₁ := [b, c]) (a := a)).symm
      exact this _ _ _)
end
end Go.Sh

set_option linter.all false
set_option maxRecDepth 4000
set_option maxHeartbeats 2000000
namespace Go.Sh
abbrev Cls := Int × Int × Int × Int
def cls4 (e : Cls) : List Value := [.int .i64 e.1, .int .i64 e.2.1, .int .i64 e.2.2.1, .int .u32 e.2.2.2]
theorem cls4_len (e : Cls) : (cls4 e).length = 4 := rfl
theorem cls4_one (e : Cls) : ∀ v ∈ cls4 e, v.oneCell' = true := by intro v hv; simp [cls4] at hv; rcases hv with rfl | rfl | rfl | rfl <;> rfl
def powB (n : Int) : Bool := (n != 0) && (bitK .u64 0 n (u64 (n - 1)) == 0)
def stepF (size was : Int) : Int := if powB (u64 size) = false then was else if 2048 <= size then 256 else if 128 <= size then i64 (Int.tdiv size 8) else if 32 <= size then 16 else was
def bytesF (size : Int) : Nat -> Int -> Int
  | 0, n => n
  | k + 1, n => if Int.tmod n size > i64 (Int.tdiv n 8) then bytesF size k (i64 (n + 8192)) else n
def bytesOk (size n : Int) : Bool := decide (¬ Int.tmod n size > i64 (Int.tdiv n 8))
structure MkS where
  by_ : Int
  size : Int
  l : List Cls
def MkS.last (s : MkS) : Cls := s.l.getLastD (0, 0, 0, 0)
def MkS.same (s : MkS) : Bool := decide (1 < s.l.length) && (s.last.2.1 == i64 (Int.tdiv (bytesF s.size 16 8192) 8192) && (i64 (Int.tdiv (i64 (s.last.2.1 * 8192)) s.last.1) == i64 (Int.tdiv (bytesF s.size 16 8192) s.size)))
def MkS.next (s : MkS) : MkS :=
  ⟨stepF s.size s.by_, i64 (s.size + stepF s.size s.by_),
    if s.same = true then s.l.dropLast ++ [(s.size, s.last.2)] else s.l ++ [(s.size, i64 (Int.tdiv (bytesF s.size 16 8192) 8192), 0, 0)]⟩
def MkS.good (s : MkS) : Bool := decide (8 <= s.size) && (decide (s.size <= 32768) && (bytesOk s.size (bytesF s.size 16 8192) && (decide (0 < s.l.length) && (decide (s.l.length <= 200) && ((decide (8 <= stepF s.size s.by_) && decide (stepF s.size s.by_ <= 10000)) && (decide (s.l.length = 1) || s.last.1 != 0))))))
def mkI : Nat -> MkS
  | 0 => ⟨8, 8, [(0, 0, 0, 0)]⟩
  | n + 1 => (mkI n).next
def runAll : Nat -> MkS -> Bool × MkS
  | 0, s => (true, s)
  | n + 1, s => match s.good with
    | true => runAll n s.next
    | false => (false, s)
theorem runAll_spec : ∀ (n k : Nat) {s : MkS}, (runAll n (mkI k)) = (true, s) -> (∀ j, j < n -> (mkI (k + j)).good = true) /\ mkI (k + n) = s
  | 0, k, s, h => ⟨fun j hj => by omega, (Prod.mk.inj h).2⟩
  | n + 1, k, s, h => by
    unfold runAll at h
    split at h
    · rename_i hg
      have ih := runAll_spec n (k + 1) (s := s) h
      refine ⟨fun j hj => ?_, by rw [<- ih.2, show k + 1 + n = k + (n + 1) by omega]⟩
      cases j with
      | zero => exact hg
      | succ j => have := ih.1 j (by omega); rwa [show k + 1 + j = k + (j + 1) by omega] at this
    · cases h
def finC (c : Cls) : Cls :=
  let n := i64 (c.2.1 * 8192)
  let wide := i64 (i64 (Int.tdiv (i64 (Int.tdiv n (i64 (Int.tdiv n c.1)))) 128) * 128)
  let sz := if wide > c.1 then wide else c.1
  (sz, c.2.1, i64 (Int.tdiv n sz), if IntKind.wrap .u32 sz < 2 then 0 else IntKind.wrap .u32 (IntKind.wrap .u32 (Int.tdiv 4294967295 (IntKind.wrap .u32 sz)) + 1))
def finOk (c : Cls) : Bool := (c.1 != 0) && ((i64 (Int.tdiv (i64 (c.2.1 * 8192)) c.1) != 0) && ((finC c).1 != 0 && (decide (IntKind.wrap .u32 (finC c).1 < 2) || IntKind.wrap .u32 (finC c).1 != 0)))
def rounds : Nat := 162
def endS : MkS := (runAll rounds (mkI 0)).2
def clsT : List Cls := match endS.l with
  | [] => []
  | c :: r => c :: r.map finC
theorem run_ok : (runAll rounds (mkI 0)).1 = true := by decide +kernel
theorem end_big : endS.size > 32768 := by decide +kernel
theorem end_len : endS.l.length = 68 := by decide +kernel
theorem end_fin : (endS.l.tail.all finOk) = true := by decide +kernel
theorem cls_len : clsT.length = 68 := by decide +kernel
theorem runs : (∀ j, j < rounds -> (mkI j).good = true) /\ mkI rounds = endS := by
  have h : runAll rounds (mkI 0) = (true, endS) := Prod.ext run_ok rfl
  have := runAll_spec rounds 0 h
  refine ⟨fun j hj => by have := this.1 j hj; rwa [Nat.zero_add] at this, by have := this.2; rwa [Nat.zero_add] at this⟩
structure MkG (s : MkS) : Prop where
  s0 : 8 <= s.size
  s1 : s.size <= 32768
  by_ : Int.tmod (bytesF s.size 16 8192) s.size <= i64 (Int.tdiv (bytesF s.size 16 8192) 8)
  l0 : 0 < s.l.length
  l1 : s.l.length <= 200
  st0 : 8 <= stepF s.size s.by_
  st1 : stepF s.size s.by_ <= 10000
  nz : 1 < s.l.length -> s.last.1 ≠ 0
theorem good_iff {s : MkS} (h : s.good = true) : MkG s := by
  unfold MkS.good bytesOk at h
  simp only [Bool.and_eq_true, decide_eq_true_eq, Bool.or_eq_true, bne_iff_ne] at h
  obtain ⟨h1, h2, h3, h4, h5, ⟨h7, h8⟩, h6⟩ := h
  exact ⟨h1, h2, by omega, h4, h5, h7, h8, fun h => by
    rcases h6 with g | g
    · omega
    · exact g⟩
section
variable {E : Env} {w : World} {Z : List Pr}
theorem pow_spec {n : Int} {K : Bool -> World -> Prop} (hK : K (powB n) w) : F.num_Pow E n K w := by
  unfold F.num_Pow
  unfold powB at hK
  refine CND_ne (fun h => ?_) fun h => ?_
  · rw [show (n != 0) = true by simpa using h, Bool.true_and] at hK; exact hK
  · subst h; exact hK
theorem step_spec {size was : Int} (h0 : 8 <= size) {K : Int -> World -> Prop} (hK : K (stepF size was) w) : F.class_step E size was K w := by
  unfold F.class_step T0.class_step
  unfold stepF at hK
  refine pow_spec ?_
  cases hp : powB (u64 size)
  · rw [hp, if_pos rfl] at hK; exact CND_t rfl hK
  · rw [hp, if_neg (by decide)] at hK
    refine CND_f rfl (CND_dec (fun h => ?_) fun h => CND_dec (fun h2 => ⟨by decide, ?_⟩) fun h2 => CND_dec (fun h3 => ?_) fun h3 => ?_)
    · rw [if_pos h] at hK; exact hK
    · rw [if_neg h, if_pos h2] at hK; exact hK
    · rw [if_neg h, if_neg h2, if_pos h3] at hK; exact hK
    · rw [if_neg h, if_neg h2, if_neg h3] at hK; exact hK
theorem bytes_spec {size : Int} (hs : size ≠ 0) (hok : Int.tmod (bytesF size 16 8192) size <= i64 (Int.tdiv (bytesF size 16 8192) 8)) {K : Int -> World -> Prop} (hK : K (bytesF size 16 8192) w) : F.class_bytes E size 8192 K w := by
  unfold F.class_bytes
  refine LOOP_intro (fun st w' => w' = w /\ ∃ i : Nat, i <= 16 /\ st.1 = 8192 + i * 8192 /\ bytesF size (16 - i) st.1 = bytesF size 16 8192) (fun st _ => (200000 - st.1).toNat) ⟨rfl, 0, by decide, by show (8192 : Int) = _; omega, rfl⟩ ?_
  rintro ⟨n, v⟩ _ w2 ⟨rfl, i, hi, hn, hb⟩
  dsimp only at hn hb ⊢
  refine ⟨hs, by decide, CND_dec (fun hgt => ?_) fun hle => ?_⟩
  · rcases Nat.lt_or_ge i 16 with h8 | h8
    · obtain ⟨k, hk⟩ : ∃ k, 16 - i = k + 1 := ⟨15 - i, by omega⟩
      rw [hk] at hb
      rw [i64_id (n := n + 8192) (by omega) (by omega)]
      refine ⟨⟨by trivial, i + 1, by omega, by omega, ?_⟩, by omega⟩
      rw [<- hb, show 16 - (i + 1) = k by omega]
      unfold bytesF
      rw [if_pos hgt, i64_id (n := n + 8192) (by omega) (by omega)]
      cases k <;> rfl
    · have : i = 16 := by omega
      subst this
      have : bytesF size 0 n = n := rfl
      rw [show 16 - 16 = 0 from rfl, this] at hb
      rw [<- hb] at hok
      exact absurd hgt (by omega)
  · have : bytesF size (16 - i) n = n := by
      cases h : 16 - i with
      | zero => rfl
      | succ k => unfold bytesF; rw [if_neg (by omega)]
    rw [<- hb, this] at hK
    exact hK
theorem magic_spec {n : Int} (hn : n < 2 ∨ n ≠ 0) {K : Int -> World -> Prop} (hK : K (if n < 2 then 0 else IntKind.wrap .u32 (IntKind.wrap .u32 (Int.tdiv 4294967295 n) + 1)) w) : F.num_Magic E n K w := by
  unfold F.num_Magic
  refine CND_dec (fun h => ?_) fun h => ⟨by omega, LET_intro fun x hx => ?_⟩
  · rw [if_pos h] at hK; exact hK
  · rw [if_neg h] at hK; rw [hx]; exact hK
theorem set_last {L : List Cls} (h : 0 < L.length) (y : Cls) : L.set (L.length - 1) y = L.dropLast ++ [y] := by
  apply List.ext_getElem?
  intro i
  rw [List.getElem?_set]
  by_cases e : L.length - 1 = i
  · subst e
    rw [if_pos rfl, if_pos (by omega), List.getElem?_append_right (by rw [List.length_dropLast]; omega), List.length_dropLast, Nat.sub_self]; rfl
  · rw [if_neg e]
    by_cases hl : i < L.length - 1
    · rw [List.getElem?_append_left (by rw [List.length_dropLast]; omega), List.getElem?_dropLast, if_pos hl]
    · rw [List.getElem?_eq_none (by omega), List.getElem?_eq_none (by rw [List.length_append, List.length_dropLast]; simp; omega)]
theorem last_get {L : List Cls} (h : 0 < L.length) : L[L.length - 1]? = some (L.getLastD (0, 0, 0, 0)) := by
  rw [List.getLastD_eq_getLast?, List.getLast?_eq_getElem?]
  rw [List.getElem?_eq_getElem (by omega)]; rfl
theorem table_spec (H : Sat Z w) {K : SlV -> World -> Prop} (hK : ∀ s w', Sat (Row E.t_api_Class 4 s (recs cls4 clsT) :: Z) w' -> K s w') : F.class_Table E K w := by
  unfold F.class_Table T0.class_Table F.class_Make T0.class_Make
  have p1 : powB (u64 8192) = true := by decide +kernel
  have p2 : powB (u64 32768) = true := by decide +kernel
  refine JOIN_in (CND_f (by decide) (CND_f (by decide) (pow_spec ?_)))
  rw [p1]
  refine CND_f rfl (CND_f (by decide) (CND_f (by decide +kernel) (pow_spec ?_)))
  rw [p2]
  refine fun j => CND_f rfl ?_
  obtain ⟨hgood, hend⟩ := runs
  refine AL_rows (n := 1) (z := 4) H rfl (by decide) fun b8 w9 H9 => ?_
  refine LOOP_intro (fun st w' => ∃ k : Nat, k <= rounds /\ st.2.1 = (mkI k).by_ /\ st.2.2.1 = (mkI k).size /\ Sat (Row E.t_api_Class 4 st.1 (recs cls4 (mkI k).l) :: Z) w') (fun st _ => (40000 - st.2.2.1).toNat)
    ⟨0, Nat.zero_le _, rfl, rfl, H9⟩ ?_
  rintro ⟨s10, by_, size, v⟩ _ w11 ⟨k, hk, hby, hsz, H11⟩
  dsimp only at hby hsz H11 ⊢
  have hl := H11.recLen (by decide) cls4_len
  refine CND_dec (fun hle => ?_) fun hgt => ?_
  · have hkr : k < rounds := by
      rcases Nat.lt_or_eq_of_le hk with g | g
      · exact g
      · subst g; rw [hend] at hsz; have := end_big; omega
    have hg := good_iff (hgood k hkr)
    rw [hby, hsz]
    generalize hS : mkI k = S at hg hsz hby H11 hl ⊢
    have hnx : mkI (k + 1) = S.next := by rw [<- hS]; rfl
    have hg0 := hg.s0
    have hg1 := hg.s1
    have hgl := hg.l0
    have hgl1 := hg.l1
    refine step_spec hg.s0 (bytes_spec (by omega) hg.by_ ?_)
    have hbase := last_get hgl
    obtain ⟨b, hb⟩ := H11.recBase (by decide) cls4_len (i := S.l.length - 1) (by omega)
    rw [hb]
    simp only [NC_some]
    rw [i64_id (n := ((s10.len : Nat) : Int) - 1) (by omega) (by omega)]
    have et : Int.toNat (((s10.len : Nat) : Int) - 1) = S.l.length - 1 := by omega
    rw [et]
    have Hd := H11.drew
    have c0 := Hd.recCell cls4_len hb hbase (j := 0) rfl
    have c1 := Hd.recCell cls4_len hb hbase (j := 1) rfl
    have hlast : S.l.getLastD (0, 0, 0, 0) = S.last := rfl
    rw [hlast] at c0 c1 hbase
    rw [Nat.add_zero] at c0
    have hst0 := hg.st0
    have hst1 := hg.st1
    rw [i64_id (n := S.size + stepF S.size S.by_) (by omega) (by omega)]
    have hnsz : S.next.size = S.size + stepF S.size S.by_ := i64_id (by omega) (by omega)
    refine ⟨⟨by omega, by omega⟩, ?_⟩
    refine JOIN_intro (fun st w' => st.1 = S.same /\ Sat (Row E.t_api_Class 4 s10 (recs cls4 S.l) :: Z) w') ?_ ?_
    · unfold MkS.same
      refine CND_dec (fun h1 => ⟨S.last.2.1, by rw [add_add]; exact c1, by decide, CND_eq (fun e1 => ?_) fun e1 => ?_⟩) fun h1 => ?_
      · have d1 : decide (1 < S.l.length) = true := decide_eq_true (by omega)
        have c0' := c0
        have c1' := c1
        refine ⟨S.last.2.1, by rw [add_add]; exact c1', S.last.1, c0', hg.nz (by omega), by omega, ?_, Hd⟩
        rw [d1, e1, beq_self_eq_true, Bool.true_and, Bool.true_and]
      · refine ⟨?_, Hd⟩
        rw [show (S.last.2.1 == i64 (Int.tdiv (bytesF S.size 16 8192) 8192)) = false by simpa using e1]; simp
      · refine ⟨?_, Hd⟩
        rw [decide_eq_false (by omega)]; rfl
    rintro ⟨x, v⟩ _ w20 ⟨hx, H20⟩
    dsimp only at hx
    subst hx
    refine CND_intro (fun e => ?_) fun e => ⟨by decide, ?_⟩
    · have hs := st_row H20 (j := (S.l.length - 1) * 4) (v := .int .i64 S.size) (K := fun w24 => (∃ k : Nat, k <= rounds /\ stepF S.size S.by_ = (mkI k).by_ /\ S.size + stepF S.size S.by_ = (mkI k).size /\ Sat (Row E.t_api_Class 4 s10 (recs cls4 (mkI k).l) :: Z) w24) /\ (40000 - (S.size + stepF S.size S.by_)).toNat < (40000 - S.size).toNat) rfl (by rw [recs_len cls4_len]; omega) hb fun w24 H24 => ⟨⟨k + 1, by omega, by rw [hnx]; rfl, by rw [hnx]; exact hnsz.symm, ?_⟩, by omega⟩
      · exact hs
      · have := recs_set cls4_len hbase (j := 0) (y := (S.size, S.last.2)) (v := .int .i64 S.size) (by decide) rfl
        rw [Nat.add_zero] at this
        rw [this, set_last hgl] at H24
        rw [hnx]
        unfold MkS.next
        rw [if_pos e]
        exact H24
    · refine AL_cells H20 fun b25 w26 H26 _ => ?_
      refine APP_one (news := cls4 (S.size, i64 (Int.tdiv (bytesF S.size 16 8192) 8192), 0, 0)) H26 rfl rfl (cls4_one _) (by omega) (by omega) fun s27 w28 H28 _ => ⟨⟨k + 1, by omega, by rw [hnx]; rfl, by rw [hnx]; exact hnsz.symm, ?_⟩, by omega⟩
      have e1 : recs cls4 S.l ++ cls4 (S.size, i64 (Int.tdiv (bytesF S.size 16 8192) 8192), 0, 0) = recs cls4 (S.l ++ [(S.size, i64 (Int.tdiv (bytesF S.size 16 8192) 8192), 0, 0)]) := by rw [recs_app]; simp [recs]
      rw [e1] at H28
      rw [hnx]
      unfold MkS.next
      rw [if_neg (show ¬ S.same = true from fun h => by have e' : S.same = false := e; rw [e'] at h; cases h)]
      exact H28
  · have hkr : k = rounds := by
      rcases Nat.lt_or_eq_of_le hk with g | g
      · have := (good_iff (hgood k g)).s1; omega
      · exact g
    subst hkr
    rw [hend] at H11 hl
    have hlen := end_len
    cases hL : endS.l with
    | nil => rw [hL] at hlen; cases hlen
    | cons c0 T =>
      rw [hL] at H11 hl hlen
      have hT : T.length = 67 := by simpa using hlen
      have hfin : ∀ i c, T[i]? = some c -> finOk c = true := fun i c hc => by
        have := end_fin
        rw [hL] at this
        exact List.all_eq_true.1 this c (List.mem_of_getElem? hc)
      have htab : clsT = c0 :: T.map finC := by unfold clsT; rw [hL]
      refine ⟨⟨by decide, by omega⟩, ?_⟩
      refine LOOP_intro (fun st w' => ∃ i : Nat, st.1 = (i : Int) /\ i <= 67 /\ Sat (Row E.t_api_Class 4 s10 (recs cls4 (c0 :: ((T.take i).map finC ++ T.drop i))) :: Z) w') (fun st _ => (67 - st.1).toNat) ⟨0, rfl, by decide, H11⟩ ?_
      rintro ⟨i', v⟩ _ w30 ⟨i, hi, hi67, H30⟩
      dsimp only at hi ⊢
      subst hi
      refine CND_dec (fun hlt => ?_) fun hge => ?_
      · have hi6 : i < 67 := by omega
        obtain ⟨c, hc⟩ : ∃ c, T[i]? = some c := ⟨_, List.getElem?_eq_getElem (by omega)⟩
        have hok := hfin i c hc
        unfold finOk at hok
        simp only [Bool.and_eq_true, Bool.or_eq_true, decide_eq_true_eq, bne_iff_ne] at hok
        obtain ⟨o1, o2, o3, o4⟩ := hok
        rw [i64_id (n := (i : Int) + 1) (by omega) (by omega)]
        have et : Int.toNat ((i : Int) + 1) = i + 1 := by omega
        rw [et]
        generalize hF : (c0 :: ((T.take i).map finC ++ T.drop i)) = FX at H30
        have hFl : FX.length = 68 := by rw [<- hF]; simp [List.length_take, List.length_drop]; omega
        have hFi : FX[i + 1]? = some c := by
          rw [<- hF, List.getElem?_cons_succ, List.getElem?_append_right (by rw [List.length_map, List.length_take]; omega), List.length_map, List.length_take, Nat.min_eq_left (by omega), Nat.sub_self, List.getElem?_drop, Nat.add_zero]
          exact hc
        have hFs : FX.set (i + 1) (finC c) = c0 :: ((T.take (i + 1)).map finC ++ T.drop (i + 1)) := by
          rw [<- hF, List.set_cons_succ]
          congr 1
          have hcT : c = T[i] := by rw [List.getElem?_eq_getElem (by omega)] at hc; exact (Option.some.inj hc).symm
          rw [List.set_append_right _ _ (by rw [List.length_map, List.length_take]; omega), List.length_map, List.length_take, Nat.min_eq_left (by omega), Nat.sub_self, List.take_succ_eq_append_getElem (by omega), List.map_append, List.drop_eq_getElem_cons (by omega), List.set_cons_zero, List.append_assoc, hcT]; rfl
        obtain ⟨b, hb⟩ := H30.recBase (by decide) cls4_len (i := i + 1) (by omega)
        rw [hb]
        simp only [NC_some]
        have d0 := H30.recCell cls4_len hb hFi (j := 0) rfl
        have d1 := H30.recCell cls4_len hb hFi (j := 1) rfl
        rw [Nat.add_zero] at d0
        refine ⟨⟨by omega, by omega⟩, c.2.1, by rw [add_add]; exact d1, ?_⟩
        refine JOIN_intro (fun _ w' => Sat (Row E.t_api_Class 4 s10 (recs cls4 (FX.set (i + 1) ((finC c).1, c.2))) :: Z) w') ?_ ?_
        · refine ⟨c.1, d0, o1, o2, by decide, LET_intro fun wide hwide => ⟨c.1, d0, CND_dec (fun hgt => ?_) fun hng => ?_⟩⟩
          · have e1 : (finC c).1 = wide := by unfold finC; dsimp only; rw [<- hwide, if_pos hgt]
            refine st_row H30 (j := (i + 1) * 4) rfl (by rw [recs_len cls4_len]; omega) hb fun w40 H40 => ?_
            have := recs_set cls4_len hFi (j := 0) (y := (wide, c.2)) (v := .int .i64 wide) (by decide) rfl
            rw [Nat.add_zero] at this
            rw [this] at H40
            show Sat (Row E.t_api_Class 4 s10 (recs cls4 (FX.set (i + 1) ((finC c).1, c.2))) :: Z) w40
            rw [e1]; exact H40
          · have e1 : (finC c).1 = c.1 := by unfold finC; dsimp only; rw [<- hwide, if_neg hng]
            show Sat (Row E.t_api_Class 4 s10 (recs cls4 (FX.set (i + 1) ((finC c).1, c.2))) :: Z) w30
            rw [e1]
            have : FX.set (i + 1) (c.1, c.2) = FX := by
              have := List.getElem?_eq_some_iff.1 hFi
              rw [show (c.1, c.2) = FX[i + 1] from this.2.symm, List.set_getElem_self]
            rw [this]; exact H30
        rintro _ _ w36 H36
        have g1 : (FX.set (i + 1) ((finC c).1, c.2))[i + 1]? = some ((finC c).1, c.2) := by rw [List.getElem?_set_self (by omega)]
        have f0 := H36.recCell cls4_len hb g1 (j := 0) rfl
        rw [Nat.add_zero] at f0
        have hslots : i64 (Int.tdiv (i64 (c.2.1 * 8192)) (finC c).1) = (finC c).2.2.1 := rfl
        refine ⟨(finC c).1, f0, o3, ?_⟩
        rw [hslots, add_add]
        refine st_row H36 (j := (i + 1) * 4 + 2) rfl (by rw [recs_len cls4_len, List.length_set]; omega) hb fun w42 H42 => ?_
        have := recs_set cls4_len g1 (j := 2) (y := ((finC c).1, c.2.1, (finC c).2.2.1, c.2.2.2)) (v := .int .i64 (finC c).2.2.1) (by decide) rfl
        rw [this, List.set_set] at H42
        have g2 : (FX.set (i + 1) ((finC c).1, c.2.1, (finC c).2.2.1, c.2.2.2))[i + 1]? = some ((finC c).1, c.2.1, (finC c).2.2.1, c.2.2.2) := by rw [List.getElem?_set_self (by omega)]
        have f0' := H42.recCell cls4_len hb g2 (j := 0) rfl
        rw [Nat.add_zero] at f0'
        refine ⟨(finC c).1, f0', magic_spec o4 ?_⟩
        have hmag : (if IntKind.wrap .u32 (finC c).1 < 2 then (0 : Int) else IntKind.wrap .u32 (IntKind.wrap .u32 (Int.tdiv 4294967295 (IntKind.wrap .u32 (finC c).1)) + 1)) = (finC c).2.2.2 := rfl
        rw [hmag, add_add]
        refine st_row H42 (j := (i + 1) * 4 + 3) rfl (by rw [recs_len cls4_len, List.length_set]; omega) hb fun w46 H46 => ⟨⟨i + 1, by omega, by omega, ?_⟩, by omega⟩
        have h3 := recs_set cls4_len g2 (j := 3) (y := finC c) (v := .int .u32 (finC c).2.2.2) (by decide) rfl
        rw [h3, List.set_set, hFs] at H46
        exact H46
      · have hi' : i = 67 := by omega
        subst hi'
        rw [<- hT, List.take_length, List.drop_length, List.append_nil, <- htab] at H30
        exact hK _ _ H30
end
end Go.Sh

set_option linter.all false
set_option maxRecDepth 4000
set_option maxHeartbeats 1000000
namespace Go.Sh
structure SI where
  base : Int
  pages : Int
  state : Int
  cls : Int
  noptr : Bool
  elem : Int
  slots : Int
  used : Int
  f8 : Bool
  f9 : Bool
  magic : Int
  uw : List Int
  mw : List Int
  look : Int
def sicells (S : SI) (su sm : SlV) : List Value := [.int .u64 S.base, .int .i64 S.pages, .int .i64 S.state, .int .i64 S.cls, .bool S.noptr, .int .i64 S.elem, .int .i64 S.slots, .int .i64 S.used, .bool S.f8, .bool S.f9, .int .u32 S.magic, slV su, slV sm, .int .i64 S.look]
def spres (E : Env) (b : Nat) (S : SI) (su sm : SlV) : List Pr := [Cells b E.t_span_Span (sicells S su sm), Row E.t_uint64 1 su (ints .u64 S.uw), Row E.t_uint64 1 sm (ints .u64 S.mw)]
def SpanP (E : Env) (b : Nat) (S : SI) : Pr := Ex fun x : SlV × SlV => Star (spres E b S x.1 x.2)
def clsAt (c : Int) : Cls := clsT.getD c.toNat (0, 0, 0, 0)
def spBad (page pages c : Int) : Prop := pages = 0 ∨ 34359738368 < page ∨ 34359738368 - page < pages ∨ c < 0 ∨ 68 <= c ∨ (c = 0 /\ 134217728 < pages) ∨ (0 < c /\ pages ≠ (clsAt c).2.1)
def spOf (page pages c : Int) (noptr : Bool) : SI := ⟨page * 8192, pages, 1, c, noptr, if c = 0 then pages * 8192 else (clsAt c).1, if c = 0 then 1 else (clsAt c).2.2.1, 0, false, false, (clsAt c).2.2.2, [], [], 0⟩
theorem cls_pages : (clsT.all fun c => decide (0 <= c.2.1) && decide (c.2.1 <= 100)) = true := by decide +kernel
theorem cls_at {c : Int} (h0 : 0 <= c) (h1 : c < 68) : clsT[c.toNat]? = some (clsAt c) := by
  have hl : c.toNat < clsT.length := by rw [cls_len]; omega
  unfold clsAt
  rw [List.getD_eq_getElem?_getD, List.getElem?_eq_getElem hl]; rfl
theorem cls_bnd {c : Int} (h0 : 0 <= c) (h1 : c < 68) : 0 <= (clsAt c).2.1 /\ (clsAt c).2.1 <= 100 := by
  have := List.all_eq_true.1 cls_pages _ (List.mem_of_getElem? (cls_at h0 h1))
  simpa using this
section
variable {E : Env} {b : Nat} {S : SI} {Z : List Pr} {w : World}
theorem Sat.span : Sat (SpanP E b S :: Z) w ↔ ∃ su sm, Sat (spres E b S su sm ++ Z) w := by
  unfold SpanP
  rw [Sat.ex]
  constructor
  · rintro ⟨⟨su, sm⟩, h⟩; exact ⟨su, sm, Sat.star.1 h⟩
  · rintro ⟨su, sm, h⟩; exact ⟨⟨su, sm⟩, Sat.star.2 h⟩
theorem spnew_spec (H : Sat Z w) {page pages c : Int} {np : Bool} (h0 : 0 <= page) (p0 : 0 <= pages) (p1 : pages < 18446744073709551616) {K : Option Addr -> Int -> World -> Prop}
    (hk0 : spBad page pages c -> ∀ w', Sat Z w' -> K none 1 w') (hk1 : ¬ spBad page pages c -> ∀ b w', Sat (SpanP E b (spOf page pages c np) :: Z) w' -> K (some ⟨b, 0, none⟩) 0 w') : F.span_New E page pages c np K w := by
  unfold F.span_New T0.span_New
  refine table_spec H fun r1 w2 H2 => ?_
  have hl := H2.recLen (by decide) cls4_len
  rw [cls_len] at hl
  have ct : 0 <= c -> c < 68 -> ∃ x, r1.base = some ⟨x, 0, none⟩ /\ ∀ {w'} {Y : List Pr}, Sat (Row E.t_api_Class 4 r1 (recs cls4 clsT) :: Y) w' -> w'.cell? ((Addr.mk x 0 none).add (Int.toNat c * 4)) = some (.int .i64 (clsAt c).1) /\ w'.cell? (((Addr.mk x 0 none).add (Int.toNat c * 4)).add 1) = some (.int .i64 (clsAt c).2.1) /\
      w'.cell? (((Addr.mk x 0 none).add (Int.toNat c * 4)).add 2) = some (.int .i64 (clsAt c).2.2.1) /\ w'.cell? (((Addr.mk x 0 none).add (Int.toNat c * 4)).add 3) = some (.int .u32 (clsAt c).2.2.2) := fun c0 c1 => by
    obtain ⟨x, hx⟩ := H2.recBase (by decide) cls4_len (i := c.toNat) (by rw [cls_len]; omega)
    refine ⟨x, hx, fun h => ⟨?_, ?_, ?_, ?_⟩⟩
    · have := h.recCell cls4_len hx (cls_at c0 c1) (j := 0) rfl; rwa [Nat.add_zero] at this
    · rw [add_add]; exact h.recCell cls4_len hx (cls_at c0 c1) (j := 1) rfl
    · rw [add_add]; exact h.recCell cls4_len hx (cls_at c0 c1) (j := 2) rfl
    · rw [add_add]; exact h.recCell cls4_len hx (cls_at c0 c1) (j := 3) rfl
  have hbad : spBad page pages c -> K none 1 w2 := fun h => hk0 h w2 H2.tail
  have main : ¬ spBad page pages c -> 
      NC r1.base fun p10 =>
      ((0 : Int) <= c /\ (c : Int) < (r1.len : Nat)) /\
      ∃ x11 : Int, w2.drew.cell? (p10.add (Int.toNat c * 4)) = some (.int .i64 x11) /\
      NC r1.base fun p12 =>
      ((0 : Int) <= c /\ (c : Int) < (r1.len : Nat)) /\
      ∃ x13 : Int, w2.drew.cell? ((p12.add (Int.toNat c * 4)).add 2) = some (.int .i64 x13) /\
      NC r1.base fun p14 =>
      ((0 : Int) <= c /\ (c : Int) < (r1.len : Nat)) /\
      ∃ x15 : Int, w2.drew.cell? ((p14.add (Int.toNat c * 4)).add 3) = some (.int .u32 x15) /\
      AL (.cells #[.int .u64 (u64 (page * 8192)), .int .i64 (i64 (pages)), .int .i64 1, .int .i64 c, .bool np, .int .i64 x11, .int .i64 x13, .int .i64 0, .bool false, .bool false, .int .u32 x15, .slice none 0 0, .slice none 0 0, .int .i64 0] E.t_span_Span) w2.drew fun b16 w17 =>
      w17.cell? ((p14.add (Int.toNat c * 4)).add 3) = some (.int .u32 x15) /\
      w17.cell? ((p12.add (Int.toNat c * 4)).add 2) = some (.int .i64 x13) /\
      w17.cell? (p10.add (Int.toNat c * 4)) = some (.int .i64 x11) /\
      CND ((c : Int) == 0) (
        stCells ((Addr.mk b16 0 none).add 5) 0 [.int .i64 (i64 ((i64 (pages)) * 8192))] w17 fun w18 =>
        stCells ((Addr.mk b16 0 none).add 6) 0 [.int .i64 1] w18 fun w19 =>
        K (some (Addr.mk b16 0 none)) 0 w19
      ) (
        K (some (Addr.mk b16 0 none)) 0 w17
      ) := fun hno => by
    have hno' := hno
    unfold spBad at hno'
    have c0 : 0 <= c := by omega
    have c1 : c < 68 := by omega
    have hcb := cls_bnd c0 c1
    have hpg : pages <= 134217728 := by
      by_cases e : c = 0
      · omega
      · have : pages = (clsAt c).2.1 := Classical.byContradiction fun h => hno' (.inr (.inr (.inr (.inr (.inr (.inr ⟨by omega, h⟩))))))
        omega
    obtain ⟨x, hx, hcell⟩ := ct c0 c1
    have Hd := H2.drew
    obtain ⟨d0, d1, d2, d3⟩ := hcell Hd
    have hcl : (0 : Int) <= c /\ (c : Int) < (r1.len : Nat) := by omega
    rw [hx]
    simp only [NC_some]
    refine ⟨hcl, _, d0, hcl, _, d2, hcl, _, d3, ?_⟩
    rw [u64_id (n := page * 8192) (by omega) (by omega), i64_id (n := pages) (by omega) (by omega), i64_id (n := pages * 8192) (by omega) (by omega)]
    refine AL_cells (vs := [.int .u64 (page * 8192), .int .i64 pages, .int .i64 1, .int .i64 c, .bool np, .int .i64 (clsAt c).1, .int .i64 (clsAt c).2.2.1, .int .i64 0, .bool false, .bool false, .int .u32 (clsAt c).2.2.2, .slice none 0 0, .slice none 0 0, .int .i64 0]) Hd fun b16 w17 H17 _ => ?_
    obtain ⟨f0, f1, f2, f3⟩ := hcell (H17.front 1 rfl)
    have fin : ∀ {w'} {el sl : Int}, el = (if c = 0 then pages * 8192 else (clsAt c).1) -> sl = (if c = 0 then 1 else (clsAt c).2.2.1) ->
        Sat (Cells b16 E.t_span_Span [.int .u64 (page * 8192), .int .i64 pages, .int .i64 1, .int .i64 c, .bool np, .int .i64 el, .int .i64 sl, .int .i64 0, .bool false, .bool false, .int .u32 (clsAt c).2.2.2, .slice none 0 0, .slice none 0 0, .int .i64 0] :: Row E.t_api_Class 4 r1 (recs cls4 clsT) :: Z) w' -> K (some ⟨b16, 0, none⟩) 0 w' := fun e1 e2 h => by
      subst e1; subst e2
      refine hk1 hno b16 _ (Sat.span.2 ⟨⟨none, 0, 0⟩, ⟨none, 0, 0⟩, ?_⟩)
      have h1 := (h.front 1 rfl).tail
      have h2 := h1.nil E.t_uint64 1
      have h3 := h2.nil E.t_uint64 1
      exact h3.perm ((List.reverse_perm [_, _, _]).symm.append_right Z)
    refine ⟨f3, f2, f0, CND_eq (fun e => ?_) fun e => fin (by rw [if_neg e]) (by rw [if_neg e]) H17⟩
    refine st_cell H17 (o := 0) (m := 5) rfl (by simp) fun w18 H18 => st_cell H18 (o := 0) (m := 6) rfl (by simp) fun w19 H19 => fin (by rw [if_pos e]) (by rw [if_pos e]) H19
  refine JOIN_in (CND_eq (fun e j => CND_t rfl (hbad (.inl e))) fun n1 => CND_dec (fun e j => CND_t rfl (hbad (.inr (.inl (by omega))))) fun n2 => ?_)
  rw [u64_id (n := 34359738368 - page) (by omega) (by omega)]
  refine CND_dec (fun e j => CND_t rfl (hbad (.inr (.inr (.inl (by omega)))))) fun n3 => CND_dec (fun e j => CND_t rfl (hbad (.inr (.inr (.inr (.inl e)))))) fun n4 => CND_dec (fun e j => CND_t rfl (hbad (.inr (.inr (.inr (.inr (.inl (by omega))))))) ) fun n5 => CND_eq (fun e0 => CND_dec (fun e j => CND_t rfl (hbad (.inr (.inr (.inr (.inr (.inr (.inl ⟨e0, by omega⟩)))))))) fun n6 => CND_dec (fun e => by omega) fun n7 j => CND_f rfl (main ?_)) fun e0 => CND_dec (fun e => ?_) fun n7 => by omega
  · unfold spBad; omega
  · obtain ⟨x, hx, hcell⟩ := ct (by omega) (by omega)
    have hcb := cls_bnd (c := c) (by omega) (by omega)
    have hc1 := (hcell H2).2.1
    have m' := main
    rw [hx] at m' ⊢
    simp only [NC_some] at m' ⊢
    refine ⟨⟨by omega, by omega⟩, _, hc1, fun j => ?_⟩
    rw [u64_id (n := (clsAt c).2.1) (by omega) (by omega)]
    refine CND_ne (fun h => hbad (.inr (.inr (.inr (.inr (.inr (.inr ⟨by omega, h⟩))))))) fun h => m' ?_
    unfold spBad; omega
theorem spinfo_spec (H : Sat (SpanP E b S :: Z) w) {K : Int -> Int -> Int -> Int -> Bool -> Int -> Int -> Int -> Bool -> Bool -> World -> Prop} (hK : ∀ w', Sat (SpanP E b S :: Z) w' -> K S.base S.pages S.state S.cls S.noptr S.elem S.slots S.used S.f8 S.f9 w') :
    F.span_Span_Info E (some ⟨b, 0, none⟩) K w := by
  obtain ⟨su, sm, H⟩ := Sat.span.1 H
  unfold F.span_Span_Info
  simp only [NC_some]
  refine AL_cells (vs := [.int .u64 0, .int .i64 0, .int .i64 0, .int .i64 0, .bool false, .int .i64 0, .int .i64 0, .int .i64 0, .bool false, .bool false]) H fun b1 w2 H2 _ => ?_
  have h := H2.front 1 rfl
  refine ⟨_, h.cell rfl, _, h.cell rfl, _, h.cell rfl, _, h.cell rfl, _, h.cell rfl, _, h.cell rfl, _, h.cell rfl, _, h.cell rfl, _, h.cell rfl, _, h.cell rfl, ?_⟩
  refine st_all (news := [.int .u64 S.base, .int .i64 S.pages, .int .i64 S.state, .int .i64 S.cls, .bool S.noptr, .int .i64 S.elem, .int .i64 S.slots, .int .i64 S.used, .bool S.f8, .bool S.f9]) H2 rfl (by simp [Value.oneCell']) fun w14 H14 => ?_
  exact ⟨_, H14.cell rfl, _, H14.cell rfl, _, H14.cell rfl, _, H14.cell rfl, _, H14.cell rfl, _, H14.cell rfl, _, H14.cell rfl, _, H14.cell rfl, _, H14.cell rfl, _, H14.cell rfl, hK w14 (Sat.span.2 ⟨su, sm, H14.tail⟩)⟩
theorem spdie_spec (H : Sat (SpanP E b S :: Z) w) {K : Int -> World -> Prop} (hk0 : (S.state = 0 ∨ 0 < S.used) -> K 33 w)
    (hk1 : ¬ (S.state = 0 ∨ 0 < S.used) -> ∀ w', Sat (SpanP E b { S with state := 0, used := 0, uw := [], mw := [] } :: Z) w' -> K 0 w') : F.span_Span_Die E (some ⟨b, 0, none⟩) K w := by
  obtain ⟨su, sm, H⟩ := Sat.span.1 H
  unfold F.span_Span_Die
  simp only [NC_some]
  refine JOIN_in ⟨_, H.cell rfl, CND_eq (fun e j => CND_t rfl (hk0 (.inl e))) fun n1 => ⟨_, H.cell rfl, fun j => CND_dec (fun e => hk0 (.inr e)) fun n2 => ?_⟩⟩
  refine st_cell H (o := 0) (m := 2) rfl (by simp [sicells]) fun w1 H1 => st_cell H1 (o := 0) (m := 7) rfl (by simp [sicells]) fun w2 H2 => st_cell H2 (o := 0) (m := 11) rfl (by simp [sicells]) fun w3 H3 => st_cell H3 (o := 0) (m := 12) rfl (by simp [sicells]) fun w4 H4 => hk1 (by omega) w4 (Sat.span.2 ⟨⟨none, 0, 0⟩, ⟨none, 0, 0⟩, ?_⟩)
  have h1 := (H4.front 1 rfl).tail
  have h2 := (h1.front 1 rfl).tail
  have h3 := h2.nil E.t_uint64 1
  have h4 := h3.nil E.t_uint64 1
  exact h4.perm ((List.reverse_perm [_, _, _]).symm.append_right Z)
end
end Go.Sh
