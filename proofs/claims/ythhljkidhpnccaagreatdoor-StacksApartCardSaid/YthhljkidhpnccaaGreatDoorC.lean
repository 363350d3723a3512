/- Records, classes and spans do what they say. No further condition. -/
import Derived.Test.YthhljkidhpnccaaGreatDoorA
import Derived.Test.YthhljkidhpnccaaGreatDoorM
import Derived.Test.YthhljkidhpnccaaGreatDoorY
import Derived.Test.YthhljkidhpnccaaGreatDoorF
import Derived.Test.YthhljkidhpnccaaGreatDoorSh
set_option linter.all false
set_option maxRecDepth 4000
set_option maxHeartbeats 1000000
namespace Go.Sh
section
variable {α : Type} {f : α -> List Value} {z : Nat}
def pos (key : α -> Int) : List α -> Int -> Nat
  | [], _ => 0
  | c :: r, n => if key c < n then pos key r n + 1 else 0
variable {key : α -> Int}
end
section
variable {α : Type} {f : α -> List Value} {z t : Nat} {F : List Pr} {w : World} {s : SlV} {L : List α}
end
end Go.Sh

set_option linter.all false
set_option maxRecDepth 4000
set_option maxHeartbeats 1000000
namespace Go.Sh
structure FX where
  n : Nat
  bk : List Nat
def afterL : List Nat -> Nat -> Option Nat
  | [], _ => none
  | a :: r, i => if a = i then r.head? else afterL r i
def ptrOf (R : Nat -> Nat) (x : Option Nat) : Option Addr := x.map fun i => ⟨R i, 0, none⟩
def recC (E : Env) (R : Nat -> Nat) (bk : List Nat) (i : Nat) : Pr := Cells (R i) E.t_fix_record [.int .i64 ((i : Int) + 1), .bool (!bk.contains i), .pointer (ptrOf R (afterL bk i))]
structure FInv (X : FX) : Prop where
  nd : X.bk.Nodup
  lt : ∀ i ∈ X.bk, i < X.n
  few : X.n <= 1099511627776
def fres (E : Env) (b : Nat) (X : FX) (s : SlV) (R : Nat -> Nat) (c : Int) : List Pr :=
  [Cells b E.t_fix_Fix [.int .i64 1, slV s, .pointer (ptrOf R X.bk.head?), .int .i64 c], Row E.t__fix_record 1 s ((List.range X.n).map fun i => .pointer (some ⟨R i, 0, none⟩)), Many (recC E R X.bk) (List.range X.n)]
def FixP (E : Env) (b : Nat) (X : FX) : Pr := Ex fun x : SlV × (Nat -> Nat) × Int => Where (FInv X) (Star (fres E b X x.1 x.2.1 x.2.2))
section
variable {E : Env} {b : Nat} {X : FX} {Z : List Pr} {w : World} {s : SlV} {R : Nat -> Nat} {c : Int}
theorem Sat.fix : Sat (FixP E b X :: Z) w ↔ ∃ s R c, FInv X /\ Sat (fres E b X s R c ++ Z) w := by
  unfold FixP
  rw [Sat.ex]
  constructor
  · rintro ⟨⟨s, R, c⟩, h⟩
    rw [Sat.where, Sat.star] at h
    exact ⟨s, R, c, h.1, h.2⟩
  · rintro ⟨s, R, c, h1, h2⟩
    refine ⟨⟨s, R, c⟩, ?_⟩
    rw [Sat.where, Sat.star]
    exact ⟨h1, h2⟩
theorem fnew_spec (H : Sat Z w) {K : Option Addr -> Int -> World -> Prop} (hK : ∀ b w', Sat (FixP E b ⟨0, []⟩ :: Z) w' -> K (some ⟨b, 0, none⟩) 0 w') : F.fix_New E 1 K w := by
  unfold F.fix_New
  refine JOIN_in (CND_f (by decide) fun j => CND_f (by decide) ?_)
  refine AL_cells (vs := [.int .i64 1, .slice none 0 0, .pointer none, .int .i64 0]) H fun b w' H' _ => hK b w' (Sat.fix.2 ⟨⟨none, 0, 0⟩, fun _ => 0, 0, ⟨.nil, fun i h => (by cases h), by decide⟩, ?_⟩)
  have h1 := H'.nil E.t__fix_record 1
  have h2 : Sat (Many (recC E (fun _ => 0) []) [] :: _) w' := h1.manyNil (recC E (fun _ => 0) [])
  exact h2.perm ((List.reverse_perm [_, _, _]).symm.append_right Z)
theorem after_not {l : List Nat} {i : Nat} (h : i ∉ l) : afterL l i = none := by
  induction l with
  | nil => rfl
  | cons a r ih =>
    unfold afterL
    rw [if_neg fun e => h (by simp [e]), ih fun e => h (by simp [e])]
theorem erase_ne {n a x : Nat} (ha : a < n) (hx : x ∈ (List.range n).eraseIdx a) : x ≠ a := by
  obtain ⟨i, hi⟩ := List.mem_iff_getElem?.1 hx
  rw [List.getElem?_eraseIdx] at hi
  split at hi
  · rename_i h
    rw [List.getElem?_range (by omega)] at hi
    cases hi; omega
  · rename_i h
    have hl := (List.getElem?_eq_some_iff.1 hi).1
    rw [List.length_range] at hl
    rw [List.getElem?_range hl] at hi
    cases hi; omega
theorem ftake_spec (H : Sat (FixP E b X :: Z) w) (hfew : X.n < 1099511627776) {K : Int -> World -> Prop}
    (hk1 : X.bk = [] -> ∀ w', Sat (FixP E b ⟨X.n + 1, []⟩ :: Z) w' -> K ((X.n : Int) + 1) w')
    (hk2 : ∀ a r, X.bk = a :: r -> ∀ w', Sat (FixP E b ⟨X.n, r⟩ :: Z) w' -> K ((a : Int) + 1) w') : F.fix_Fix_Take E (some ⟨b, 0, none⟩) K w := by
  obtain ⟨s, R, c, hI, H⟩ := Sat.fix.1 H
  unfold F.fix_Fix_Take
  simp only [NC_some]
  refine ⟨_, H.cell rfl, ?_⟩
  cases hb : X.bk with
  | nil =>
    unfold fres at H
    rw [hb] at H
    have hl := (H.front 1 rfl).rowLen
    rw [List.length_map, List.length_range, Nat.mul_one] at hl
    refine JOIN_in (CND_t rfl ⟨s, H.cell rfl, ?_⟩)
    rw [i64_id (n := ((s.len : Nat) : Int) + 1) (by omega) (by omega), <- hl]
    refine AL_cells (vs := [.int .i64 ((X.n : Int) + 1), .bool false, .pointer none]) H fun b8 w9 H9 _ => ⟨s, (H9.front 1 rfl).cell rfl, ?_⟩
    refine AL_cells (vs := [.pointer (some ⟨b8, 0, none⟩)]) H9 fun b12 w13 H13 _ => ?_
    refine APP_one (news := [.pointer (some ⟨b8, 0, none⟩)]) (H13.front2 2 rfl) rfl rfl (by intro v hv; simp at hv; subst hv; rfl) (by omega) (by omega) fun s14 w15 H15 _ => ?_
    refine st_cell (H15.front 2 rfl) (o := 0) (m := 1) rfl (by simp) fun w17 H17 j => ?_
    simp only [NC_some]
    have H18 := H17.front 2 rfl
    refine st_cell H18 (o := 0) (m := 1) rfl (by simp) fun w23 H23 => st_cell H23 (o := 0) (m := 2) rfl (by simp) fun w25 H25 => ?_
    have H26 := H25.front 1 rfl
    refine ⟨_, H26.cell rfl, st_cell H26 (o := 0) (m := 3) rfl (by simp) fun w29 H29 => ⟨_, (H29.front 1 rfl).cell0 rfl, hk1 hb w29 ?_⟩⟩
    refine Sat.fix.2 ⟨s14, fun i => if i = X.n then b8 else R i, i64 (c + 1), ⟨.nil, fun i h => (by cases h), by show X.n + 1 <= _; omega⟩, ?_⟩
    have e1 : (List.range (X.n + 1)).map (fun i => Value.pointer (some ⟨(if i = X.n then b8 else R i), 0, none⟩)) = ((List.range X.n).map fun i => Value.pointer (some ⟨R i, 0, none⟩)) ++ [.pointer (some ⟨b8, 0, none⟩)] := by
      rw [List.range_succ, List.map_append]
      congr 1
      · refine List.map_congr_left fun i hi => ?_
        have := List.mem_range.1 hi
        rw [if_neg (by omega)]
      · simp
    have e2 : Many (recC E R []) (List.range X.n) = Many (recC E (fun i => if i = X.n then b8 else R i) []) (List.range X.n) := Many.congr fun x hx => by
      have := List.mem_range.1 hx
      show recC E R [] x = Cells (if x = X.n then b8 else R x) _ _
      rw [if_neg (by omega)]; rfl
    have e3 : recC E (fun i => if i = X.n then b8 else R i) [] X.n = Cells b8 E.t_fix_record [.int .i64 ((X.n : Int) + 1), .bool true, .pointer none] := by
      show Cells (if X.n = X.n then b8 else R X.n) _ _ = _
      rw [if_pos rfl]; rfl
    have H30 := (H29.front 3 rfl).front2 1 rfl |> fun h => h.perm (.swap _ _ _)
    have H31 : Sat (recC E (fun i => if i = X.n then b8 else R i) [] X.n :: Many (recC E (fun i => if i = X.n then b8 else R i) []) (List.range X.n) :: Cells b E.t_fix_Fix [.int .i64 1, slV s14, .pointer none, .int .i64 (i64 (c + 1))] :: Row E.t__fix_record 1 s14 (((List.range X.n).map fun i => Value.pointer (some ⟨R i, 0, none⟩)) ++ [.pointer (some ⟨b8, 0, none⟩)]) :: Z) w29 := by
      rw [e3, <- e2]
      exact H30
    have H32 := H31.manySnoc
    rw [<- List.range_succ] at H32
    unfold fres
    rw [e1]
    exact H32.perm (by
      have : ∀ (a b c : Pr), (a :: b :: c :: Z).Perm (b :: c :: a :: Z) := fun a b c => (List.perm_middle (l₁ := [b, c]) (a := a)).symm
      exact this _ _ _)
  | cons a r =>
    unfold fres at H
    rw [hb] at H
    have ha : a < X.n := hI.lt a (by rw [hb]; simp)
    have hnd := hI.nd
    rw [hb] at hnd
    have har : a ∉ r := (List.nodup_cons.1 hnd).1
    have hg : (List.range X.n)[a]? = some a := List.getElem?_range ha
    have H2 := (H.front 2 rfl).manyGet hg
    have e0 : ptrOf R (afterL (a :: r) a) = ptrOf R r.head? := by unfold afterL; rw [if_pos rfl]
    have e0' : recC E R (a :: r) a = Cells (R a) E.t_fix_record [.int .i64 ((a : Int) + 1), .bool (!(a :: r).contains a), .pointer (ptrOf R r.head?)] := by unfold recC; rw [e0]
    rw [e0'] at H2
    refine JOIN_in (CND_f rfl ?_)
    show NC (some (Addr.mk (R a) 0 none)) _
    simp only [NC_some]
    refine ⟨_, H2.cell rfl, st_cell (H2.front 2 rfl) (o := 0) (m := 2) rfl (by simp) fun w21 H21 j => ?_⟩
    show NC (some (Addr.mk (R a) 0 none)) _
    simp only [NC_some]
    have H22 := H21.front 1 rfl
    refine st_cell H22 (o := 0) (m := 1) rfl (by simp) fun w23 H23 => ?_
    show NC (some (Addr.mk (R a) 0 none)) _
    simp only [NC_some]
    refine st_cell H23 (o := 0) (m := 2) rfl (by simp) fun w25 H25 => ?_
    have H26 := H25.front 1 rfl
    refine ⟨_, H26.cell rfl, st_cell H26 (o := 0) (m := 3) rfl (by simp) fun w29 H29 => ?_⟩
    show NC (some (Addr.mk (R a) 0 none)) _
    simp only [NC_some]
    refine ⟨_, (H29.front 1 rfl).cell0 rfl, hk2 a r hb w29 ?_⟩
    refine Sat.fix.2 ⟨s, R, i64 (c + 1), ⟨(List.nodup_cons.1 hnd).2, fun i hi => hI.lt i (by rw [hb]; simp [hi]), hI.few⟩, ?_⟩
    have e3 : recC E R r a = Cells (R a) E.t_fix_record [.int .i64 ((a : Int) + 1), .bool true, .pointer none] := by
      unfold recC
      rw [after_not har]
      have : r.contains a = false := by simpa using har
      rw [this]; rfl
    have e2 : Many (recC E R (a :: r)) ((List.range X.n).eraseIdx a) = Many (recC E R r) ((List.range X.n).eraseIdx a) := Many.congr fun x hx => by
      have hne := erase_ne ha hx
      unfold recC
      have h1 : (a :: r).contains x = r.contains x := by
        rw [List.contains_cons]
        have : (x == a) = false := by simpa using hne
        rw [this, Bool.false_or]
      have h2 : afterL (a :: r) x = afterL r x := by
        show (if a = x then r.head? else afterL r x) = _
        rw [if_neg fun e => hne e.symm]
      rw [h1, h2]
    have H30 := (H29.front 1 rfl).front2 1 rfl
    rw [e2] at H30
    have H31 : Sat (recC E R r a :: Many (recC E R r) ((List.range X.n).eraseIdx a) :: Cells b E.t_fix_Fix [.int .i64 1, slV s, .pointer (ptrOf R r.head?), .int .i64 (i64 (c + 1))] :: Row E.t__fix_record 1 s ((List.range X.n).map fun i => .pointer (some ⟨R i, 0, none⟩)) :: Z) w29 := by
      rw [e3]; exact H30
    have H32 := H31.manyBack hg
    exact H32.perm (by
      have : ∀ (a b c : Pr), (a :: b :: c :: Z).Perm (b :: c :: a :: Z) := fun a b c => (List.perm_middle (l₁ := [b, c]) (a := a)).symm
      exact this _ _ _)
theorem fgive_spec (H : Sat (FixP E b X :: Z) w) {a : Nat} (ha : a < X.n) (hna : a ∉ X.bk) {K : Int -> World -> Prop} (hK : ∀ w', Sat (FixP E b ⟨X.n, a :: X.bk⟩ :: Z) w' -> K 0 w') : F.fix_Fix_Give E (some ⟨b, 0, none⟩) ((a : Int) + 1) K w := by
  obtain ⟨s, R, c, hI, H⟩ := Sat.fix.1 H
  have hfew := hI.few
  have hl := (H.front 1 rfl).rowLen
  rw [List.length_map, List.length_range, Nat.mul_one] at hl
  have hg : (List.range X.n)[a]? = some a := List.getElem?_range ha
  have hgp : ((List.range X.n).map fun i => Value.pointer (some ⟨R i, 0, none⟩))[a]? = some (.pointer (some ⟨R a, 0, none⟩)) := by rw [List.getElem?_map, hg]; rfl
  obtain ⟨x, hx⟩ := (H.front 1 rfl).own.base_of (by omega)
  have hc := (H.front 1 rfl).own.cell hx hgp
  unfold F.fix_Fix_Give T0.fix_Fix_Give F.fix_Fix_Live
  simp only [NC_some, Nat.mul_one]
  have et : Int.toNat (i64 (((a : Int) + 1) - 1)) = a := by rw [i64_id (by omega) (by omega)]; omega
  have H2 := (H.front 2 rfl).manyGet hg
  have e0 : recC E R X.bk a = Cells (R a) E.t_fix_record [.int .i64 ((a : Int) + 1), .bool true, .pointer none] := by
    unfold recC
    rw [after_not hna]
    have : X.bk.contains a = false := by simpa using hna
    rw [this]; rfl
  rw [e0] at H2
  refine CND_t (decide_eq_true (by omega)) ⟨s, H.cell rfl, CND_t (decide_eq_true (by omega)) ⟨s, H.cell rfl, ?_⟩⟩
  rw [hx]
  simp only [NC_some]
  rw [et]
  have hbd : (0 : Int) <= i64 (((a : Int) + 1) - 1) /\ i64 (((a : Int) + 1) - 1) < (s.len : Nat) := by rw [i64_id (by omega) (by omega)]; omega
  refine ⟨hbd, _, hc, ?_⟩
  simp only [NC_some]
  refine ⟨true, H2.cell rfl, CND_f rfl ⟨s, H.cell rfl, ?_⟩⟩
  rw [hx]
  simp only [NC_some]
  refine ⟨hbd, _, hc, _, H.cell rfl, ?_⟩
  simp only [NC_some]
  refine st_cell H2 (o := 0) (m := 1) rfl (by simp) fun w10 H10 => st_cell H10 (o := 0) (m := 2) rfl (by simp) fun w12 H12 => ?_
  refine st_cell (H12.front 2 rfl) (o := 0) (m := 2) rfl (by simp) fun w14 H14 => ⟨_, H14.cell rfl, st_cell H14 (o := 0) (m := 3) rfl (by simp) fun w18 H18 => hK w18 ?_⟩
  refine Sat.fix.2 ⟨s, R, i64 (c - 1), ⟨List.nodup_cons.2 ⟨hna, hI.nd⟩, fun i hi => ?_, hI.few⟩, ?_⟩
  · rcases List.mem_cons.1 hi with h | h
    · subst h; exact ha
    · exact hI.lt i h
  · have e3 : recC E R (a :: X.bk) a = Cells (R a) E.t_fix_record [.int .i64 ((a : Int) + 1), .bool false, .pointer (ptrOf R X.bk.head?)] := by
      unfold recC
      have : (a :: X.bk).contains a = true := by simp
      rw [this]
      have : afterL (a :: X.bk) a = X.bk.head? := by unfold afterL; rw [if_pos rfl]
      rw [this]; rfl
    have e2 : Many (recC E R X.bk) ((List.range X.n).eraseIdx a) = Many (recC E R (a :: X.bk)) ((List.range X.n).eraseIdx a) := Many.congr fun x hx => by
      have hne := erase_ne ha hx
      unfold recC
      have h1 : (a :: X.bk).contains x = X.bk.contains x := by
        rw [List.contains_cons]
        have : (x == a) = false := by simpa using hne
        rw [this, Bool.false_or]
      have h2 : afterL (a :: X.bk) x = afterL X.bk x := by
        show (if a = x then X.bk.head? else afterL X.bk x) = _
        rw [if_neg fun e => hne e.symm]
      rw [h1, h2]
    have H30 := (H18.front 1 rfl).front2 1 rfl
    rw [e2] at H30
    have H31 : Sat (recC E R (a :: X.bk) a :: Many (recC E R (a :: X.bk)) ((List.range X.n).eraseIdx a) :: Cells b E.t_fix_Fix [.int .i64 1, slV s, .pointer (some ⟨R a, 0, none⟩), .int .i64 (i64 (c - 1))] :: Row E.t__fix_record 1 s ((List.range X.n).map fun i => .pointer (some ⟨R i, 0, none⟩)) :: Z) w18 := by
      rw [e3]; exact H30
    have H32 := Sat.manyBack H31 hg
    exact H32.perm (by
      have : ∀ (a b c : Pr), (a :: b :: c :: Z).Perm (b :: c :: a :: Z) := fun a b c => (List.perm_middle (l₁ := [b, c]) (a := a)).symm
      exact this _ _ _)
end
end Go.Sh

set_option linter.all false
set_option maxRecDepth 4000
set_option maxHeartbeats 2000000
namespace Go.Sh
abbrev Cls := Int × Int × Int × Int
def powB (n : Int) : Bool := (n != 0) && (bitK .u64 0 n (u64 (n - 1)) == 0)
def stepF (size was : Int) : Int := if powB (u64 size) = false then was else if 2048 <= size then 256 else if 128 <= size then i64 (Int.tdiv size 8) else if 32 <= size then 16 else was
def bytesF (size : Int) : Nat -> Int -> Int
  | 0, n => n
  | k + 1, n => if Int.tmod n size > i64 (Int.tdiv n 8) then bytesF size k (i64 (n + 8192)) else n
structure MkS where
  by_ : Int
  size : Int
  l : List Cls
def MkS.last (s : MkS) : Cls := s.l.getLastD (0, 0, 0, 0)
def MkS.same (s : MkS) : Bool := decide (1 < s.l.length) && (s.last.2.1 == i64 (Int.tdiv (bytesF s.size 16 8192) 8192) && (i64 (Int.tdiv (i64 (s.last.2.1 * 8192)) s.last.1) == i64 (Int.tdiv (bytesF s.size 16 8192) s.size)))
def MkS.next (s : MkS) : MkS :=
  ⟨stepF s.size s.by_, i64 (s.size + stepF s.size s.by_),
    if s.same = true then s.l.dropLast ++ [(s.size, s.last.2)] else s.l ++ [(s.size, i64 (Int.tdiv (bytesF s.size 16 8192) 8192), 0, 0)]⟩
section
variable {E : Env} {w : World} {Z : List Pr}
end
end Go.Sh

set_option linter.all false
set_option maxRecDepth 4000
set_option maxHeartbeats 1000000
namespace Go.Sh
structure SI where
  base : Int
  pages : Int
  state : Int
  cls : Int
  noptr : Bool
  elem : Int
  slots : Int
  used : Int
  f8 : Bool
  f9 : Bool
  magic : Int
  uw : List Int
  mw : List Int
  look : Int
def sicells (S : SI) (su sm : SlV) : List Value := [.int .u64 S.base, .int .i64 S.pages, .int .i64 S.state, .int .i64 S.cls, .bool S.noptr, .int .i64 S.elem, .int .i64 S.slots, .int .i64 S.used, .bool S.f8, .bool S.f9, .int .u32 S.magic, slV su, slV sm, .int .i64 S.look]
def spres (E : Env) (b : Nat) (S : SI) (su sm : SlV) : List Pr := [Cells b E.t_span_Span (sicells S su sm), Row E.t_uint64 1 su (ints .u64 S.uw), Row E.t_uint64 1 sm (ints .u64 S.mw)]
def SpanP (E : Env) (b : Nat) (S : SI) : Pr := Ex fun x : SlV × SlV => Star (spres E b S x.1 x.2)
section
variable {E : Env} {b : Nat} {S : SI} {Z : List Pr} {w : World}
theorem Sat.span : Sat (SpanP E b S :: Z) w ↔ ∃ su sm, Sat (spres E b S su sm ++ Z) w := by
  unfold SpanP
  rw [Sat.ex]
  constructor
  · rintro ⟨⟨su, sm⟩, h⟩; exact ⟨su, sm, Sat.star.1 h⟩
  · rintro ⟨su, sm, h⟩; exact ⟨⟨su, sm⟩, Sat.star.2 h⟩
theorem spinfo_spec (H : Sat (SpanP E b S :: Z) w) {K : Int -> Int -> Int -> Int -> Bool -> Int -> Int -> Int -> Bool -> Bool -> World -> Prop} (hK : ∀ w', Sat (SpanP E b S :: Z) w' -> K S.base S.pages S.state S.cls S.noptr S.elem S.slots S.used S.f8 S.f9 w') :
    F.span_Span_Info E (some ⟨b, 0, none⟩) K w := by
  obtain ⟨su, sm, H⟩ := Sat.span.1 H
  unfold F.span_Span_Info
  simp only [NC_some]
  refine AL_cells (vs := [.int .u64 0, .int .i64 0, .int .i64 0, .int .i64 0, .bool false, .int .i64 0, .int .i64 0, .int .i64 0, .bool false, .bool false]) H fun b1 w2 H2 _ => ?_
  have h := H2.front 1 rfl
  refine ⟨_, h.cell rfl, _, h.cell rfl, _, h.cell rfl, _, h.cell rfl, _, h.cell rfl, _, h.cell rfl, _, h.cell rfl, _, h.cell rfl, _, h.cell rfl, _, h.cell rfl, ?_⟩
  refine st_all (news := [.int .u64 S.base, .int .i64 S.pages, .int .i64 S.state, .int .i64 S.cls, .bool S.noptr, .int .i64 S.elem, .int .i64 S.slots, .int .i64 S.used, .bool S.f8, .bool S.f9]) H2 rfl (by simp [Value.oneCell']) fun w14 H14 => ?_
  exact ⟨_, H14.cell rfl, _, H14.cell rfl, _, H14.cell rfl, _, H14.cell rfl, _, H14.cell rfl, _, H14.cell rfl, _, H14.cell rfl, _, H14.cell rfl, _, H14.cell rfl, _, H14.cell rfl, hK w14 (Sat.span.2 ⟨su, sm, H14.tail⟩)⟩
theorem spdie_spec (H : Sat (SpanP E b S :: Z) w) {K : Int -> World -> Prop} (hk0 : (S.state = 0 ∨ 0 < S.used) -> K 33 w)
    (hk1 : ¬ (S.state = 0 ∨ 0 < S.used) -> ∀ w', Sat (SpanP E b { S with state := 0, used := 0, uw := [], mw := [] } :: Z) w' -> K 0 w') : F.span_Span_Die E (some ⟨b, 0, none⟩) K w := by
  obtain ⟨su, sm, H⟩ := Sat.span.1 H
  unfold F.span_Span_Die
  simp only [NC_some]
  refine JOIN_in ⟨_, H.cell rfl, CND_eq (fun e j => CND_t rfl (hk0 (.inl e))) fun n1 => ⟨_, H.cell rfl, fun j => CND_dec (fun e => hk0 (.inr e)) fun n2 => ?_⟩⟩
  refine st_cell H (o := 0) (m := 2) rfl (by simp [sicells]) fun w1 H1 => st_cell H1 (o := 0) (m := 7) rfl (by simp [sicells]) fun w2 H2 => st_cell H2 (o := 0) (m := 11) rfl (by simp [sicells]) fun w3 H3 => st_cell H3 (o := 0) (m := 12) rfl (by simp [sicells]) fun w4 H4 => hk1 (by omega) w4 (Sat.span.2 ⟨⟨none, 0, 0⟩, ⟨none, 0, 0⟩, ?_⟩)
  have h1 := (H4.front 1 rfl).tail
  have h2 := (h1.front 1 rfl).tail
  have h3 := h2.nil E.t_uint64 1
  have h4 := h3.nil E.t_uint64 1
  exact h4.perm ((List.reverse_perm [_, _, _]).symm.append_right Z)
end
end Go.Sh
