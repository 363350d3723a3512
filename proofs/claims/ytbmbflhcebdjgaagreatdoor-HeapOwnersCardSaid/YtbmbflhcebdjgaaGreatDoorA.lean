/- What a law's arguments are, read once for all. No further condition. -/
import Derived.Test.YtbmbflhcebdjgaaGreatDoorM
import Derived.WalkKit
import Derived.ProofKit
import Derived.OpenShut
import Derived.ChangeOld
import Derived.Below
import Derived.Carry
import Derived.DataReads
import Derived.Test.YtbmbflhcebdjgaaGreatDoorSh
import Derived.Lib.TrailingZeros
set_option linter.all false
namespace Go.Sh
open Go.ChangeShapes Go.WideShapes Go.ChangeAt Go.RowKit
inductive AT where
  | int (k : IntKind) | bool | sl (e : AT) | nil | cons (f r : AT)
def AT.size : AT -> Nat
  | .int _ => 1 | .bool => 1 | .sl _ => 1 | .nil => 0 | .cons f r => f.size + r.size
def ArgS (w : World) : AT -> List Value -> Prop
  | .int k, cs => ∃ n, cs = [.int k n] /\ (Lit.int k n).wf = true
  | .bool, cs => ∃ b, cs = [.bool b]
  | .sl e, cs => ∃ s : SlV, cs = [.slice s.base s.len s.cap] /\ s.len <= s.cap /\ s.cap <= maxLen /\
      ∀ j, j < s.len -> ∃ x l, s.base = some x /\ l.length = e.size /\ (∀ i v, l[i]? = some v -> w.cell? (x.add (j * e.size + i)) = some v) /\ ArgS w e l
  | .nil, cs => cs = []
  | .cons f r, cs => ∃ a b, cs = a ++ b /\ ArgS w f a /\ ArgS w r b
def shapeF (P : Program) (sh : TypeId -> Option AT) : List Field -> Nat -> Option AT
  | [], _ => some .nil
  | f :: r, off => match Nat.beq f.offset off with
    | true => match sh f.type with
      | some a => match Nat.beq a.size (P.cellsOf f.type) with
        | true => match shapeF P sh r (off + a.size) with
          | some b => some (.cons a b)
          | none => none
        | false => none
      | none => none
    | false => none
def shapeP (P : Program) : Nat -> TypeId -> Option AT
  | 0, _ => none
  | n + 1, t => match P.underlying t with
    | some .bool => some .bool
    | some (.int k) => some (.int k)
    | some (.slice e) => match shapeP P n e with
      | some a => match Nat.beq a.size (P.cellsOf e) with
        | true => some (.sl a)
        | false => none
      | none => none
    | some (.struct fs) => match shapeF P (shapeP P n) fs.toList 0 with
      | some a => match Nat.beq a.size (P.cellsOf t) with
        | true => some a
        | false => none
      | none => none
    | _ => none
section
variable {H : Type} {enc : TypeId × Value -> H} {P : Program} {w : World} {base : Nat} {sp : Nat -> Bool} {held : Bool}
theorem cells_get {w : World} {base : Nat} {a : Addr} {n : Nat} {l : List Value} (h : w.cells? base a n = some l) : l.length = n /\ ∀ i v, l[i]? = some v -> w.cell? (a.add i) = some v := by
  unfold World.cells? at h
  split at h
  · have key : ∀ (m : Nat) (k : Nat) (l : List Value), ((List.range' k m).mapM fun i => w.cell? (a.add i)) = some l -> l.length = m /\ ∀ i v, l[i]? = some v -> w.cell? (a.add (k + i)) = some v := by
      intro m
      induction m with
      | zero => intro k l h; simp at h; subst h; simp
      | succ m ih =>
        intro k l h
        rw [List.range'_succ, List.mapM_cons] at h
        cases hx : w.cell? (a.add k) with
        | none => simp [hx] at h
        | some y =>
          cases hl : (List.range' (k + 1) m).mapM fun i => w.cell? (a.add i) with
          | none => simp [hx, hl] at h
          | some ys =>
            simp [hx, hl] at h
            subst h
            obtain ⟨h1, h2⟩ := ih (k + 1) ys hl
            refine ⟨by simp [h1], fun i v hv => ?_⟩
            cases i with
            | zero => simp at hv; subst hv; simpa using hx
            | succ i => have := h2 i v (by simpa using hv); rw [show k + (i + 1) = k + 1 + i from by omega]; exact this
    rw [List.range_eq_range'] at h
    have := key n 0 l h
    simpa using this
  · cases h
theorem shapeF_sound {sh : TypeId -> Option AT} {tr : TypeId -> List Value -> Prop} (hsh : ∀ t a cs, sh t = some a -> tr t cs -> ArgS w a cs) :
    ∀ (fs : List Field) (off : Nat) (a : AT) (cs : List Value), shapeF P sh fs off = some a -> cs.length = off + a.size -> (∀ f ∈ fs, tr f.type ((cs.drop f.offset).take (P.cellsOf f.type))) -> ArgS w a (cs.drop off)
  | [], off, a, cs, h, hl, _ => by
    simp only [shapeF, Option.some.injEq] at h
    subst h
    show cs.drop off = []
    rw [List.drop_eq_nil_iff]
    simp [AT.size] at hl
    omega
  | f :: r, off, a, cs, h, hl, ht => by
    unfold shapeF at h
    split at h
    · rename_i hoff
      have hoff := Nat.eq_of_beq_eq_true hoff
      split at h
      · rename_i a1 ha1
        split at h
        · rename_i hsz
          have hsz := Nat.eq_of_beq_eq_true hsz
          split at h
          · rename_i b hb
            cases h
            have h1 := hsh _ _ _ ha1 (ht f (by simp))
            have h2 := shapeF_sound hsh r (off + a1.size) b cs hb (by simp [AT.size] at hl; omega) (fun g hg => ht g (by simp [hg]))
            refine ⟨_, _, ?_, h1, h2⟩
            rw [hoff, <- hsz, <- List.drop_drop]
            exact (List.take_append_drop _ _).symm
          · cases h
        · cases h
      · cases h
    · cases h
theorem shapeP_sound : ∀ (n : Nat) (t : TypeId) (a : AT) (cs : List Value), shapeP P n t = some a -> (∃ m x, DataW.trod enc P w base sp held m t cs = some x) -> ArgS w a cs
  | 0, _, _, _, h, _ => by simp [shapeP] at h
  | n + 1, t, a, cs, h, ⟨m, x, hx⟩ => by
    unfold shapeP at h
    split at h
    · rename_i hu
      cases h
      obtain ⟨b, hb, _⟩ := DataW.trod_bool hu hx
      exact ⟨b, hb⟩
    · rename_i k hu
      cases h
      obtain ⟨z, hb, _, hw⟩ := DataW.trod_int hu hx
      exact ⟨z, hb, hw⟩
    · rename_i e hu
      split at h
      · rename_i a1 ha1
        split at h
        · rename_i hsz
          have hsz := Nat.eq_of_beq_eq_true hsz
          cases h
          rcases DataW.trod_slice hu hx with ⟨h1, _⟩ | ⟨p, len, cap, elems, rest, m', _, hcs, _, _, hlc, hcm, hel, hread, _⟩
          · exact ⟨⟨none, 0, 0⟩, h1, Nat.le_refl _, Nat.zero_le _, fun j hj => by cases hj⟩
          · refine ⟨⟨some p, len, cap⟩, hcs, hlc, hcm, fun j hj => ?_⟩
            have hj : j < len := hj
            have hy := hread j hj
            rw [List.getElem?_eq_getElem (by omega)] at hy
            cases hl : w.cells? base (p.add (j * P.cellsOf e)) (P.cellsOf e) with
            | none => rw [hl] at hy; cases hy
            | some l =>
              rw [hl] at hy
              obtain ⟨g1, g2⟩ := cells_get hl
              refine ⟨p, l, rfl, by omega, fun i v hv => ?_, shapeP_sound n e a1 l ha1 ⟨m', _, hy⟩⟩
              have := g2 i v hv
              rw [hsz, <- add_add]
              exact this
        · cases h
      · cases h
    · rename_i fs hu
      split at h
      · rename_i a1 ha1
        split at h
        · rename_i hsz
          have hsz := Nat.eq_of_beq_eq_true hsz
          cases h
          obtain ⟨xs, m', _, _, hlen, hxs, hf⟩ := DataW.trod_struct hu hx
          have := shapeF_sound (P := P) (sh := shapeP P n) (tr := fun t cs => ∃ m x, DataW.trod enc P w base sp held m t cs = some x)
            (fun t a cs h1 h2 => shapeP_sound n t a cs h1 h2) fs.toList 0 a cs ha1 (by omega) (fun f hf' => by
              obtain ⟨i, hi⟩ := List.mem_iff_getElem?.1 hf'
              have hi' : fs[i]? = some f := by simpa using hi
              have h2 := hf i f hi'
              have hlt : i < xs.length := by
                have := (Array.getElem?_eq_some_iff.1 hi').1
                omega
              rw [List.getElem?_eq_getElem hlt] at h2
              exact ⟨m', _, h2⟩)
          simpa using this
        · cases h
      · cases h
    · cases h
def ArgV (w : World) : AT -> Value -> Prop
  | .int k, v => ∃ n, v = .int k n /\ (Lit.int k n).wf = true
  | .bool, v => ∃ b, v = .bool b
  | .sl e, v => ∃ s : SlV, v = .slice s.base s.len s.cap /\ ArgS w (.sl e) [.slice s.base s.len s.cap]
  | a, v => ∃ l, v = .agg ⟨l⟩ /\ ArgS w a l
def ArgVs (w : World) : List AT -> List Value -> Prop
  | [], vs => vs = []
  | a :: r, vs => ∃ v s, vs = v :: s /\ ArgV w a v /\ ArgVs w r s
def shapesP (P : Program) : List TypeId -> Option (List AT)
  | [] => some []
  | t :: r => match shapeP P 9 t with
    | some a => match shapesP P r with
      | some l => some (a :: l)
      | none => none
    | none => none
theorem shapeF_form {sh : TypeId -> Option AT} : ∀ {fs : List Field} {off : Nat} {a : AT}, shapeF P sh fs off = some a -> a = .nil ∨ ∃ f r, a = .cons f r
  | [], _, _, h => by simp [shapeF] at h; exact .inl h.symm
  | f :: r, off, a, h => by
    unfold shapeF at h
    repeat' split at h
    all_goals first
      | (cases h; done)
      | (cases h; exact .inr ⟨_, _, rfl⟩)
theorem arg_of {r : Reach} {b0 : Nat} {n : Nat} {t : TypeId} {a : AT} {v : Value} {d : DataW H} {ps : List MemPlace} (hs : shapeP P n t = some a) (hval : Value.okWide P w r b0 t v)
    (hd : DataW.Trod enc P w base sp held t v d ps) : ArgV w a v := by
  obtain ⟨m, hm⟩ := hd
  have hS := shapeP_sound n t a v.cells.toList hs ⟨m, _, hm⟩
  cases n with
  | zero => simp [shapeP] at hs
  | succ n =>
  unfold shapeP at hs
  split at hs
  · rename_i hu
    cases hs
    obtain ⟨b, rfl⟩ := okWide_bool hu hval
    exact ⟨b, rfl⟩
  · rename_i k hu
    cases hs
    obtain ⟨z, rfl⟩ := okWide_int hu hval
    obtain ⟨z', h1, h2⟩ := hS
    simp [Value.cells] at h1
    subst h1
    exact ⟨z, rfl, h2⟩
  · rename_i e hu
    obtain ⟨x, l, c, rfl⟩ := okWide_slice hu hval
    split at hs
    · split at hs
      · cases hs
        exact ⟨⟨x, l, c⟩, rfl, hS⟩
      · cases hs
    · cases hs
  · rename_i fs hu
    obtain ⟨cs, rfl, hsz⟩ := okWide_struct hu hval
    split at hs
    · rename_i a1 ha1
      split at hs
      · cases hs
        have : ArgS w a cs.toList := hS
        rcases shapeF_form ha1 with rfl | ⟨f, r, rfl⟩
        · exact ⟨cs.toList, rfl, this⟩
        · exact ⟨cs.toList, rfl, this⟩
      · cases hs
    · cases hs
  · cases hs
theorem args_of {r : Reach} {b0 : Nat} : ∀ {ts : List TypeId} {shs : List AT} {vs : List Value} {ds : List (DataW H)} {p : List MemPlace}, shapesP P ts = some shs ->
    (∀ (j : Nat) t v, ts[j]? = some t -> vs[j]? = some v -> Value.okWide P w r b0 t v) -> DataW.TrodAll enc P w base sp held ts vs ds p -> ArgVs w shs vs
  | [], shs, vs, ds, p, hs, _, h => by
    simp [shapesP] at hs
    subst hs
    cases vs with
    | nil => rfl
    | cons v vs => cases ds <;> simp [DataW.TrodAll] at h
  | t :: ts, shs, vs, ds, p, hs, hval, h => by
    unfold shapesP at hs
    split at hs
    · rename_i a ha
      split at hs
      · rename_i l hl
        cases hs
        cases vs with
        | nil => cases ds <;> simp [DataW.TrodAll] at h
        | cons v vs =>
          cases ds with
          | nil => simp [DataW.TrodAll] at h
          | cons d ds =>
            obtain ⟨p1, q1, h1, h2, _⟩ := h
            exact ⟨v, vs, rfl, arg_of ha (hval 0 t v rfl rfl) h1, args_of hl (fun j t' v' ht hv => hval (j + 1) t' v' (by simpa using ht) (by simpa using hv)) h2⟩
      · cases hs
    · cases hs
def allReadable (P : Program) : List TypeId -> Bool
  | [] => true
  | t :: r => match P.readableRec t with
    | true => match Nat.ble (t + 1) P.types.size with
      | true => allReadable P r
      | false => false
    | false => false
theorem trodAll_below (hl : laidOutB P = true) {W W' : World} (hb : Below W.heap.size W W') : ∀ {ts : List TypeId} {vs : List Value} {ds : List (DataW H)} {p : List MemPlace}, allReadable P ts = true ->
    DataW.TrodAll enc P W 0 (fun _ => true) true ts vs ds p -> DataW.TrodAll enc P W' 0 (fun b => decide (b < W.heap.size)) true ts vs ds p
  | [], vs, ds, p, _, h => by
    cases vs <;> cases ds <;> simp [DataW.TrodAll] at h ⊢ <;> exact h
  | t :: ts, vs, ds, p, hr, h => by
    unfold allReadable at hr
    split at hr
    · rename_i h1
      split at hr
      · rename_i h2
        have h2 := Nat.le_of_ble_eq_true h2
        cases vs with
        | nil => cases ds <;> simp [DataW.TrodAll] at h
        | cons v vs =>
          cases ds with
          | nil => simp [DataW.TrodAll] at h
          | cons d ds =>
            obtain ⟨p1, q1, k1, k2, k3⟩ := h
            exact ⟨p1, q1, Below.trod hl h1 h2 k1 hb (by obtain ⟨m, hm⟩ := k1; exact DataW.trod_lt m _ _ _ hm), trodAll_below hl hb hr k2, k3⟩
      · cases hr
    · cases hr
theorem trodAll_len : ∀ {ts : List TypeId} {vs : List Value} {ds : List (DataW H)} {p : List MemPlace}, DataW.TrodAll enc P w base sp held ts vs ds p -> ds.length = ts.length
  | [], vs, ds, p, h => by cases vs <;> cases ds <;> simp [DataW.TrodAll] at h ⊢
  | t :: ts, vs, ds, p, h => by
    cases vs with
    | nil => cases ds <;> simp [DataW.TrodAll] at h
    | cons v vs =>
      cases ds with
      | nil => simp [DataW.TrodAll] at h
      | cons d ds =>
        obtain ⟨p1, q1, k1, k2, k3⟩ := h
        simp [trodAll_len k2]
end
def ElT : AT -> Type
  | .int _ => Int | .bool => Bool | .sl _ => SlV | .nil => Unit | .cons f r => ElT f × ElT r
def ElT.dflt : (a : AT) -> ElT a
  | .int _ => (0 : Int) | .bool => false | .sl _ => (⟨none, 0, 0⟩ : SlV) | .nil => () | .cons f r => (ElT.dflt f, ElT.dflt r)
def elCells : (a : AT) -> ElT a -> List Value
  | .int k, n => [.int k n]
  | .bool, b => [.bool b]
  | .sl _, s => [.slice (SlV.base s) (SlV.len s) (SlV.cap s)]
  | .nil, _ => []
  | .cons f r, x => elCells f x.1 ++ elCells r x.2
def RowG (w : World) (e : AT) (ok : ElT e -> Prop) (s : SlV) (z : Nat -> ElT e) : Prop := s.len <= s.cap /\ s.cap < 9223372036854775808 /\
  ∀ j, j < s.len -> ∃ x, s.base = some x /\ (∀ i v, (elCells e (z j))[i]? = some v -> w.cell? (x.add (j * e.size + i)) = some v) /\ ok (z j)
def elOk (w : World) : (a : AT) -> ElT a -> Prop
  | .int k, n => (Lit.int k n).wf = true
  | .bool, _ => True
  | .sl e, s => ∃ z, RowG w e (elOk w e) s z
  | .nil, _ => True
  | .cons f r, x => elOk w f x.1 /\ elOk w r x.2
abbrev RowA (w : World) (e : AT) : SlV -> (Nat -> ElT e) -> Prop := RowG w e (elOk w e)
theorem el_of_arg {w : World} : (a : AT) -> (cs : List Value) -> ArgS w a cs -> ∃ x : ElT a, cs = elCells a x /\ elOk w a x
  | .int k, cs, h => let ⟨n, h1, h2⟩ := h; ⟨n, h1, h2⟩
  | .bool, cs, h => let ⟨b, h1⟩ := h; ⟨b, h1, trivial⟩
  | .sl e, cs, h => by
    obtain ⟨s, h1, h2, h3, h4⟩ := h
    have key : ∀ j, ∃ y : ElT e, j < s.len -> ∃ x, s.base = some x /\ (∀ i v, (elCells e y)[i]? = some v -> w.cell? (x.add (j * e.size + i)) = some v) /\ elOk w e y := by
      intro j
      by_cases hj : j < s.len
      · obtain ⟨x, l, g1, g2, g3, g4⟩ := h4 j hj
        obtain ⟨y, rfl, hy⟩ := el_of_arg e l g4
        exact ⟨y, fun _ => ⟨x, g1, g3, hy⟩⟩
      · exact ⟨ElT.dflt e, fun h => absurd h hj⟩
    refine ⟨s, h1, fun j => Classical.choose (key j), h2, ?_, fun j hj => Classical.choose_spec (key j) hj⟩
    have : maxLen = 9223372036854775807 := by decide
    omega
  | .nil, cs, h => ⟨(), h, trivial⟩
  | .cons f r, cs, h => by
    obtain ⟨a, b, rfl, h1, h2⟩ := h
    obtain ⟨x, rfl, hx⟩ := el_of_arg f a h1
    obtain ⟨y, rfl, hy⟩ := el_of_arg r b h2
    exact ⟨(x, y), rfl, hx, hy⟩
def elV : (a : AT) -> ElT a -> Value
  | .int k, n => .int k n
  | .bool, b => .bool b
  | .sl _, s => .slice (SlV.base s) (SlV.len s) (SlV.cap s)
  | .nil, _ => .agg ⟨[]⟩
  | .cons f r, x => .agg ⟨elCells (.cons f r) x⟩
theorem elV_of_arg {w : World} {a : AT} {v : Value} (h : ArgV w a v) : ∃ x : ElT a, v = elV a x /\ elOk w a x := by
  cases a with
  | int k => exact h
  | bool => obtain ⟨b, h⟩ := h; exact ⟨b, h, trivial⟩
  | sl e =>
    obtain ⟨s, rfl, h⟩ := h
    obtain ⟨s', h1, h2⟩ := el_of_arg _ _ h
    have h1' : [Value.slice s.base s.len s.cap] = [Value.slice (SlV.base s') (SlV.len s') (SlV.cap s')] := h1
    simp only [List.cons.injEq, Value.slice.injEq, and_true] at h1'
    obtain ⟨e1, e2, e3⟩ := h1'
    refine ⟨s', ?_, h2⟩
    show Value.slice s.base s.len s.cap = Value.slice (SlV.base s') (SlV.len s') (SlV.cap s')
    rw [e1, e2, e3]
  | nil => obtain ⟨l, rfl, h⟩ := h; have : l = [] := h; subst this; exact ⟨(), rfl, trivial⟩
  | cons f r =>
    obtain ⟨l, rfl, h⟩ := h
    obtain ⟨x, rfl, hx⟩ := el_of_arg _ _ h
    exact ⟨x, rfl, hx⟩
def ArgTs : List AT -> Type
  | [] => Unit
  | a :: r => ElT a × ArgTs r
def argVals : (l : List AT) -> ArgTs l -> List Value
  | [], _ => []
  | a :: r, x => elV a x.1 :: argVals r x.2
def argOks (w : World) : (l : List AT) -> ArgTs l -> Prop
  | [], _ => True
  | a :: r, x => elOk w a x.1 /\ argOks w r x.2
theorem argVals_of {w : World} : {l : List AT} -> {vs : List Value} -> ArgVs w l vs -> ∃ x : ArgTs l, vs = argVals l x /\ argOks w l x
  | [], vs, h => ⟨(), h, trivial⟩
  | a :: r, vs, h => by
    obtain ⟨v, s, rfl, h1, h2⟩ := h
    obtain ⟨x, rfl, hx⟩ := elV_of_arg h1
    obtain ⟨y, rfl, hy⟩ := argVals_of h2
    exact ⟨(x, y), rfl, hx, hy⟩
theorem u64_wf {n : Int} (h : (Lit.int .u64 n).wf = true) : 0 <= n /\ n < 18446744073709551616 := by
  have h1 : (decide (IntKind.u64.min <= n) && decide (n <= IntKind.u64.max)) = true := h
  rw [Bool.and_eq_true, decide_eq_true_iff, decide_eq_true_iff] at h1
  have e1 : IntKind.u64.min = 0 := by decide
  have e2 : IntKind.u64.max = 18446744073709551615 := by decide
  omega
theorem i64_wf {n : Int} (h : (Lit.int .i64 n).wf = true) : -9223372036854775808 <= n /\ n < 9223372036854775808 := by
  have h1 : (decide (IntKind.i64.min <= n) && decide (n <= IntKind.i64.max)) = true := h
  rw [Bool.and_eq_true, decide_eq_true_iff, decide_eq_true_iff] at h1
  have e1 : IntKind.i64.min = -9223372036854775808 := by decide
  have e2 : IntKind.i64.max = 9223372036854775807 := by decide
  omega
theorem RowG.cell1 {w : World} {k : IntKind} {ok : Int -> Prop} {s : SlV} {z : Nat -> Int} (h : RowG w (.int k) ok s z) {j : Nat} (hj : j < s.len) : ∃ x, s.base = some x /\ w.cell? (x.add j) = some (.int k (z j)) /\ ok (z j) := by
  obtain ⟨x, h1, h2, h3⟩ := h.2.2 j hj
  have := h2 0 _ rfl
  simp only [AT.size, Nat.mul_one, Nat.add_zero] at this
  exact ⟨x, h1, this, h3⟩
theorem RowG.cellB {w : World} {ok : Bool -> Prop} {s : SlV} {z : Nat -> Bool} (h : RowG w .bool ok s z) {j : Nat} (hj : j < s.len) : ∃ x, s.base = some x /\ w.cell? (x.add j) = some (.bool (z j)) := by
  obtain ⟨x, h1, h2, h3⟩ := h.2.2 j hj
  have := h2 0 _ rfl
  simp only [AT.size, Nat.mul_one, Nat.add_zero] at this
  exact ⟨x, h1, this⟩
end Go.Sh

set_option linter.all false
set_option maxRecDepth 4000
namespace Go.Sh
theorem Sat.front2 {P0 : Pr} {Ps : List Pr} {w : World} {P : Pr} (i : Nat) (H : Sat (P0 :: Ps) w) (hi : Ps[i]? = some P) : Sat (P0 :: P :: Ps.eraseIdx i) w := H.perm ((perm_front hi).cons P0)
theorem Sat.back2 {P0 P' : Pr} {Ps : List Pr} {w : World} (i : Nat) (H : Sat (P0 :: P' :: Ps.eraseIdx i) w) (hi : i < Ps.length := by simp) : Sat (P0 :: Ps.set i P') w := H.perm ((perm_back hi).cons P0)
def Emp : Pr where
  holds D _ := ∀ k, ¬ D k
  loc h _ _ := h
  lt h hk := (h _ hk).elim
theorem Sat.emp {F : List Pr} {w : World} (H : Sat F w) : Sat (Emp :: F) w := H.new (P := Emp) (D := fun _ => False) (Ext.refl _ _) (fun _ f => f) fun _ f => f.elim
def ints (k : IntKind) (l : List Int) : List Value := l.map fun n => .int k n
theorem ints_get {k : IntKind} {l : List Int} {i : Nat} {n : Int} (h : l[i]? = some n) : (ints k l)[i]? = some (.int k n) := by simp [ints, h]
def bools (l : List Bool) : List Value := l.map fun b => .bool b
theorem bools_get {l : List Bool} {i : Nat} {n : Bool} (h : l[i]? = some n) : (bools l)[i]? = some (.bool n) := by simp [bools, h]
def MapF (b : Nat) (k : IntKind) (g : Int -> Option Value) : Pr where
  holds D w := (∀ i, D i ↔ i = b) /\ ∃ es c m, w.heap[b]? = some (.map es c) /\ MapI k es c m /\ ∀ i, aget m i = g i
  loc h he hS := ⟨h.1, let ⟨es, c, m, h1, h2⟩ := h.2; ⟨es, c, m, he.obj h1 (hS _ ((h.1 _).2 rfl)), h2⟩⟩
  lt h hk := by have := (h.1 _).1 hk; subst this; obtain ⟨es, c, m, h1, _⟩ := h.2; exact block_lt h1
section
variable {F : List Pr} {w w' : World} {b : Nat} {k : IntKind} {g : Int -> Option Value}
theorem AL_map (H : Sat F w) (k : IntKind) {K : Nat -> World -> Prop} (hK : ∀ b w', Sat (MapF b k (fun _ => none) :: F) w' -> Ext Nothing w w' -> K b w') : AL (.map #[] 0) w K :=
  AL_intro fun w' hb hs he => hK _ _ (H.new (P := MapF w.heap.size k fun _ => none) (D := fun k => k = w.heap.size) he ⟨fun _ => Iff.rfl, _, _, [], hb, MapI.empty k, fun _ => rfl⟩ fun k hk => by omega) he
theorem Sat.mapOpen (H : Sat (MapF b k g :: F) w) : ∃ es c m, w.heap[b]? = some (.map es c) /\ MapI k es c m /\ ∀ i, aget m i = g i := let ⟨_, h⟩ := H.head; h.2
theorem LKP_sl (H : Sat (MapF b k g :: F) w) {n : Int} {z : Value} {K : Value -> Bool -> Array MapEntry -> Prop} (hK : ∀ es, w.heap[b]? = some (.map es (es.size)) ∨ True -> K ((g n).getD z) (g n).isSome es) : LKP k n (some b) w z K := by
  obtain ⟨es, c, m, h1, h2, h3⟩ := H.mapOpen
  refine LKP_intro h1 h2 ?_
  rw [h3]
  exact hK es (.inr trivial)
theorem Sat.mapStep (H : Sat (MapF b k g :: F) w) {es' : Array MapEntry} {c' : Nat} {m' : List (Int × Value)} {g' : Int -> Option Value} (he : Ext (Only b) w w') (h1 : w'.heap[b]? = some (.map es' c')) (h2 : MapI k es' c' m') (h3 : ∀ i, aget m' i = g' i) :
    Sat (MapF b k g' :: F) w' := by
  obtain ⟨D, h, hs⟩ := H.step
  exact hs w' D _ (he.mono fun i _ hi => (h.1 i).2 hi) ⟨h.1, es', c', m', h1, h2, h3⟩ fun k hk => .inl hk
theorem MUPD_sl (H : Sat (MapF b k g :: F) w) {n : Int} {v : Value} {K : World -> Prop} (hK : ∀ w', Sat (MapF b k (fun i => if i = n then some v else g i) :: F) w' -> K w') : MUPD k n v (some b) w K := by
  obtain ⟨es, c, m, h1, h2, h3⟩ := H.mapOpen
  refine MUPD_intro h1 h2 fun w' es' c' m' g1 g2 g3 _ _ _ he _ => hK w' (H.mapStep he g1 g2 fun i => ?_)
  rw [g3, h3]
theorem MDEL_sl (H : Sat (MapF b k g :: F) w) {n : Int} {K : World -> Prop} (hK : ∀ w', Sat (MapF b k (fun i => if i = n then none else g i) :: F) w' -> K w') : MDEL k n (some b) w K := by
  obtain ⟨es, c, m, h1, h2, h3⟩ := H.mapOpen
  refine MDEL_intro h1 h2 fun w' es' m' g1 g2 g3 _ _ _ he _ => hK w' (H.mapStep he g1 g2 fun i => ?_)
  rw [g3, h3]
end
def RowV (s : SlV) (vs : List Value) : Pr where
  holds D w := (∀ k, D k ↔ Blk' s k) /\ s.len <= s.cap /\ vs.length = s.len /\ s.cap < 9223372036854775808 /\ (∀ a, s.base = some a -> a.block < w.heap.size) /\ rowAt w s.base s.len vs
  loc h he hS := ⟨h.1, h.2.1, h.2.2.1, h.2.2.2.1, fun a ha => by have := h.2.2.2.2.1 a ha; have := he.size; omega, rowAt_ext h.2.2.2.2.2 he fun a ha _ => hS _ ((h.1 _).2 ⟨a, ha, rfl⟩)⟩
  lt h hk := by obtain ⟨a, ha, rfl⟩ := (h.1 _).1 hk; exact h.2.2.2.2.1 a ha
section
variable {F : List Pr} {w w' : World} {t : Nat} {s : SlV} {vs : List Value}
theorem Sat.rowV (H : Sat (Row t 1 s vs :: F) w) : Sat (RowV s vs :: F) w := by
  obtain ⟨D, h, hs⟩ := H.step
  have ho := h.2
  refine hs w D _ (Ext.refl _ _) ⟨h.1, ho.cap, by simpa using ho.len, ho.top, fun a ha => (ho.lt ha).2.1, by simpa using ho.rowAt⟩ fun k hk => .inl hk
theorem Sat.rowVlen (H : Sat (RowV s vs :: F) w) : vs.length = s.len /\ s.len <= s.cap /\ s.cap < 9223372036854775808 := let ⟨_, h⟩ := H.head; ⟨h.2.2.1, h.2.1, h.2.2.2.1⟩
theorem Sat.rowVcell (H : Sat (RowV s vs :: F) w) {j : Nat} {v : Value} (hv : vs[j]? = some v) : ∃ a, s.base = some a /\ w.cell? (a.add j) = some v := by
  obtain ⟨D, h⟩ := H.head
  have hr := h.2.2.2.2.2
  cases hb : s.base with
  | none => rw [hb] at hr; have : vs = [] := hr; subst this; simp at hv
  | some a => rw [hb] at hr; exact ⟨a, rfl, hr.2 j v hv⟩
theorem slB_blk {b : Option Addr} {c m z : Nat} {k : Nat} : (∃ a, slB b c m z = some a /\ k = a.block) ↔ ∃ a, b = some a /\ k = a.block := by
  unfold slB
  split
  · exact Iff.rfl
  · cases b with
    | none => simp
    | some a => simp [add_block]
theorem Sat.rowVdrop (H : Sat (RowV s vs :: F) w) {n : Nat} (hn : n <= s.len) : Sat (RowV ⟨slB s.base s.cap n 1, s.len - n, s.cap - n⟩ (vs.drop n) :: F) w := by
  obtain ⟨D, h, hs⟩ := H.step
  refine hs w D _ (Ext.refl _ _) ⟨fun k => ?_, ?_, ?_, ?_, ?_, ?_⟩ fun k hk => .inl hk
  · rw [h.1]; exact slB_blk.symm
  · simp only; have := h.2.1; omega
  · simp only [List.length_drop, h.2.2.1]
  · simp only; have := h.2.2.2.1; omega
  · intro a ha
    obtain ⟨a', ha', e⟩ := (slB_blk (k := a.block)).1 ⟨a, ha, rfl⟩
    rw [e]; exact h.2.2.2.2.1 a' ha'
  · have := rowAt_drop (z := 1) h.2.2.2.2.2 (by simp) hn h.2.1 h.2.2.1
    simpa using this
theorem Sat.rowVnil {F : List Pr} {w : World} (H : Sat F w) : Sat (RowV ⟨none, 0, 0⟩ [] :: F) w :=
  H.new (P := RowV ⟨none, 0, 0⟩ []) (D := Blk' ⟨none, 0, 0⟩) (Ext.refl _ _) ⟨fun _ => Iff.rfl, Nat.le_refl _, rfl, by decide, fun _ h => (by cases h), rfl⟩ fun k hk => by obtain ⟨a, ha, _⟩ := hk; cases ha
end
abbrev Pgs := Int -> Option (Nat × (Int -> Int))
def PagesR (n : Nat) (G : Pgs) : Pr where
  holds D w := (∀ k, D k ↔ ∃ p x, G p = some x /\ k = x.1) /\ (∀ p q x y, G p = some x -> G q = some y -> x.1 = y.1 -> p = q) /\
    ∀ p x, G p = some x -> x.1 < w.heap.size /\ ∀ j : Nat, j < n -> w.cell? ⟨x.1, j, none⟩ = some (.int .u64 (x.2 j)) /\ w.frozen? ⟨x.1, j, none⟩ = false
  loc h he hS := ⟨h.1, h.2.1, fun p x hp => ⟨by have := (h.2.2 p x hp).1; have := he.size; omega, fun j hj => ⟨he.cell ((h.2.2 p x hp).2 j hj).1 (hS _ ((h.1 _).2 ⟨p, x, hp, rfl⟩)), by
    rw [he.frozen (p := ⟨x.1, j, none⟩) (h.2.2 p x hp).1 (hS _ ((h.1 _).2 ⟨p, x, hp, rfl⟩))]; exact ((h.2.2 p x hp).2 j hj).2⟩⟩⟩
  lt h hk := by obtain ⟨p, x, hp, rfl⟩ := (h.1 _).1 hk; exact (h.2.2 p x hp).1
section
variable {F : List Pr} {w w' : World} {n : Nat} {G : Pgs}
theorem Sat.pgNil (H : Sat F w) (n : Nat) : Sat (PagesR n (fun _ => none) :: F) w :=
  H.new (P := PagesR n fun _ => none) (D := fun _ => False) (Ext.refl _ _) ⟨fun k => ⟨fun f => f.elim, fun ⟨_, _, h, _⟩ => (by cases h)⟩, fun _ _ _ _ h => (by cases h), fun _ _ h => (by cases h)⟩ fun _ f => f.elim
theorem Sat.pgDrop (H : Sat (PagesR n G :: F) w) {G' : Pgs} (hG : ∀ p x, G' p = some x -> G p = some x) : Sat (PagesR n G' :: F) w := by
  obtain ⟨D, h, hs⟩ := H.step
  refine hs w (fun k => ∃ p x, G' p = some x /\ k = x.1) _ (Ext.refl _ _) ⟨fun _ => Iff.rfl, fun p q x y hp hq => h.2.1 p q x y (hG p x hp) (hG q y hq), fun p x hp => h.2.2 p x (hG p x hp)⟩ fun k hk => .inl ?_
  obtain ⟨p, x, hp, rfl⟩ := hk
  exact (h.1 _).2 ⟨p, x, hG p x hp, rfl⟩
end
end Go.Sh

set_option linter.all false
set_option maxRecDepth 4000
namespace Go.Sh
def Many {α : Type} (R : α -> Pr) (L : List α) : Pr := Star (L.map R)
section
variable {α : Type} {R R' : α -> Pr} {L L' : List α} {F : List Pr} {w : World}
theorem Sat.many : Sat (Many R L :: F) w ↔ Sat (L.map R ++ F) w := Sat.star
theorem Sat.manyPerm (H : Sat (Many R L :: F) w) (h : L.Perm L') : Sat (Many R L' :: F) w :=
  Sat.many.2 ((Sat.many.1 H).perm ((h.map R).append_right F))
theorem Sat.manyCons {x : α} : Sat (Many R (x :: L) :: F) w ↔ Sat (R x :: Many R L :: F) w := by
  constructor
  · intro H
    have h1 : Sat (R x :: (L.map R ++ F)) w := Sat.many.1 H
    have h2 : Sat (L.map R ++ (R x :: F)) w := h1.perm List.perm_middle.symm
    exact (Sat.many.2 h2).perm (.swap _ _ _)
  · intro H
    have h2 : Sat (L.map R ++ (R x :: F)) w := Sat.many.1 (H.perm (.swap _ _ _))
    exact Sat.many.2 (h2.perm List.perm_middle)
theorem Sat.manyGet (H : Sat (Many R L :: F) w) {i : Nat} {x : α} (hi : L[i]? = some x) : Sat (R x :: Many R (L.eraseIdx i) :: F) w :=
  Sat.manyCons.1 (H.manyPerm (perm_front hi))
theorem Sat.manyBack {i : Nat} {x : α} (H : Sat (R x :: Many R (L.eraseIdx i) :: F) w) (hi : L[i]? = some x) : Sat (Many R L :: F) w :=
  (Sat.manyCons.2 H).manyPerm (perm_front hi).symm
theorem Sat.manySnoc {x : α} (H : Sat (R x :: Many R L :: F) w) : Sat (Many R (L ++ [x]) :: F) w :=
  (Sat.manyCons.2 H).manyPerm (List.perm_append_singleton x L).symm
theorem Sat.manyNil (H : Sat F w) (R : α -> Pr) : Sat (Many R [] :: F) w := Sat.many.2 H
theorem Many.congr (h : ∀ x ∈ L, R x = R' x) : Many R L = Many R' L := by
  unfold Many
  rw [List.map_congr_left h]
end
theorem AL_rows {t n z : Nat} {vs : List Value} {Rs : List Pr} {w : World} (H : Sat Rs w) (hn : vs.length = n * z) (hl : n < 9223372036854775808) {K : Nat -> World -> Prop}
    (hK : ∀ b w', Sat (Row t z ⟨some ⟨b, 0, none⟩, n, n⟩ vs :: Rs) w' -> K b w') : AL (.cells ⟨vs⟩ t) w K :=
  AL_intro fun w' hb hs he => hK _ _ (H.new (P := Row t z ⟨some ⟨w.heap.size, 0, none⟩, n, n⟩ vs) (D := Blk' ⟨some ⟨w.heap.size, 0, none⟩, n, n⟩) he
    ⟨fun _ => Iff.rfl, own_new hb hn (Nat.zero_le _) hl⟩ fun k hk => by obtain ⟨x, hx, rfl⟩ := hk; cases hx; exact Nat.le_refl _)
end Go.Sh

set_option linter.all false
set_option maxRecDepth 4000
namespace Go.Sh
def wN (u : Nat -> Bool) : Nat -> Nat
  | 0 => 0
  | n + 1 => wN u n ||| (if u n then 2 ^ n else 0)
theorem wN_bit (u : Nat -> Bool) : ∀ (n i : Nat), (wN u n).testBit i = (decide (i < n) && u i)
  | 0, i => by simp [wN]
  | n + 1, i => by
    simp only [wN, Nat.testBit_or, wN_bit u n i]
    by_cases e : i = n
    · subst e
      cases hu : u i <;> simp [hu, Nat.testBit_two_pow_self]
    · have h2 : (if u n then 2 ^ n else 0 : Nat).testBit i = false := by
        split
        · exact Nat.testBit_two_pow_of_ne (fun h => e h.symm)
        · simp
      rw [h2, Bool.or_false]
      have : decide (i < n) = decide (i < n + 1) := decide_eq_decide.2 (by omega)
      rw [this]
theorem wN_lt (u : Nat -> Bool) (n : Nat) : wN u n < 2 ^ n :=
  Nat.lt_pow_two_of_testBit _ fun i hi => by rw [wN_bit]; simp; omega
theorem wN_add (u : Nat -> Bool) (n : Nat) : wN u (n + 1) = wN u n + 2 ^ n * (u n).toNat := by
  simp only [wN]
  cases h : u n
  · simp
  · rw [if_pos rfl, Nat.or_two_pow_eq_add_of_lt (wN_lt u n)]; simp
theorem wN_congr {u v : Nat -> Bool} {n : Nat} (h : ∀ i, i < n -> u i = v i) : wN u n = wN v n := by
  apply Nat.eq_of_testBit_eq
  intro i
  rw [wN_bit, wN_bit]
  by_cases hi : i < n
  · rw [h i hi]
  · simp [hi]
theorem wN_inj {u v : Nat -> Bool} {n : Nat} (h : wN u n = wN v n) {i : Nat} (hi : i < n) : u i = v i := by
  have := congrArg (fun x => x.testBit i) h
  simpa [wN_bit, hi] using this
def W (u : Nat -> Bool) : Int := (wN u 64 : Nat)
theorem W_bnd (u : Nat -> Bool) : 0 <= W u /\ W u < 18446744073709551616 := by
  have := wN_lt u 64
  unfold W
  have e : (2 : Nat) ^ 64 = 18446744073709551616 := by decide
  omega
theorem W_congr {u v : Nat -> Bool} (h : ∀ i, i < 64 -> u i = v i) : W u = W v := by unfold W; rw [wN_congr h]
theorem W_inj {u v : Nat -> Bool} (h : W u = W v) {i : Nat} (hi : i < 64) : u i = v i := by
  unfold W at h
  exact wN_inj (Int.ofNat.inj h) hi
theorem W_iff {u v : Nat -> Bool} : W u = W v ↔ ∀ i, i < 64 -> u i = v i := ⟨fun h i hi => W_inj h hi, W_congr⟩
theorem W_zero : W (fun _ => false) = 0 := by
  unfold W
  have : wN (fun _ => false) 64 = 0 := by
    apply Nat.eq_of_testBit_eq
    intro i; rw [wN_bit]; simp
  rw [this]; rfl
theorem W_ones : W (fun _ => true) = 18446744073709551615 := by
  unfold W
  have : wN (fun _ => true) 64 = 18446744073709551615 := by
    have e : (18446744073709551615 : Nat) = 2 ^ 64 - 1 := by decide
    rw [e]
    apply Nat.eq_of_testBit_eq
    intro i; rw [wN_bit, Nat.testBit_two_pow_sub_one]; simp
  rw [this]; rfl
theorem W_one : W (fun i => i == 0) = 1 := by
  unfold W
  have : wN (fun i => i == 0) 64 = 1 := by
    apply Nat.eq_of_testBit_eq
    intro i
    rw [wN_bit]
    have : Nat.testBit 1 i = decide (0 = i) := Nat.testBit_two_pow (n := 0) (m := i)
    rw [this]
    cases i <;> simp
  rw [this]; rfl
theorem W_eq_zero {u : Nat -> Bool} : W u = 0 ↔ ∀ i, i < 64 -> u i = false := by
  rw [<- W_zero, W_iff]
theorem bvW (u : Nat -> Bool) : (BitVec.ofInt 64 (W u)).toNat = wN u 64 := by
  unfold W
  rw [BitVec.ofInt_natCast, BitVec.toNat_ofNat]
  exact Nat.mod_eq_of_lt (wN_lt u 64)
theorem wrapW {n : Nat} (h : n < 18446744073709551616) : IntKind.wrap .u64 (n : Int) = (n : Int) := u64_id (by omega) (by omega)
theorem W_and (u v : Nat -> Bool) : bitK .u64 0 (W u) (W v) = W fun i => u i && v i := by
  show IntKind.wrap .u64 ((BitVec.ofInt 64 (W u) &&& BitVec.ofInt 64 (W v)).toNat : Int) = _
  rw [BitVec.toNat_and, bvW, bvW]
  have e : wN u 64 &&& wN v 64 = wN (fun i => u i && v i) 64 := by
    apply Nat.eq_of_testBit_eq
    intro i; rw [Nat.testBit_and, wN_bit, wN_bit, wN_bit]
    cases decide (i < 64) <;> simp
  rw [e, wrapW (wN_lt _ 64)]
  rfl
theorem W_or (u v : Nat -> Bool) : bitK .u64 1 (W u) (W v) = W fun i => u i || v i := by
  show IntKind.wrap .u64 ((BitVec.ofInt 64 (W u) ||| BitVec.ofInt 64 (W v)).toNat : Int) = _
  rw [BitVec.toNat_or, bvW, bvW]
  have e : wN u 64 ||| wN v 64 = wN (fun i => u i || v i) 64 := by
    apply Nat.eq_of_testBit_eq
    intro i; rw [Nat.testBit_or, wN_bit, wN_bit, wN_bit]
    cases decide (i < 64) <;> simp
  rw [e, wrapW (wN_lt _ 64)]
  rfl
theorem W_andNot (u v : Nat -> Bool) : bitK .u64 3 (W u) (W v) = W fun i => u i && !v i := by
  show IntKind.wrap .u64 ((BitVec.ofInt 64 (W u) &&& ~~~BitVec.ofInt 64 (W v)).toNat : Int) = _
  rw [BitVec.toNat_and, bvW, BitVec.toNat_not, bvW]
  have e : wN u 64 &&& (2 ^ 64 - 1 - wN v 64) = wN (fun i => u i && !v i) 64 := by
    apply Nat.eq_of_testBit_eq
    intro i
    have e2 : 2 ^ 64 - 1 - wN v 64 = 2 ^ 64 - (wN v 64 + 1) := by omega
    rw [Nat.testBit_and, e2, Nat.testBit_two_pow_sub_succ (wN_lt v 64), wN_bit, wN_bit, wN_bit]
    cases decide (i < 64) <;> simp
  rw [e, wrapW (wN_lt _ 64)]
  rfl
theorem W_shr (u : Nat -> Bool) {n : Int} (h0 : 0 <= n) (h1 : n <= 64) : Int.fdiv (W u) (2 ^ (min n.toNat (IntKind.bits .u64))) = W fun i => decide (i + n.toNat < 64) && u (i + n.toNat) := by
  have e64 : IntKind.bits .u64 = 64 := rfl
  rw [e64, Nat.min_eq_left (by omega), Int.fdiv_eq_ediv_of_nonneg _ (Int.pow_nonneg (by decide))]
  generalize n.toNat = k
  unfold W
  have e : ((wN u 64 : Nat) : Int) / 2 ^ k = ((wN u 64 / 2 ^ k : Nat) : Int) := by
    rw [Int.natCast_ediv, Int.natCast_pow]; rfl
  rw [e]
  congr 1
  apply Nat.eq_of_testBit_eq
  intro i
  rw [Nat.testBit_div_two_pow, wN_bit, wN_bit]
  by_cases h : i + k < 64
  · have : i < 64 := by omega
    simp [h, this]
  · simp [h]
theorem W_shl (u : Nat -> Bool) {n : Int} (h0 : 0 <= n) (h1 : n <= 64) : u64 (W u * 2 ^ (min n.toNat (IntKind.bits .u64))) = W fun i => decide (n.toNat <= i) && u (i - n.toNat) := by
  have e64 : IntKind.bits .u64 = 64 := rfl
  rw [e64, Nat.min_eq_left (by omega)]
  generalize n.toNat = k
  unfold W
  have e : ((wN u 64 : Nat) : Int) * 2 ^ k = ((wN u 64 * 2 ^ k : Nat) : Int) := by
    rw [Int.natCast_mul, Int.natCast_pow]; rfl
  rw [e, u64_mod]
  have e2 : (((wN u 64 * 2 ^ k : Nat) : Int) % 18446744073709551616) = ((wN u 64 * 2 ^ k % 2 ^ 64 : Nat) : Int) := by
    rw [Int.natCast_emod]; rfl
  rw [e2]
  congr 1
  apply Nat.eq_of_testBit_eq
  intro i
  rw [Nat.testBit_mod_two_pow, Nat.testBit_mul_two_pow, wN_bit, wN_bit]
  by_cases h : i < 64
  · by_cases h2 : k <= i
    · have : i - k < 64 := by omega
      simp [h, h2, this]
    · simp [h, h2]
  · simp [h]
theorem W_get (u : Nat -> Bool) {n : Int} (h0 : 0 <= n) (h1 : n < 64) : bitK .u64 0 (Int.fdiv (W u) (2 ^ (min n.toNat (IntKind.bits .u64)))) 1 = if u n.toNat then 1 else 0 := by
  rw [W_shr u h0 (by omega), <- W_one, W_and]
  cases hu : u n.toNat
  · rw [if_neg (by decide), W_eq_zero]
    intro i hi
    by_cases e : i = 0
    · subst e; simp [hu]
    · simp [e]
  · rw [if_pos rfl, W_iff]
    intro i hi
    by_cases e : i = 0
    · subst e; simp [hu]; omega
    · simp [e]
theorem and_negN {x : Nat} (h0 : x ≠ 0) (h : x < 2 ^ 64) : bitK .u64 0 (x : Int) (u64 (0 - x)) = ((x &&& (2 ^ 64 - x) : Nat) : Int) := by
  have e : u64 (0 - (x : Int)) = ((2 ^ 64 - x : Nat) : Int) := by
    rw [u64_mod]
    have e2 : (2 : Nat) ^ 64 = 18446744073709551616 := by decide
    omega
  rw [e]
  show IntKind.wrap .u64 ((BitVec.ofInt 64 (x : Int) &&& BitVec.ofInt 64 ((2 ^ 64 - x : Nat) : Int)).toNat : Int) = _
  rw [BitVec.toNat_and, BitVec.ofInt_natCast, BitVec.ofInt_natCast, BitVec.toNat_ofNat, BitVec.toNat_ofNat, Nat.mod_eq_of_lt h, Nat.mod_eq_of_lt (by omega)]
  exact wrapW (Nat.lt_of_le_of_lt Nat.and_le_left h)
theorem ctz_bit {x : Nat} (h0 : x ≠ 0) (h : x < 2 ^ 64) : Lib.ctz 64 x < 64 /\ x.testBit (Lib.ctz 64 x) = true /\ ∀ i, i < Lib.ctz 64 x -> x.testBit i = false := by
  obtain ⟨m, hm, hk⟩ := Lib.ctzFrom_spec 64 x (by omega) h
  have e : Lib.ctz 64 x = Lib.ctzFrom 64 x := by simp [Lib.ctz, h0]
  rw [e]
  generalize Lib.ctzFrom 64 x = k at hm hk
  refine ⟨hk, ?_, fun i hi => ?_⟩
  · rw [hm, Nat.testBit_two_pow_mul]; simp
  · rw [hm, Nat.testBit_two_pow_mul]; simp; omega
def TabAt (g : Nat) (w : World) : Prop := ∀ i, i < 64 -> w.cell? ⟨g, i, none⟩ = some (.int .u8 (Lib.deBruijn64tab.getD i 0 : Nat))
theorem TabAt.ext {g : Nat} {w w' : World} (h : TabAt g w) (he : Ext Nothing w w') : TabAt g w' := fun i hi => he.cell (h i hi) fun f => f
def D (B : Nat) : Nat -> (Nat -> Nat) -> Nat
  | 0, _ => 0
  | n + 1, d => d 0 + B * D B n fun j => d (j + 1)
theorem D_congr {B : Nat} : ∀ {n : Nat} {d e : Nat -> Nat}, (∀ j, j < n -> d j = e j) -> D B n d = D B n e
  | 0, _, _, _ => rfl
  | n + 1, d, e, h => by
    simp only [D]
    rw [h 0 (by omega), D_congr fun j hj => h (j + 1) (by omega)]
theorem D_snoc (B : Nat) : ∀ (n : Nat) (d : Nat -> Nat), D B (n + 1) d = D B n d + B ^ n * d n
  | 0, d => by simp [D]
  | n + 1, d => by
    have ih := D_snoc B n fun j => d (j + 1)
    show d 0 + B * D B (n + 1) (fun j => d (j + 1)) = d 0 + B * D B n (fun j => d (j + 1)) + B ^ (n + 1) * d (n + 1)
    rw [ih, Nat.mul_add, Nat.pow_succ, Nat.mul_comm (B ^ n) B, Nat.mul_assoc]
    omega
theorem D_lt {B : Nat} : ∀ {n : Nat} {d : Nat -> Nat}, (∀ j, d j < B) -> D B n d < B ^ n
  | 0, _, _ => by simp [D]
  | n + 1, d, h => by
    have ih := D_lt (B := B) (n := n) (d := fun j => d (j + 1)) fun j => h (j + 1)
    have h0 := h 0
    have e : B ^ (n + 1) = B * B ^ n := by rw [Nat.pow_succ, Nat.mul_comm]
    have : B * (D B n (fun j => d (j + 1)) + 1) <= B * B ^ n := Nat.mul_le_mul_left _ ih
    rw [Nat.mul_add] at this
    rw [e]
    simp only [D]
    omega
theorem D_add (B : Nat) : ∀ (n : Nat) (d e : Nat -> Nat), D B n d + D B n e = D B n fun j => d j + e j
  | 0, _, _ => rfl
  | n + 1, d, e => by
    simp only [D]
    rw [<- D_add B n, Nat.mul_add]
    omega
theorem D_div {B : Nat} {n : Nat} {d : Nat -> Nat} (h0 : d 0 < B) (hn : d n = 0) : D B n d / B = D B n fun j => d (j + 1) := by
  cases n with
  | zero => simp [D]
  | succ n =>
    have e : D B (n + 1) (fun j => d (j + 1)) = D B n fun j => d (j + 1) := by rw [D_snoc]; simp [hn]
    rw [e]
    simp only [D]
    rw [Nat.add_mul_div_left _ _ (by omega), Nat.div_eq_of_lt h0, Nat.zero_add]
theorem D_shift {B n : Nat} {d : Nat -> Nat} (h : ∀ j, d j < B) (hz : ∀ j, n <= j -> d j = 0) : ∀ k, D B n d / B ^ k = D B n fun j => d (j + k)
  | 0 => by simp
  | k + 1 => by
    rw [Nat.pow_succ, <- Nat.div_div_eq_div_mul, D_shift h hz k, D_div (d := fun j => d (j + k)) (h _) (hz _ (by omega))]
    exact D_congr fun j _ => by rw [Nat.add_right_comm, Nat.add_assoc]
theorem and_split {b x y X Y : Nat} (hx : x < 2 ^ b) (hy : y < 2 ^ b) : (x + 2 ^ b * X) &&& (y + 2 ^ b * Y) = (x &&& y) + 2 ^ b * (X &&& Y) := by
  apply Nat.eq_of_testBit_eq
  intro i
  rw [Nat.add_comm x, Nat.add_comm y, Nat.add_comm (x &&& y), Nat.testBit_and, Nat.testBit_two_pow_mul_add _ hx, Nat.testBit_two_pow_mul_add _ hy, Nat.testBit_two_pow_mul_add _ (Nat.and_lt_two_pow x hy)]
  split <;> rw [Nat.testBit_and]
theorem D_and {b : Nat} : ∀ (n : Nat) (d m : Nat -> Nat), (∀ j, d j < 2 ^ b) -> (∀ j, m j < 2 ^ b) -> D (2 ^ b) n d &&& D (2 ^ b) n m = D (2 ^ b) n fun j => d j &&& m j
  | 0, _, _, _, _ => by simp [D]
  | n + 1, d, m, h1, h2 => by
    simp only [D]
    rw [and_split (h1 0) (h2 0), D_and n _ _ (fun j => h1 (j + 1)) fun j => h2 (j + 1)]
theorem D_pair (B : Nat) : ∀ (n : Nat) (d : Nat -> Nat), D B (2 * n) d = D (B * B) n fun j => d (2 * j) + B * d (2 * j + 1)
  | 0, _ => rfl
  | n + 1, d => by
    rw [show 2 * (n + 1) = 2 * n + 1 + 1 by omega]
    simp only [D]
    rw [D_pair B n]
    have e : (fun j => d (2 * j + 1 + 1) + B * d (2 * j + 1 + 1 + 1)) = fun j => d (2 * (j + 1)) + B * d (2 * (j + 1) + 1) := by
      funext j; rw [show 2 * (j + 1) = 2 * j + 1 + 1 by omega]
    rw [e, Nat.mul_add, Nat.mul_assoc, Nat.mul_zero, Nat.zero_add]
    omega
def ev2 (f : Nat -> Nat) : Nat -> Nat := fun j => if j % 2 = 0 then f j else 0
theorem D_mask {b B : Nat} (hB : B = 2 ^ b) (n : Nat) (d : Nat -> Nat) (h : ∀ j, d j < B) : D B n d &&& D B n (ev2 fun _ => B - 1) = D B n (ev2 d) := by
  subst hB
  have hp : 0 < 2 ^ b := Nat.two_pow_pos b
  rw [D_and n d _ h fun j => by dsimp only [ev2]; split <;> omega]
  congr 1
  funext j
  dsimp only [ev2]
  split
  · exact Nat.and_two_pow_sub_one_of_lt_two_pow (h j)
  · simp
theorem D_ev2 (B n : Nat) (d : Nat -> Nat) : D B (2 * n) (ev2 d) = D (B * B) n fun j => d (2 * j) := by
  rw [D_pair]
  congr 1
  funext j
  unfold ev2
  rw [if_pos (by omega), if_neg (by omega)]
  omega
theorem wN_D (u : Nat -> Bool) : ∀ n, wN u n = D 2 n fun j => (u j).toNat
  | 0 => rfl
  | n + 1 => by rw [wN_add, D_snoc, wN_D u n]
def cN (u : Nat -> Bool) : Nat -> Nat
  | 0 => 0
  | n + 1 => cN u n + (u n).toNat
theorem swar {u : Nat -> Bool} (hu : ∀ i, 64 <= i -> u i = false) {x0 x1 x2 x3 x4 x5 x6 : Nat} (h0 : x0 = wN u 64) (h1 : x1 = (x0 / 2 &&& 6148914691236517205) + (x0 &&& 6148914691236517205))
    (h2 : x2 = (x1 / 4 &&& 3689348814741910323) + (x1 &&& 3689348814741910323)) (h3 : x3 = (x2 / 16 + x2) &&& 1085102592571150095) (h4 : x4 = x3 + x3 / 256) (h5 : x5 = x4 + x4 / 65536) (h6 : x6 = x5 + x5 / 4294967296) :
    x1 < 18446744073709551616 /\ x2 < 18446744073709551616 /\ x2 / 16 + x2 < 18446744073709551616 /\ x4 < 18446744073709551616 /\ x5 < 18446744073709551616 /\ x6 < 9223372036854775808 /\ x6 % 128 = cN u 64 := by
  obtain ⟨d, hd⟩ : ∃ d : Nat -> Nat, ∀ j, d j = (u j).toNat := ⟨_, fun _ => rfl⟩
  have hb : ∀ j, d j <= 1 := fun j => by rw [hd]; exact Bool.toNat_le (u j)
  have hz : ∀ j, 64 <= j -> d j = 0 := fun j hj => by rw [hd, hu j hj]; rfl
  have e0 : x0 = D 2 64 d := by rw [h0, wN_D]; exact D_congr fun j _ => (hd j).symm
  have m1 : (6148914691236517205 : Nat) = D 2 64 (ev2 fun _ => 2 - 1) := by decide +kernel
  have m2 : (3689348814741910323 : Nat) = D 4 32 (ev2 fun _ => 4 - 1) := by decide +kernel
  have m3 : (1085102592571150095 : Nat) = D 16 16 (ev2 fun _ => 16 - 1) := by decide +kernel
  have q1 : ∀ d, D 2 64 (ev2 d) = D 4 32 fun j => d (2 * j) := fun d => D_ev2 2 32 d
  have q2 : ∀ d, D 4 32 (ev2 d) = D 16 16 fun j => d (2 * j) := fun d => D_ev2 4 16 d
  have q3 : ∀ d, D 16 16 (ev2 d) = D 256 8 fun j => d (2 * j) := fun d => D_ev2 16 8 d
  obtain ⟨c, hcj⟩ : ∃ c : Nat -> Nat, ∀ j, c j = d (2 * j + 1) + d (2 * j) := ⟨_, fun _ => rfl⟩
  have bc : ∀ j, c j <= 2 := fun j => by rw [hcj]; have := hb (2 * j); have := hb (2 * j + 1); omega
  have zc : ∀ j, 32 <= j -> c j = 0 := fun j hj => by rw [hcj, hz _ (by omega), hz _ (by omega)]
  have e1 : x1 = D 4 32 c := by
    rw [h1, e0, D_div (by have := hb 0; omega) (hz 64 (by omega)), m1, D_mask (b := 1) rfl 64 _ (fun j => by have := hb (j + 1); omega), D_mask (b := 1) rfl 64 _ (fun j => by have := hb j; omega), q1, q1, D_add]
    exact D_congr fun j _ => (hcj j).symm
  have l1 : x1 < 4 ^ 32 := by rw [e1]; exact D_lt fun j => by have := bc j; omega
  obtain ⟨e, hej⟩ : ∃ e : Nat -> Nat, ∀ j, e j = c (2 * j + 1) + c (2 * j) := ⟨_, fun _ => rfl⟩
  have be : ∀ j, e j <= 4 := fun j => by rw [hej]; have := bc (2 * j); have := bc (2 * j + 1); omega
  have ze : ∀ j, 16 <= j -> e j = 0 := fun j hj => by rw [hej, zc _ (by omega), zc _ (by omega)]
  have e2 : x2 = D 16 16 e := by
    rw [h2, e1, D_div (by have := bc 0; omega) (zc 32 (by omega)), m2, D_mask (b := 2) rfl 32 _ (fun j => by have := bc (j + 1); omega), D_mask (b := 2) rfl 32 _ (fun j => by have := bc j; omega), q2, q2, D_add]
    exact D_congr fun j _ => (hej j).symm
  have l2 : x2 < 16 ^ 16 := by rw [e2]; exact D_lt fun j => by have := be j; omega
  have e3' : x2 / 16 + x2 = D 16 16 fun j => e (j + 1) + e j := by
    rw [e2, D_div (by have := be 0; omega) (ze 16 (by omega)), D_add]
  have l3 : x2 / 16 + x2 < 16 ^ 16 := by rw [e3']; exact D_lt fun j => by have := be j; have := be (j + 1); omega
  obtain ⟨g, hgj⟩ : ∃ g : Nat -> Nat, ∀ j, g j = e (2 * j + 1) + e (2 * j) := ⟨_, fun _ => rfl⟩
  have bg : ∀ j, g j <= 8 := fun j => by rw [hgj]; have := be (2 * j); have := be (2 * j + 1); omega
  have zg : ∀ j, 8 <= j -> g j = 0 := fun j hj => by rw [hgj, ze _ (by omega), ze _ (by omega)]
  have e3 : x3 = D 256 8 g := by
    rw [h3, e3', m3, D_mask (b := 4) rfl 16 _ (fun j => by have := be j; have := be (j + 1); omega), q3]
    exact D_congr fun j _ => (hgj j).symm
  have e4 : x4 = D 256 8 fun j => g j + g (j + 1) := by
    rw [h4, e3, D_div (by have := bg 0; omega) (zg 8 (by omega)), D_add]
  have l4 : x4 < 256 ^ 8 := by rw [e4]; exact D_lt fun j => by have := bg j; have := bg (j + 1); omega
  have e5 : x5 = D 256 8 fun j => g j + g (j + 1) + (g (j + 2) + g (j + 3)) := by
    have := D_shift (B := 256) (n := 8) (d := fun j => g j + g (j + 1)) (fun j => by have := bg j; have := bg (j + 1); omega) (fun j hj => by rw [zg _ hj, zg _ (by omega)]) 2
    rw [h5, e4, show (65536 : Nat) = 256 ^ 2 from rfl, this, D_add]
  have l5 : x5 < 256 ^ 8 := by rw [e5]; exact D_lt fun j => by have := bg j; have := bg (j + 1); have := bg (j + 2); have := bg (j + 3); omega
  obtain ⟨k, hk⟩ : ∃ k : Nat -> Nat, ∀ j, k j = g j + g (j + 1) + (g (j + 2) + g (j + 3)) := ⟨_, fun _ => rfl⟩
  have bk : ∀ j, k j <= 32 := fun j => by rw [hk]; have := bg j; have := bg (j + 1); have := bg (j + 2); have := bg (j + 3); omega
  have zk : ∀ j, 8 <= j -> k j = 0 := fun j hj => by rw [hk, zg _ (by omega), zg _ (by omega), zg _ (by omega), zg _ (by omega)]
  have e5k : x5 = D 256 8 k := by rw [e5]; exact D_congr fun j _ => (hk j).symm
  have e6 : x6 = D 256 8 fun j => k j + k (j + 4) := by
    have := D_shift (B := 256) (n := 8) (d := k) (fun j => by have := bk j; omega) zk 4
    rw [h6, e5k, show (4294967296 : Nat) = 256 ^ 4 from rfl, this, D_add]
  have l6 : x6 < 9223372036854775808 := by
    rw [e6, D_snoc]
    have h1 : D 256 7 (fun j => k j + k (j + 4)) < 256 ^ 7 := D_lt fun j => by have := bk j; have := bk (j + 4); omega
    have b7 := bk 7
    have b11 := zk 11 (by omega)
    have e : (256 : Nat) ^ 7 = 72057594037927936 := by decide
    rw [e] at h1 ⊢
    have : k (7 + 4) = 0 := b11
    rw [this]
    omega
  have p1 : (4 : Nat) ^ 32 = 18446744073709551616 := by decide
  have p2 : (16 : Nat) ^ 16 = 18446744073709551616 := by decide
  have p3 : (256 : Nat) ^ 8 = 18446744073709551616 := by decide
  rw [p1] at l1
  rw [p2] at l2 l3
  rw [p3] at l4 l5
  refine ⟨l1, l2, l3, l4, l5, l6, ?_⟩
  have e7 : x6 % 128 = k 0 + k 4 := by
    rw [e6]
    have b0 := bk 0; have b4 := bk 4
    rw [show (8 : Nat) = 7 + 1 from rfl]
    simp only [D, Nat.zero_add]
    omega
  have hsum : cN u 64 = k 0 + k 4 := by
    simp only [hk, hgj, hej, hcj, hd, Nat.reduceMul, Nat.reduceAdd]
    simp only [cN, Nat.reduceMul, Nat.reduceAdd]
    omega
  rw [e7, hsum]
end Go.Sh

set_option linter.all false
set_option maxRecDepth 4000
namespace Go.Sh
def argI {α : Type} (n : Nat) (z : Nat -> α) : List α := (List.range n).map z
theorem argI_len {α : Type} (n : Nat) (z : Nat -> α) : (argI n z).length = n := by simp [argI]
theorem argI_get {α : Type} {n i : Nat} (z : Nat -> α) (hi : i < n) : (argI n z)[i]? = some (z i) := by simp [argI, hi]
theorem rowAt_argI {w : World} {k : IntKind} {ok : Int -> Prop} {s : SlV} {z : Nat -> Int} (h : RowG w (.int k) ok s z) : rowAt w s.base s.len (ints k (argI s.len z)) := by
  cases hb : s.base with
  | none =>
    have : s.len = 0 := by
      rcases Nat.eq_zero_or_pos s.len with e | e
      · exact e
      · obtain ⟨x, hx, _⟩ := h.cell1 e
        rw [hb] at hx; cases hx
    show ints k (argI s.len z) = []
    rw [this]; rfl
  | some a =>
    refine ⟨by simp [ints, argI_len], fun j v hj => ?_⟩
    have hjl : j < s.len := by
      have := (List.getElem?_eq_some_iff.1 hj).1
      simpa [ints, argI_len] using this
    rw [ints_get (argI_get z hjl)] at hj
    cases hj
    obtain ⟨x, hx, hc, _⟩ := h.cell1 hjl
    rw [hb] at hx; cases hx
    exact hc
theorem RowG.oldI {w w' : World} {k : IntKind} {s : SlV} {z : Nat -> Int} (h : RowA w (.int k) s z) (he : Ext Nothing w w') : RowA w' (.int k) s z :=
  ⟨h.1, h.2.1, fun j hj => by
    obtain ⟨x, h1, h2, h3⟩ := h.2.2 j hj
    exact ⟨x, h1, fun i v hv => he.cell (h2 i v hv) fun f => f, h3⟩⟩
theorem argI_wf {w : World} {s : SlV} {z : Nat -> Int} (h : RowA w (.int .u64) s z) : ∀ x ∈ argI s.len z, 0 <= x /\ x < 18446744073709551616 := by
  intro x hx
  simp only [argI, List.mem_map, List.mem_range] at hx
  obtain ⟨j, hj, rfl⟩ := hx
  obtain ⟨_, _, _, ho⟩ := h.cell1 hj
  exact u64_wf ho
end Go.Sh

set_option linter.all false
set_option maxRecDepth 4000
set_option maxHeartbeats 1000000
namespace Go.Sh
structure RgF (k : IntKind) (es : Array MapEntry) (c : Nat) (seen : Array Nat) (last : Nat) (m : List (Int × Value)) (cur : Option Int) (done : List Int) : Prop where
  ok : MapI k es c m
  lst : seen.isEmpty = true ∨ last = c
  nd : done.Nodup
  sub : ∀ n ∈ done, aget m n ≠ none
  met : ∀ e ∈ es.toList, seen.contains e.born = true ↔ ∃ n ∈ done, e.key = .int k n
  cur : ∀ n, cur = some n -> last = c /\ ∃ e, e ∈ es.toList /\ seen.back? = some e.born /\ e.key = .int k n /\ aget m n = some e.val
theorem MapI.key_inj {k : IntKind} {es : Array MapEntry} {c : Nat} {m : List (Int × Value)} (h : MapI k es c m) {x y : MapEntry} (hx : x ∈ es.toList) (hy : y ∈ es.toList) (he : x.key = y.key) : x = y := by
  have h1 : (es.toList.map (·.key)).Nodup := by
    have e : es.toList.map (·.key) = m.map fun p => Value.int k p.1 := by
      have := congrArg (List.map Prod.fst) h.keys
      simpa [List.map_map, Function.comp_def] using this
    rw [e, show (m.map fun p => Value.int k p.1) = (m.map (·.1)).map (Value.int k) by simp]
    refine List.Pairwise.map _ (fun a b hab => ?_) h.nodup
    intro e; injection e with _ e; exact hab e
  exact nodup_inj h1 hx hy he
theorem MapI.born_find {k : IntKind} {es : Array MapEntry} {c : Nat} {m : List (Int × Value)} (h : MapI k es c m) {e : MapEntry} (he : e ∈ es.toList) : es.find? (fun x : MapEntry => x.born == e.born) = some e := by
  rw [<- Array.find?_toList]
  have : ∀ l : List MapEntry, (l.map (·.born)).Nodup -> e ∈ l -> l.find? (fun x : MapEntry => x.born == e.born) = some e := by
    intro l
    induction l with
    | nil => intro _ h; cases h
    | cons x r ih =>
      intro hn hm
      simp only [List.map_cons, List.nodup_cons] at hn
      rcases List.mem_cons.1 hm with rfl | hm
      · simp [List.find?_cons]
      · have : x.born ≠ e.born := fun e2 => hn.1 (e2 ▸ List.mem_map.2 ⟨e, hm, rfl⟩)
        have hb : (x.born == e.born) = false := by simp [this]
        simp only [List.find?_cons, hb]
        exact ih hn.2 hm
  exact this es.toList h.born he
def RngP (r mb : Nat) (k : IntKind) (g : Int -> Option Value) (cur : Option Int) (done : List Int) (N : Nat) : Pr where
  holds D w := (∀ i, D i ↔ i = r ∨ i = mb) /\ r ≠ mb /\ ∃ es c seen last m, w.heap[r]? = some (.mapIter (some mb) c seen last) /\ w.heap[mb]? = some (.map es c) /\
    RgF k es c seen last m cur done /\ (∀ i, aget m i = g i) /\ leftN es seen = N
  loc h he hS := ⟨h.1, h.2.1, let ⟨es, c, seen, last, m, h1, h2, h3⟩ := h.2.2; ⟨es, c, seen, last, m, he.obj h1 (hS _ ((h.1 _).2 (.inl rfl))), he.obj h2 (hS _ ((h.1 _).2 (.inr rfl))), h3⟩⟩
  lt h hk := by
    obtain ⟨es, c, seen, last, m, h1, h2, h3⟩ := h.2.2
    rcases (h.1 _).1 hk with rfl | rfl
    · exact block_lt h1
    · exact block_lt h2
def leftW (r mb : Nat) (w : World) : Nat := match w.heap[r]?, w.heap[mb]? with
  | some (.mapIter _ _ seen _), some (.map es _) => leftN es seen
  | _, _ => 0
section
variable {F : List Pr} {w w' : World} {r mb : Nat} {k : IntKind} {g : Int -> Option Value} {cur : Option Int} {done : List Int} {N : Nat}
theorem Sat.rngLeft (H : Sat (RngP r mb k g cur done N :: F) w) : leftW r mb w = N := by
  obtain ⟨_, h⟩ := H.head
  obtain ⟨es, c, seen, last, m, h1, h2, h3, h4, h5⟩ := h.2.2
  simp only [leftW, h1, h2]; exact h5
theorem Sat.rngDone (H : Sat (RngP r mb k g cur done N :: F) w) : done.Nodup /\ ∀ n ∈ done, g n ≠ none := by
  obtain ⟨_, h⟩ := H.head
  obtain ⟨es, c, seen, last, m, h1, h2, h3, h4, h5⟩ := h.2.2
  exact ⟨h3.nd, fun n hn => by rw [<- h4]; exact h3.sub n hn⟩
theorem Sat.rngOut (H : Sat (RngP r mb k g cur done N :: F) w) : Sat (MapF mb k g :: F) w := by
  obtain ⟨D, h, hs⟩ := H.step
  obtain ⟨es, c, seen, last, m, h1, h2, h3, h4, h5⟩ := h.2.2
  exact hs w (fun i => i = mb) _ (Ext.refl _ _) ⟨fun _ => Iff.rfl, es, c, m, h2, h3.ok, h4⟩ fun i hi => .inl ((h.1 i).2 (.inr hi))
theorem RNG_mk (H : Sat (MapF mb k g :: F) w) {K : Nat -> World -> Prop} (hK : ∀ r N w', Sat (RngP r mb k g none [] N :: F) w' -> K r w') : ∃ cl, rngAt w (some mb) cl /\ AL (rngObj (some mb) cl) w K := by
  obtain ⟨es, c, m, h1, h2, h3⟩ := H.mapOpen
  refine ⟨c, ⟨es, h1⟩, AL_intro fun w' hb hs he => ?_⟩
  obtain ⟨D, h, hst⟩ := H.step
  have hlt : mb < w.heap.size := block_lt h1
  refine hK _ (leftN es #[]) w' (hst w' (fun i => i = w.heap.size ∨ i = mb) _ (he.mono fun _ _ f => f.elim) ⟨fun _ => Iff.rfl, by omega, es, c, #[], c, m, hb, he.obj h1 fun f => f, ⟨h2, .inl rfl, List.nodup_nil, (fun n hn => by cases hn), (fun e _ => by simp), (fun n hn => by cases hn)⟩, h3, rfl⟩ ?_)
  rintro i (rfl | rfl)
  · exact .inr (Nat.le_refl _)
  · exact .inl ((h.1 _).2 rfl)
theorem NEXT_rng (H : Sat (RngP r mb k g cur done N :: F) w) {Kn : World -> Prop} {Ks : Value -> Value -> World -> Prop} (h0 : ∀ w', Sat (RngP r mb k g cur done N :: F) w' -> (∀ n, n ∈ done ↔ g n ≠ none) -> Kn w')
    (h1 : ∀ n v w' N', g n = some v -> n ∉ done -> N' < N -> Sat (RngP r mb k g (some n) (done ++ [n]) N' :: F) w' -> Ks (.int k n) v w') : NEXT r w Kn Ks := by
  have HN : ∀ w', (w' = w ∨ w' = w.drew) -> Sat (RngP r mb k g cur done N :: F) w' := fun w' h => by rcases h with rfl | rfl; exact H; exact H.drew
  obtain ⟨D, h, _⟩ := H.step
  obtain ⟨es, c, seen, last, m, g1, g2, g3, g4, g5⟩ := h.2.2
  refine ⟨some mb, c, seen, last, g1, es, c, g2, ?_, ?_, ?_⟩
  · rcases g3.lst with hl | rfl
    · simp [hl]
    · by_cases he : es.isEmpty = true
      · simp [he]
      · have : es.all (fun x => decide (x.born ≥ last)) = false := by
          have hsz0 : 0 < es.size := Nat.pos_of_ne_zero fun e => he (by simpa [Array.isEmpty] using e)
          have hm : es[0] ∈ es.toList := by simp
          have := g3.ok.lt _ hm
          rw [Bool.eq_false_iff]
          intro hall
          have := (Array.all_eq_true_iff_forall_mem.1 hall) es[0] (Array.getElem_mem hsz0)
          simp at this; omega
        simp [this]
  · intro w' hw' hemp
    refine h0 w' (HN w' hw') fun n => ⟨fun hn => by rw [<- g4]; exact g3.sub n hn, fun hn => ?_⟩
    have hf : (leftOf es seen).filter (fun x => decide (x.born < c)) = leftOf es seen := by
      apply Array.filter_eq_self.2
      intro e he
      exact decide_eq_true (g3.ok.lt e (leftOf_mem.1 he).1)
    rw [hf] at hemp
    rw [<- g4] at hn
    cases hg : aget m n with
    | none => exact absurd hg hn
    | some v =>
      obtain ⟨e, he, hk, hv⟩ := g3.ok.key_mem hg
      have hs : seen.contains e.born = true := by
        cases hsc : seen.contains e.born with
        | true => rfl
        | false =>
          have : e ∈ leftOf es seen := leftOf_mem.2 ⟨he, hsc⟩
          have h0 : leftOf es seen = #[] := by simpa [Array.isEmpty_iff] using hemp
          rw [h0] at this
          cases this with | mk h => cases h
      obtain ⟨n', hn', hk'⟩ := (g3.met e he).1 hs
      rw [hk] at hk'
      injection hk' with _ hk'
      rw [hk']; exact hn'
  · intro w' e hw' he
    obtain ⟨q1, q2⟩ := leftOf_mem.1 he
    obtain ⟨n, hkey, hgn⟩ := g3.ok.mem_key q1
    rw [hkey]
    have hnd : n ∉ done := fun hn => by
      have := (g3.met e q1).2 ⟨n, hn, hkey⟩
      rw [q2] at this; cases this
    have hdec : leftN es (seen.push e.born) < leftN es seen := by
      unfold leftN
      refine filter_lt (fun x _ hx => ?_) ⟨e, q1, by rw [q2]; rfl, by simp⟩
      simp at hx ⊢
      exact hx.1
    refine h1 n e.val _ (leftN es (seen.push e.born)) (by rw [<- g4]; exact hgn) hnd (by rw [<- g5]; exact hdec) ?_
    obtain ⟨D', h', hst⟩ := (HN w' hw').step
    have hwe : Ext Nothing w w' := by rcases hw' with rfl | rfl; exact Ext.refl _ _; exact Ext.drew _ _
    have g2' := hwe.obj g2 fun f => f
    have hlt : r < w'.heap.size := by have := block_lt g1; have := hwe.size; omega
    refine hst _ D' _ ((Ext.setO w' r _).mono fun i _ hi => (h'.1 i).2 (.inl hi)) ⟨h'.1, h'.2.1, es, c, seen.push e.born, c, m, ?_, ?_, ⟨g3.ok, .inr rfl, ?_, ?_, ?_, ?_⟩, g4, rfl⟩ fun i hi => .inl hi
    · simp [World.setO, hlt]
    · exact (Ext.setO w' r _).obj g2' fun e : mb = r => h'.2.1 e.symm
    · rw [List.nodup_append]
      exact ⟨g3.nd, by simp, fun a ha b hb => by simp at hb; subst hb; rintro rfl; exact hnd ha⟩
    · intro n' hn'
      rcases List.mem_append.1 hn' with h | h
      · exact g3.sub n' h
      · simp at h; subst h; rw [hgn]; intro h; cases h
    · intro x hx
      constructor
      · intro hs
        simp at hs
        rcases hs with hs | hs
        · obtain ⟨n', hn', hk'⟩ := (g3.met x hx).1 (by simpa using hs)
          exact ⟨n', List.mem_append_left _ hn', hk'⟩
        · have : x = e := nodup_inj g3.ok.born hx q1 hs
          subst this
          exact ⟨n, by simp, hkey⟩
      · rintro ⟨n', hn', hk'⟩
        rcases List.mem_append.1 hn' with h | h
        · have := (g3.met x hx).2 ⟨n', h, hk'⟩
          simp at this ⊢
          exact .inl this
        · simp at h; subst h
          have : x = e := g3.ok.key_inj hx q1 (by rw [hk', hkey])
          subst this
          simp
    · intro n' hn'
      cases hn'
      exact ⟨rfl, e, q1, by simp, hkey, hgn⟩
theorem ENT_rng {n : Int} (H : Sat (RngP r mb k g (some n) done N :: F) w) {K : Value -> Value -> Keep -> Prop} (hK : ∀ v S, g n = some v -> K (.int k n) v S) : ENT r w K := by
  obtain ⟨_, h⟩ := H.head
  obtain ⟨es, c, seen, last, m, g1, g2, g3, g4, g5⟩ := h.2.2
  obtain ⟨rfl, e, he, hb, hk, hv⟩ := g3.cur n rfl
  refine ⟨mb, last, last, seen, es, last, e.born, e, ⟨g1, g2⟩, hb, rfl, g3.ok.born_find he, ?_⟩
  rw [hk]
  exact hK _ _ (by rw [<- g4]; exact hv)
end
end Go.Sh
