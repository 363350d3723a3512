/- What a law's arguments are, read once for all. No further condition. -/
import Derived.Test.YtbdcnkhngfiieaaM
import Derived.WalkKit
import Derived.ProofKit
import Derived.OpenShut
import Derived.ChangeOld
import Derived.Below
import Derived.Carry
import Derived.DataReads
set_option linter.all false
namespace Go.Sh
open Go.ChangeShapes Go.WideShapes Go.ChangeAt Go.RowKit

inductive AT where
  | int (k : IntKind) | bool | sl (e : AT) | nil | cons (f r : AT)

def AT.size : AT → Nat
  | .int _ => 1 | .bool => 1 | .sl _ => 1 | .nil => 0 | .cons f r => f.size + r.size

def ArgS (w : World) : AT → List Value → Prop
  | .int k, cs => ∃ n, cs = [.int k n] ∧ (Lit.int k n).wf = true
  | .bool, cs => ∃ b, cs = [.bool b]
  | .sl e, cs => ∃ s : SlV, cs = [.slice s.base s.len s.cap] ∧ s.len ≤ s.cap ∧ s.cap ≤ maxLen ∧
      ∀ j, j < s.len → ∃ x l, s.base = some x ∧ l.length = e.size ∧ (∀ i v, l[i]? = some v → w.cell? (x.add (j * e.size + i)) = some v) ∧ ArgS w e l
  | .nil, cs => cs = []
  | .cons f r, cs => ∃ a b, cs = a ++ b ∧ ArgS w f a ∧ ArgS w r b

def shapeF (P : Program) (sh : TypeId → Option AT) : List Field → Nat → Option AT
  | [], _ => some .nil
  | f :: r, off => match Nat.beq f.offset off with
    | true => match sh f.type with
      | some a => match Nat.beq a.size (P.cellsOf f.type) with
        | true => match shapeF P sh r (off + a.size) with
          | some b => some (.cons a b)
          | none => none
        | false => none
      | none => none
    | false => none

def shapeP (P : Program) : Nat → TypeId → Option AT
  | 0, _ => none
  | n + 1, t => match P.underlying t with
    | some .bool => some .bool
    | some (.int k) => some (.int k)
    | some (.slice e) => match shapeP P n e with
      | some a => match Nat.beq a.size (P.cellsOf e) with
        | true => some (.sl a)
        | false => none
      | none => none
    | some (.struct fs) => match shapeF P (shapeP P n) fs.toList 0 with
      | some a => match Nat.beq a.size (P.cellsOf t) with
        | true => some a
        | false => none
      | none => none
    | _ => none

section
variable {H : Type} {enc : TypeId × Value → H} {P : Program} {w : World} {base : Nat} {sp : Nat → Bool} {held : Bool}

theorem cells_get {w : World} {base : Nat} {a : Addr} {n : Nat} {l : List Value} (h : w.cells? base a n = some l) : l.length = n ∧ ∀ i v, l[i]? = some v → w.cell? (a.add i) = some v := by
  unfold World.cells? at h
  split at h
  · have key : ∀ (m : Nat) (k : Nat) (l : List Value), ((List.range' k m).mapM fun i => w.cell? (a.add i)) = some l → l.length = m ∧ ∀ i v, l[i]? = some v → w.cell? (a.add (k + i)) = some v := by
      intro m
      induction m with
      | zero => intro k l h; simp at h; subst h; simp
      | succ m ih =>
        intro k l h
        rw [List.range'_succ, List.mapM_cons] at h
        cases hx : w.cell? (a.add k) with
        | none => simp [hx] at h
        | some y =>
          cases hl : (List.range' (k + 1) m).mapM fun i => w.cell? (a.add i) with
          | none => simp [hx, hl] at h
          | some ys =>
            simp [hx, hl] at h
            subst h
            obtain ⟨h1, h2⟩ := ih (k + 1) ys hl
            refine ⟨by simp [h1], fun i v hv => ?_⟩
            cases i with
            | zero => simp at hv; subst hv; simpa using hx
            | succ i => have := h2 i v (by simpa using hv); rw [show k + (i + 1) = k + 1 + i from by omega]; exact this
    rw [List.range_eq_range'] at h
    have := key n 0 l h
    simpa using this
  · cases h

theorem shapeF_sound {sh : TypeId → Option AT} {tr : TypeId → List Value → Prop} (hsh : ∀ t a cs, sh t = some a → tr t cs → ArgS w a cs) :
    ∀ (fs : List Field) (off : Nat) (a : AT) (cs : List Value), shapeF P sh fs off = some a → cs.length = off + a.size → (∀ f ∈ fs, tr f.type ((cs.drop f.offset).take (P.cellsOf f.type))) → ArgS w a (cs.drop off)
  | [], off, a, cs, h, hl, _ => by
    simp only [shapeF, Option.some.injEq] at h
    subst h
    show cs.drop off = []
    rw [List.drop_eq_nil_iff]
    simp [AT.size] at hl
    omega
  | f :: r, off, a, cs, h, hl, ht => by
    unfold shapeF at h
    split at h
    · rename_i hoff
      have hoff := Nat.eq_of_beq_eq_true hoff
      split at h
      · rename_i a1 ha1
        split at h
        · rename_i hsz
          have hsz := Nat.eq_of_beq_eq_true hsz
          split at h
          · rename_i b hb
            cases h
            have h1 := hsh _ _ _ ha1 (ht f (by simp))
            have h2 := shapeF_sound hsh r (off + a1.size) b cs hb (by simp [AT.size] at hl; omega) (fun g hg => ht g (by simp [hg]))
            refine ⟨_, _, ?_, h1, h2⟩
            rw [hoff, ← hsz, ← List.drop_drop]
            exact (List.take_append_drop _ _).symm
          · cases h
        · cases h
      · cases h
    · cases h

theorem shapeP_sound : ∀ (n : Nat) (t : TypeId) (a : AT) (cs : List Value), shapeP P n t = some a → (∃ m x, DataW.trod enc P w base sp held m t cs = some x) → ArgS w a cs
  | 0, _, _, _, h, _ => by simp [shapeP] at h
  | n + 1, t, a, cs, h, ⟨m, x, hx⟩ => by
    unfold shapeP at h
    split at h
    · rename_i hu
      cases h
      obtain ⟨b, hb, _⟩ := DataW.trod_bool hu hx
      exact ⟨b, hb⟩
    · rename_i k hu
      cases h
      obtain ⟨z, hb, _, hw⟩ := DataW.trod_int hu hx
      exact ⟨z, hb, hw⟩
    · rename_i e hu
      split at h
      · rename_i a1 ha1
        split at h
        · rename_i hsz
          have hsz := Nat.eq_of_beq_eq_true hsz
          cases h
          rcases DataW.trod_slice hu hx with ⟨h1, _⟩ | ⟨p, len, cap, elems, rest, m', _, hcs, _, _, hlc, hcm, hel, hread, _⟩
          · exact ⟨⟨none, 0, 0⟩, h1, Nat.le_refl _, Nat.zero_le _, fun j hj => by cases hj⟩
          · refine ⟨⟨some p, len, cap⟩, hcs, hlc, hcm, fun j hj => ?_⟩
            have hj : j < len := hj
            have hy := hread j hj
            rw [List.getElem?_eq_getElem (by omega)] at hy
            cases hl : w.cells? base (p.add (j * P.cellsOf e)) (P.cellsOf e) with
            | none => rw [hl] at hy; cases hy
            | some l =>
              rw [hl] at hy
              obtain ⟨g1, g2⟩ := cells_get hl
              refine ⟨p, l, rfl, by omega, fun i v hv => ?_, shapeP_sound n e a1 l ha1 ⟨m', _, hy⟩⟩
              have := g2 i v hv
              rw [hsz, ← add_add]
              exact this
        · cases h
      · cases h
    · rename_i fs hu
      split at h
      · rename_i a1 ha1
        split at h
        · rename_i hsz
          have hsz := Nat.eq_of_beq_eq_true hsz
          cases h
          obtain ⟨xs, m', _, _, hlen, hxs, hf⟩ := DataW.trod_struct hu hx
          have := shapeF_sound (P := P) (sh := shapeP P n) (tr := fun t cs => ∃ m x, DataW.trod enc P w base sp held m t cs = some x)
            (fun t a cs h1 h2 => shapeP_sound n t a cs h1 h2) fs.toList 0 a cs ha1 (by omega) (fun f hf' => by
              obtain ⟨i, hi⟩ := List.mem_iff_getElem?.1 hf'
              have hi' : fs[i]? = some f := by simpa using hi
              have h2 := hf i f hi'
              have hlt : i < xs.length := by
                have := (Array.getElem?_eq_some_iff.1 hi').1
                omega
              rw [List.getElem?_eq_getElem hlt] at h2
              exact ⟨m', _, h2⟩)
          simpa using this
        · cases h
      · cases h
    · cases h

def ArgV (w : World) : AT → Value → Prop
  | .int k, v => ∃ n, v = .int k n ∧ (Lit.int k n).wf = true
  | .bool, v => ∃ b, v = .bool b
  | .sl e, v => ∃ s : SlV, v = .slice s.base s.len s.cap ∧ ArgS w (.sl e) [.slice s.base s.len s.cap]
  | a, v => ∃ l, v = .agg ⟨l⟩ ∧ ArgS w a l

def ArgVs (w : World) : List AT → List Value → Prop
  | [], vs => vs = []
  | a :: r, vs => ∃ v s, vs = v :: s ∧ ArgV w a v ∧ ArgVs w r s

def shapesP (P : Program) : List TypeId → Option (List AT)
  | [] => some []
  | t :: r => match shapeP P 9 t with
    | some a => match shapesP P r with
      | some l => some (a :: l)
      | none => none
    | none => none

theorem shapeF_form {sh : TypeId → Option AT} : ∀ {fs : List Field} {off : Nat} {a : AT}, shapeF P sh fs off = some a → a = .nil ∨ ∃ f r, a = .cons f r
  | [], _, _, h => by simp [shapeF] at h; exact .inl h.symm
  | f :: r, off, a, h => by
    unfold shapeF at h
    repeat' split at h
    all_goals first
      | (cases h; done)
      | (cases h; exact .inr ⟨_, _, rfl⟩)

theorem arg_of {r : Reach} {b0 : Nat} {n : Nat} {t : TypeId} {a : AT} {v : Value} {d : DataW H} {ps : List MemPlace} (hs : shapeP P n t = some a) (hval : Value.okWide P w r b0 t v)
    (hd : DataW.Trod enc P w base sp held t v d ps) : ArgV w a v := by
  obtain ⟨m, hm⟩ := hd
  have hS := shapeP_sound n t a v.cells.toList hs ⟨m, _, hm⟩
  cases n with
  | zero => simp [shapeP] at hs
  | succ n =>
  unfold shapeP at hs
  split at hs
  · rename_i hu
    cases hs
    obtain ⟨b, rfl⟩ := okWide_bool hu hval
    exact ⟨b, rfl⟩
  · rename_i k hu
    cases hs
    obtain ⟨z, rfl⟩ := okWide_int hu hval
    obtain ⟨z', h1, h2⟩ := hS
    simp [Value.cells] at h1
    subst h1
    exact ⟨z, rfl, h2⟩
  · rename_i e hu
    obtain ⟨x, l, c, rfl⟩ := okWide_slice hu hval
    split at hs
    · split at hs
      · cases hs
        exact ⟨⟨x, l, c⟩, rfl, hS⟩
      · cases hs
    · cases hs
  · rename_i fs hu
    obtain ⟨cs, rfl, hsz⟩ := okWide_struct hu hval
    split at hs
    · rename_i a1 ha1
      split at hs
      · cases hs
        have : ArgS w a cs.toList := hS
        rcases shapeF_form ha1 with rfl | ⟨f, r, rfl⟩
        · exact ⟨cs.toList, rfl, this⟩
        · exact ⟨cs.toList, rfl, this⟩
      · cases hs
    · cases hs
  · cases hs

theorem args_of {r : Reach} {b0 : Nat} : ∀ {ts : List TypeId} {shs : List AT} {vs : List Value} {ds : List (DataW H)} {p : List MemPlace}, shapesP P ts = some shs →
    (∀ (j : Nat) t v, ts[j]? = some t → vs[j]? = some v → Value.okWide P w r b0 t v) → DataW.TrodAll enc P w base sp held ts vs ds p → ArgVs w shs vs
  | [], shs, vs, ds, p, hs, _, h => by
    simp [shapesP] at hs
    subst hs
    cases vs with
    | nil => rfl
    | cons v vs => cases ds <;> simp [DataW.TrodAll] at h
  | t :: ts, shs, vs, ds, p, hs, hval, h => by
    unfold shapesP at hs
    split at hs
    · rename_i a ha
      split at hs
      · rename_i l hl
        cases hs
        cases vs with
        | nil => cases ds <;> simp [DataW.TrodAll] at h
        | cons v vs =>
          cases ds with
          | nil => simp [DataW.TrodAll] at h
          | cons d ds =>
            obtain ⟨p1, q1, h1, h2, _⟩ := h
            exact ⟨v, vs, rfl, arg_of ha (hval 0 t v rfl rfl) h1, args_of hl (fun j t' v' ht hv => hval (j + 1) t' v' (by simpa using ht) (by simpa using hv)) h2⟩
      · cases hs
    · cases hs

def allReadable (P : Program) : List TypeId → Bool
  | [] => true
  | t :: r => match P.readableRec t with
    | true => match Nat.ble (t + 1) P.types.size with
      | true => allReadable P r
      | false => false
    | false => false

theorem trodAll_below (hl : laidOutB P = true) {W W' : World} (hb : Below W.heap.size W W') : ∀ {ts : List TypeId} {vs : List Value} {ds : List (DataW H)} {p : List MemPlace}, allReadable P ts = true →
    DataW.TrodAll enc P W 0 (fun _ => true) true ts vs ds p → DataW.TrodAll enc P W' 0 (fun b => decide (b < W.heap.size)) true ts vs ds p
  | [], vs, ds, p, _, h => by
    cases vs <;> cases ds <;> simp [DataW.TrodAll] at h ⊢ <;> exact h
  | t :: ts, vs, ds, p, hr, h => by
    unfold allReadable at hr
    split at hr
    · rename_i h1
      split at hr
      · rename_i h2
        have h2 := Nat.le_of_ble_eq_true h2
        cases vs with
        | nil => cases ds <;> simp [DataW.TrodAll] at h
        | cons v vs =>
          cases ds with
          | nil => simp [DataW.TrodAll] at h
          | cons d ds =>
            obtain ⟨p1, q1, k1, k2, k3⟩ := h
            exact ⟨p1, q1, Below.trod hl h1 h2 k1 hb (by obtain ⟨m, hm⟩ := k1; exact DataW.trod_lt m _ _ _ hm), trodAll_below hl hb hr k2, k3⟩
      · cases hr
    · cases hr

theorem trodAll_len : ∀ {ts : List TypeId} {vs : List Value} {ds : List (DataW H)} {p : List MemPlace}, DataW.TrodAll enc P w base sp held ts vs ds p → ds.length = ts.length
  | [], vs, ds, p, h => by cases vs <;> cases ds <;> simp [DataW.TrodAll] at h ⊢
  | t :: ts, vs, ds, p, h => by
    cases vs with
    | nil => cases ds <;> simp [DataW.TrodAll] at h
    | cons v vs =>
      cases ds with
      | nil => simp [DataW.TrodAll] at h
      | cons d ds =>
        obtain ⟨p1, q1, k1, k2, k3⟩ := h
        simp [trodAll_len k2]
end

def ElT : AT → Type
  | .int _ => Int | .bool => Bool | .sl _ => SlV | .nil => Unit | .cons f r => ElT f × ElT r

def ElT.dflt : (a : AT) → ElT a
  | .int _ => (0 : Int) | .bool => false | .sl _ => (⟨none, 0, 0⟩ : SlV) | .nil => () | .cons f r => (ElT.dflt f, ElT.dflt r)

def elCells : (a : AT) → ElT a → List Value
  | .int k, n => [.int k n]
  | .bool, b => [.bool b]
  | .sl _, s => [.slice (SlV.base s) (SlV.len s) (SlV.cap s)]
  | .nil, _ => []
  | .cons f r, x => elCells f x.1 ++ elCells r x.2

def RowG (w : World) (e : AT) (ok : ElT e → Prop) (s : SlV) (z : Nat → ElT e) : Prop := s.len ≤ s.cap ∧ s.cap < 9223372036854775808 ∧
  ∀ j, j < s.len → ∃ x, s.base = some x ∧ (∀ i v, (elCells e (z j))[i]? = some v → w.cell? (x.add (j * e.size + i)) = some v) ∧ ok (z j)

def elOk (w : World) : (a : AT) → ElT a → Prop
  | .int k, n => (Lit.int k n).wf = true
  | .bool, _ => True
  | .sl e, s => ∃ z, RowG w e (elOk w e) s z
  | .nil, _ => True
  | .cons f r, x => elOk w f x.1 ∧ elOk w r x.2

abbrev RowA (w : World) (e : AT) : SlV → (Nat → ElT e) → Prop := RowG w e (elOk w e)

theorem el_of_arg {w : World} : (a : AT) → (cs : List Value) → ArgS w a cs → ∃ x : ElT a, cs = elCells a x ∧ elOk w a x
  | .int k, cs, h => let ⟨n, h1, h2⟩ := h; ⟨n, h1, h2⟩
  | .bool, cs, h => let ⟨b, h1⟩ := h; ⟨b, h1, trivial⟩
  | .sl e, cs, h => by
    obtain ⟨s, h1, h2, h3, h4⟩ := h
    have key : ∀ j, ∃ y : ElT e, j < s.len → ∃ x, s.base = some x ∧ (∀ i v, (elCells e y)[i]? = some v → w.cell? (x.add (j * e.size + i)) = some v) ∧ elOk w e y := by
      intro j
      by_cases hj : j < s.len
      · obtain ⟨x, l, g1, g2, g3, g4⟩ := h4 j hj
        obtain ⟨y, rfl, hy⟩ := el_of_arg e l g4
        exact ⟨y, fun _ => ⟨x, g1, g3, hy⟩⟩
      · exact ⟨ElT.dflt e, fun h => absurd h hj⟩
    refine ⟨s, h1, fun j => Classical.choose (key j), h2, ?_, fun j hj => Classical.choose_spec (key j) hj⟩
    have : maxLen = 9223372036854775807 := by decide
    omega
  | .nil, cs, h => ⟨(), h, trivial⟩
  | .cons f r, cs, h => by
    obtain ⟨a, b, rfl, h1, h2⟩ := h
    obtain ⟨x, rfl, hx⟩ := el_of_arg f a h1
    obtain ⟨y, rfl, hy⟩ := el_of_arg r b h2
    exact ⟨(x, y), rfl, hx, hy⟩

def elV : (a : AT) → ElT a → Value
  | .int k, n => .int k n
  | .bool, b => .bool b
  | .sl _, s => .slice (SlV.base s) (SlV.len s) (SlV.cap s)
  | .nil, _ => .agg ⟨[]⟩
  | .cons f r, x => .agg ⟨elCells (.cons f r) x⟩

theorem elV_of_arg {w : World} {a : AT} {v : Value} (h : ArgV w a v) : ∃ x : ElT a, v = elV a x ∧ elOk w a x := by
  cases a with
  | int k => exact h
  | bool => obtain ⟨b, h⟩ := h; exact ⟨b, h, trivial⟩
  | sl e =>
    obtain ⟨s, rfl, h⟩ := h
    obtain ⟨s', h1, h2⟩ := el_of_arg _ _ h
    have h1' : [Value.slice s.base s.len s.cap] = [Value.slice (SlV.base s') (SlV.len s') (SlV.cap s')] := h1
    simp only [List.cons.injEq, Value.slice.injEq, and_true] at h1'
    obtain ⟨e1, e2, e3⟩ := h1'
    refine ⟨s', ?_, h2⟩
    show Value.slice s.base s.len s.cap = Value.slice (SlV.base s') (SlV.len s') (SlV.cap s')
    rw [e1, e2, e3]
  | nil => obtain ⟨l, rfl, h⟩ := h; have : l = [] := h; subst this; exact ⟨(), rfl, trivial⟩
  | cons f r =>
    obtain ⟨l, rfl, h⟩ := h
    obtain ⟨x, rfl, hx⟩ := el_of_arg _ _ h
    exact ⟨x, rfl, hx⟩

def ArgTs : List AT → Type
  | [] => Unit
  | a :: r => ElT a × ArgTs r
def argVals : (l : List AT) → ArgTs l → List Value
  | [], _ => []
  | a :: r, x => elV a x.1 :: argVals r x.2
def argOks (w : World) : (l : List AT) → ArgTs l → Prop
  | [], _ => True
  | a :: r, x => elOk w a x.1 ∧ argOks w r x.2

theorem argVals_of {w : World} : {l : List AT} → {vs : List Value} → ArgVs w l vs → ∃ x : ArgTs l, vs = argVals l x ∧ argOks w l x
  | [], vs, h => ⟨(), h, trivial⟩
  | a :: r, vs, h => by
    obtain ⟨v, s, rfl, h1, h2⟩ := h
    obtain ⟨x, rfl, hx⟩ := elV_of_arg h1
    obtain ⟨y, rfl, hy⟩ := argVals_of h2
    exact ⟨(x, y), rfl, hx, hy⟩

theorem u64_wf {n : Int} (h : (Lit.int .u64 n).wf = true) : 0 ≤ n ∧ n < 18446744073709551616 := by
  have h1 : (decide (IntKind.u64.min ≤ n) && decide (n ≤ IntKind.u64.max)) = true := h
  rw [Bool.and_eq_true, decide_eq_true_iff, decide_eq_true_iff] at h1
  have e1 : IntKind.u64.min = 0 := by decide
  have e2 : IntKind.u64.max = 18446744073709551615 := by decide
  omega

theorem RowG.cell1 {w : World} {k : IntKind} {ok : Int → Prop} {s : SlV} {z : Nat → Int} (h : RowG w (.int k) ok s z) {j : Nat} (hj : j < s.len) : ∃ x, s.base = some x ∧ w.cell? (x.add j) = some (.int k (z j)) ∧ ok (z j) := by
  obtain ⟨x, h1, h2, h3⟩ := h.2.2 j hj
  have := h2 0 _ rfl
  simp only [AT.size, Nat.mul_one, Nat.add_zero] at this
  exact ⟨x, h1, this, h3⟩
end Go.Sh


set_option linter.all false
set_option maxRecDepth 4000
namespace Go.Sh

def ints (k : IntKind) (l : List Int) : List Value := l.map fun n => .int k n
def bools (l : List Bool) : List Value := l.map fun b => .bool b

def MapF (b : Nat) (k : IntKind) (g : Int → Option Value) : Pr where
  holds D w := (∀ i, D i ↔ i = b) ∧ ∃ es c m, w.heap[b]? = some (.map es c) ∧ MapI k es c m ∧ ∀ i, aget m i = g i
  loc h he hS := ⟨h.1, let ⟨es, c, m, h1, h2⟩ := h.2; ⟨es, c, m, he.obj h1 (hS _ ((h.1 _).2 rfl)), h2⟩⟩
  lt h hk := by have := (h.1 _).1 hk; subst this; obtain ⟨es, c, m, h1, _⟩ := h.2; exact block_lt h1

section
variable {F : List Pr} {w w' : World} {b : Nat} {k : IntKind} {g : Int → Option Value}

theorem AL_map (H : Sat F w) (k : IntKind) {K : Nat → World → Prop} (hK : ∀ b w', Sat (MapF b k (fun _ => none) :: F) w' → Ext Nothing w w' → K b w') : AL (.map #[] 0) w K :=
  AL_intro fun w' hb hs he => hK _ _ (H.new (P := MapF w.heap.size k fun _ => none) (D := fun k => k = w.heap.size) he ⟨fun _ => Iff.rfl, _, _, [], hb, MapI.empty k, fun _ => rfl⟩ fun k hk => by omega) he

theorem Sat.mapOpen (H : Sat (MapF b k g :: F) w) : ∃ es c m, w.heap[b]? = some (.map es c) ∧ MapI k es c m ∧ ∀ i, aget m i = g i := let ⟨_, h⟩ := H.head; h.2

theorem LKP_sl (H : Sat (MapF b k g :: F) w) {n : Int} {z : Value} {K : Value → Bool → Array MapEntry → Prop} (hK : ∀ es, w.heap[b]? = some (.map es (es.size)) ∨ True → K ((g n).getD z) (g n).isSome es) : LKP k n (some b) w z K := by
  obtain ⟨es, c, m, h1, h2, h3⟩ := H.mapOpen
  refine LKP_intro h1 h2 ?_
  rw [h3]
  exact hK es (.inr trivial)

theorem Sat.mapStep (H : Sat (MapF b k g :: F) w) {es' : Array MapEntry} {c' : Nat} {m' : List (Int × Value)} {g' : Int → Option Value} (he : Ext (Only b) w w') (h1 : w'.heap[b]? = some (.map es' c')) (h2 : MapI k es' c' m') (h3 : ∀ i, aget m' i = g' i) :
    Sat (MapF b k g' :: F) w' := by
  obtain ⟨D, h, hs⟩ := H.step
  exact hs w' D _ (he.mono fun i _ hi => (h.1 i).2 hi) ⟨h.1, es', c', m', h1, h2, h3⟩ fun k hk => .inl hk

theorem MUPD_sl (H : Sat (MapF b k g :: F) w) {n : Int} {v : Value} {K : World → Prop} (hK : ∀ w', Sat (MapF b k (fun i => if i = n then some v else g i) :: F) w' → K w') : MUPD k n v (some b) w K := by
  obtain ⟨es, c, m, h1, h2, h3⟩ := H.mapOpen
  refine MUPD_intro h1 h2 fun w' es' c' m' g1 g2 g3 _ _ _ he _ => hK w' (H.mapStep he g1 g2 fun i => ?_)
  rw [g3, h3]

end

section
variable {F : List Pr} {w w' : World} {t : Nat} {s : SlV} {vs : List Value}

end

abbrev Pgs := Int → Option (Nat × (Int → Int))

section
variable {F : List Pr} {w w' : World} {n : Nat} {G : Pgs}

end

end Go.Sh


set_option linter.all false
set_option maxRecDepth 4000
namespace Go.Sh

theorem RowG.oldI {w w' : World} {k : IntKind} {s : SlV} {z : Nat → Int} (h : RowA w (.int k) s z) (he : Ext Nothing w w') : RowA w' (.int k) s z :=
  ⟨h.1, h.2.1, fun j hj => by
    obtain ⟨x, h1, h2, h3⟩ := h.2.2 j hj
    exact ⟨x, h1, fun i v hv => he.cell (h2 i v hv) fun f => f, h3⟩⟩

end Go.Sh

