/- What a law's arguments are, read once for all. No further condition. -/
import Derived.Test.YtelbllakgljffaaM
import Derived.WalkKit
import Derived.ProofKit
import Derived.OpenShut
import Derived.ChangeOld
import Derived.Below
import Derived.Carry
import Derived.DataReads
set_option linter.all false
namespace Go.Sh
open Go.ChangeShapes Go.WideShapes Go.ChangeAt Go.RowKit

inductive AT where
  | int (k : IntKind) | bool | sl (e : AT) | nil | cons (f r : AT)

def AT.size : AT → Nat
  | .int _ => 1 | .bool => 1 | .sl _ => 1 | .nil => 0 | .cons f r => f.size + r.size

def ArgS (w : World) : AT → List Value → Prop
  | .int k, cs => ∃ n, cs = [.int k n] ∧ (Lit.int k n).wf = true
  | .bool, cs => ∃ b, cs = [.bool b]
  | .sl e, cs => ∃ s : SlV, cs = [.slice s.base s.len s.cap] ∧ s.len ≤ s.cap ∧ s.cap ≤ maxLen ∧
      ∀ j, j < s.len → ∃ x l, s.base = some x ∧ l.length = e.size ∧ (∀ i v, l[i]? = some v → w.cell? (x.add (j * e.size + i)) = some v) ∧ ArgS w e l
  | .nil, cs => cs = []
  | .cons f r, cs => ∃ a b, cs = a ++ b ∧ ArgS w f a ∧ ArgS w r b

def shapeF (P : Program) (sh : TypeId → Option AT) : List Field → Nat → Option AT
  | [], _ => some .nil
  | f :: r, off => match Nat.beq f.offset off with
    | true => match sh f.type with
      | some a => match Nat.beq a.size (P.cellsOf f.type) with
        | true => match shapeF P sh r (off + a.size) with
          | some b => some (.cons a b)
          | none => none
        | false => none
      | none => none
    | false => none

def shapeP (P : Program) : Nat → TypeId → Option AT
  | 0, _ => none
  | n + 1, t => match P.underlying t with
    | some .bool => some .bool
    | some (.int k) => some (.int k)
    | some (.slice e) => match shapeP P n e with
      | some a => match Nat.beq a.size (P.cellsOf e) with
        | true => some (.sl a)
        | false => none
      | none => none
    | some (.struct fs) => match shapeF P (shapeP P n) fs.toList 0 with
      | some a => match Nat.beq a.size (P.cellsOf t) with
        | true => some a
        | false => none
      | none => none
    | _ => none

section
variable {H : Type} {enc : TypeId × Value → H} {P : Program} {w : World} {base : Nat} {sp : Nat → Bool} {held : Bool}

theorem mapM_mem {α β : Type} {f : α → Option β} : ∀ {l : List α} {r : List β}, l.mapM f = some r → ∀ a ∈ l, ∃ b, f a = some b
  | [], _, _, a, h => by cases h
  | x :: l, r, hm, a, h => by
    rw [List.mapM_cons] at hm
    cases hx : f x with
    | none => simp [hx] at hm
    | some y =>
      cases hl : l.mapM f with
      | none => simp [hx, hl] at hm
      | some ys =>
        rcases List.mem_cons.1 h with rfl | h
        · exact ⟨y, hx⟩
        · exact mapM_mem hl a h

theorem cells_get {w : World} {base : Nat} {a : Addr} {n : Nat} {l : List Value} (h : w.cells? base a n = some l) : l.length = n ∧ ∀ i v, l[i]? = some v → w.cell? (a.add i) = some v := by
  unfold World.cells? at h
  split at h
  · have key : ∀ (m : Nat) (k : Nat) (l : List Value), ((List.range' k m).mapM fun i => w.cell? (a.add i)) = some l → l.length = m ∧ ∀ i v, l[i]? = some v → w.cell? (a.add (k + i)) = some v := by
      intro m
      induction m with
      | zero => intro k l h; simp at h; subst h; simp
      | succ m ih =>
        intro k l h
        rw [List.range'_succ, List.mapM_cons] at h
        cases hx : w.cell? (a.add k) with
        | none => simp [hx] at h
        | some y =>
          cases hl : (List.range' (k + 1) m).mapM fun i => w.cell? (a.add i) with
          | none => simp [hx, hl] at h
          | some ys =>
            simp [hx, hl] at h
            subst h
            obtain ⟨h1, h2⟩ := ih (k + 1) ys hl
            refine ⟨by simp [h1], fun i v hv => ?_⟩
            cases i with
            | zero => simp at hv; subst hv; simpa using hx
            | succ i => have := h2 i v (by simpa using hv); rw [show k + (i + 1) = k + 1 + i from by omega]; exact this
    rw [List.range_eq_range'] at h
    have := key n 0 l h
    simpa using this
  · cases h

theorem shapeF_sound {sh : TypeId → Option AT} {tr : TypeId → List Value → Prop} (hsh : ∀ t a cs, sh t = some a → tr t cs → ArgS w a cs) :
    ∀ (fs : List Field) (off : Nat) (a : AT) (cs : List Value), shapeF P sh fs off = some a → cs.length = off + a.size → (∀ f ∈ fs, tr f.type ((cs.drop f.offset).take (P.cellsOf f.type))) → ArgS w a (cs.drop off)
  | [], off, a, cs, h, hl, _ => by
    simp only [shapeF, Option.some.injEq] at h
    subst h
    show cs.drop off = []
    rw [List.drop_eq_nil_iff]
    simp [AT.size] at hl
    omega
  | f :: r, off, a, cs, h, hl, ht => by
    unfold shapeF at h
    split at h
    · rename_i hoff
      have hoff := Nat.eq_of_beq_eq_true hoff
      split at h
      · rename_i a1 ha1
        split at h
        · rename_i hsz
          have hsz := Nat.eq_of_beq_eq_true hsz
          split at h
          · rename_i b hb
            cases h
            have h1 := hsh _ _ _ ha1 (ht f (by simp))
            have h2 := shapeF_sound hsh r (off + a1.size) b cs hb (by simp [AT.size] at hl; omega) (fun g hg => ht g (by simp [hg]))
            refine ⟨_, _, ?_, h1, h2⟩
            rw [hoff, ← hsz, ← List.drop_drop]
            exact (List.take_append_drop _ _).symm
          · cases h
        · cases h
      · cases h
    · cases h

theorem maxLen_pos : 0 ≤ maxLen := Nat.zero_le _

theorem shapeP_sound : ∀ (n : Nat) (t : TypeId) (a : AT) (cs : List Value), shapeP P n t = some a → (∃ m x, DataW.trod enc P w base sp held m t cs = some x) → ArgS w a cs
  | 0, _, _, _, h, _ => by simp [shapeP] at h
  | n + 1, t, a, cs, h, ⟨m, x, hx⟩ => by
    unfold shapeP at h
    split at h
    · rename_i hu
      cases h
      obtain ⟨b, hb, _⟩ := DataW.trod_bool hu hx
      exact ⟨b, hb⟩
    · rename_i k hu
      cases h
      obtain ⟨z, hb, _, hw⟩ := DataW.trod_int hu hx
      exact ⟨z, hb, hw⟩
    · rename_i e hu
      split at h
      · rename_i a1 ha1
        split at h
        · rename_i hsz
          have hsz := Nat.eq_of_beq_eq_true hsz
          cases h
          rcases DataW.trod_slice hu hx with ⟨h1, _⟩ | ⟨p, len, cap, elems, rest, m', _, hcs, _, _, hlc, hcm, hel, hread, _⟩
          · exact ⟨⟨none, 0, 0⟩, h1, Nat.le_refl _, Nat.zero_le _, fun j hj => by cases hj⟩
          · refine ⟨⟨some p, len, cap⟩, hcs, hlc, hcm, fun j hj => ?_⟩
            have hj : j < len := hj
            have hy := hread j hj
            rw [List.getElem?_eq_getElem (by omega)] at hy
            cases hl : w.cells? base (p.add (j * P.cellsOf e)) (P.cellsOf e) with
            | none => rw [hl] at hy; cases hy
            | some l =>
              rw [hl] at hy
              obtain ⟨g1, g2⟩ := cells_get hl
              refine ⟨p, l, rfl, by omega, fun i v hv => ?_, shapeP_sound n e a1 l ha1 ⟨m', _, hy⟩⟩
              have := g2 i v hv
              rw [hsz, ← add_add]
              exact this
        · cases h
      · cases h
    · rename_i fs hu
      split at h
      · rename_i a1 ha1
        split at h
        · rename_i hsz
          have hsz := Nat.eq_of_beq_eq_true hsz
          cases h
          obtain ⟨xs, m', _, _, hlen, hxs, hf⟩ := DataW.trod_struct hu hx
          have := shapeF_sound (P := P) (sh := shapeP P n) (tr := fun t cs => ∃ m x, DataW.trod enc P w base sp held m t cs = some x)
            (fun t a cs h1 h2 => shapeP_sound n t a cs h1 h2) fs.toList 0 a cs ha1 (by omega) (fun f hf' => by
              obtain ⟨i, hi⟩ := List.mem_iff_getElem?.1 hf'
              have hi' : fs[i]? = some f := by simpa using hi
              have h2 := hf i f hi'
              have hlt : i < xs.length := by
                have := (Array.getElem?_eq_some_iff.1 hi').1
                omega
              rw [List.getElem?_eq_getElem hlt] at h2
              exact ⟨m', _, h2⟩)
          simpa using this
        · cases h
      · cases h
    · cases h

/-- A value that came in, by its shape. -/
def ArgV (w : World) : AT → Value → Prop
  | .int k, v => ∃ n, v = .int k n ∧ (Lit.int k n).wf = true
  | .bool, v => ∃ b, v = .bool b
  | .sl e, v => ∃ s : SlV, v = .slice s.base s.len s.cap ∧ ArgS w (.sl e) [.slice s.base s.len s.cap]
  | a, v => ∃ l, v = .agg ⟨l⟩ ∧ ArgS w a l

def ArgVs (w : World) : List AT → List Value → Prop
  | [], vs => vs = []
  | a :: r, vs => ∃ v s, vs = v :: s ∧ ArgV w a v ∧ ArgVs w r s

def shapesP (P : Program) : List TypeId → Option (List AT)
  | [] => some []
  | t :: r => match shapeP P 9 t with
    | some a => match shapesP P r with
      | some l => some (a :: l)
      | none => none
    | none => none

theorem shapeF_form {sh : TypeId → Option AT} : ∀ {fs : List Field} {off : Nat} {a : AT}, shapeF P sh fs off = some a → a = .nil ∨ ∃ f r, a = .cons f r
  | [], _, _, h => by simp [shapeF] at h; exact .inl h.symm
  | f :: r, off, a, h => by
    unfold shapeF at h
    repeat' split at h
    all_goals first
      | (cases h; done)
      | (cases h; exact .inr ⟨_, _, rfl⟩)

theorem arg_of {r : Reach} {b0 : Nat} {n : Nat} {t : TypeId} {a : AT} {v : Value} {d : DataW H} {ps : List MemPlace} (hs : shapeP P n t = some a) (hval : Value.okWide P w r b0 t v)
    (hd : DataW.Trod enc P w base sp held t v d ps) : ArgV w a v := by
  obtain ⟨m, hm⟩ := hd
  have hS := shapeP_sound n t a v.cells.toList hs ⟨m, _, hm⟩
  cases n with
  | zero => simp [shapeP] at hs
  | succ n =>
  unfold shapeP at hs
  split at hs
  · rename_i hu
    cases hs
    obtain ⟨b, rfl⟩ := okWide_bool hu hval
    exact ⟨b, rfl⟩
  · rename_i k hu
    cases hs
    obtain ⟨z, rfl⟩ := okWide_int hu hval
    obtain ⟨z', h1, h2⟩ := hS
    simp [Value.cells] at h1
    subst h1
    exact ⟨z, rfl, h2⟩
  · rename_i e hu
    obtain ⟨x, l, c, rfl⟩ := okWide_slice hu hval
    split at hs
    · split at hs
      · cases hs
        exact ⟨⟨x, l, c⟩, rfl, hS⟩
      · cases hs
    · cases hs
  · rename_i fs hu
    obtain ⟨cs, rfl, hsz⟩ := okWide_struct hu hval
    split at hs
    · rename_i a1 ha1
      split at hs
      · cases hs
        have : ArgS w a cs.toList := hS
        rcases shapeF_form ha1 with rfl | ⟨f, r, rfl⟩
        · exact ⟨cs.toList, rfl, this⟩
        · exact ⟨cs.toList, rfl, this⟩
      · cases hs
    · cases hs
  · cases hs

theorem args_of {r : Reach} {b0 : Nat} : ∀ {ts : List TypeId} {shs : List AT} {vs : List Value} {ds : List (DataW H)} {p : List MemPlace}, shapesP P ts = some shs →
    (∀ (j : Nat) t v, ts[j]? = some t → vs[j]? = some v → Value.okWide P w r b0 t v) → DataW.TrodAll enc P w base sp held ts vs ds p → ArgVs w shs vs
  | [], shs, vs, ds, p, hs, _, h => by
    simp [shapesP] at hs
    subst hs
    cases vs with
    | nil => rfl
    | cons v vs => cases ds <;> simp [DataW.TrodAll] at h
  | t :: ts, shs, vs, ds, p, hs, hval, h => by
    unfold shapesP at hs
    split at hs
    · rename_i a ha
      split at hs
      · rename_i l hl
        cases hs
        cases vs with
        | nil => cases ds <;> simp [DataW.TrodAll] at h
        | cons v vs =>
          cases ds with
          | nil => simp [DataW.TrodAll] at h
          | cons d ds =>
            obtain ⟨p1, q1, h1, h2, _⟩ := h
            exact ⟨v, vs, rfl, arg_of ha (hval 0 t v rfl rfl) h1, args_of hl (fun j t' v' ht hv => hval (j + 1) t' v' (by simpa using ht) (by simpa using hv)) h2⟩
      · cases hs
    · cases hs

def allReadable (P : Program) : List TypeId → Bool
  | [] => true
  | t :: r => match P.readableRec t with
    | true => match Nat.ble (t + 1) P.types.size with
      | true => allReadable P r
      | false => false
    | false => false

theorem trodAll_below (hl : laidOutB P = true) {W W' : World} (hb : Below W.heap.size W W') : ∀ {ts : List TypeId} {vs : List Value} {ds : List (DataW H)} {p : List MemPlace}, allReadable P ts = true →
    DataW.TrodAll enc P W 0 (fun _ => true) true ts vs ds p → DataW.TrodAll enc P W' 0 (fun b => decide (b < W.heap.size)) true ts vs ds p
  | [], vs, ds, p, _, h => by
    cases vs <;> cases ds <;> simp [DataW.TrodAll] at h ⊢ <;> exact h
  | t :: ts, vs, ds, p, hr, h => by
    unfold allReadable at hr
    split at hr
    · rename_i h1
      split at hr
      · rename_i h2
        have h2 := Nat.le_of_ble_eq_true h2
        cases vs with
        | nil => cases ds <;> simp [DataW.TrodAll] at h
        | cons v vs =>
          cases ds with
          | nil => simp [DataW.TrodAll] at h
          | cons d ds =>
            obtain ⟨p1, q1, k1, k2, k3⟩ := h
            exact ⟨p1, q1, Below.trod hl h1 h2 k1 hb (by obtain ⟨m, hm⟩ := k1; exact DataW.trod_lt m _ _ _ hm), trodAll_below hl hb hr k2, k3⟩
      · cases hr
    · cases hr

theorem trodAll_len : ∀ {ts : List TypeId} {vs : List Value} {ds : List (DataW H)} {p : List MemPlace}, DataW.TrodAll enc P w base sp held ts vs ds p → ds.length = ts.length
  | [], vs, ds, p, h => by cases vs <;> cases ds <;> simp [DataW.TrodAll] at h ⊢
  | t :: ts, vs, ds, p, h => by
    cases vs with
    | nil => cases ds <;> simp [DataW.TrodAll] at h
    | cons v vs =>
      cases ds with
      | nil => simp [DataW.TrodAll] at h
      | cons d ds =>
        obtain ⟨p1, q1, k1, k2, k3⟩ := h
        simp [trodAll_len k2]
end

/-! ### Typed contents -/

def ElT : AT → Type
  | .int _ => Int | .bool => Bool | .sl _ => SlV | .nil => Unit | .cons f r => ElT f × ElT r

def ElT.dflt : (a : AT) → ElT a
  | .int _ => (0 : Int) | .bool => false | .sl _ => (⟨none, 0, 0⟩ : SlV) | .nil => () | .cons f r => (ElT.dflt f, ElT.dflt r)

def elCells : (a : AT) → ElT a → List Value
  | .int k, n => [.int k n]
  | .bool, b => [.bool b]
  | .sl _, s => [.slice (SlV.base s) (SlV.len s) (SlV.cap s)]
  | .nil, _ => []
  | .cons f r, x => elCells f x.1 ++ elCells r x.2

/-- A row that came in, with what it holds. -/
def RowG (w : World) (e : AT) (ok : ElT e → Prop) (s : SlV) (z : Nat → ElT e) : Prop := s.len ≤ s.cap ∧ s.cap < 9223372036854775808 ∧
  ∀ j, j < s.len → ∃ x, s.base = some x ∧ (∀ i v, (elCells e (z j))[i]? = some v → w.cell? (x.add (j * e.size + i)) = some v) ∧ ok (z j)

def elOk (w : World) : (a : AT) → ElT a → Prop
  | .int k, n => (Lit.int k n).wf = true
  | .bool, _ => True
  | .sl e, s => ∃ z, RowG w e (elOk w e) s z
  | .nil, _ => True
  | .cons f r, x => elOk w f x.1 ∧ elOk w r x.2

abbrev RowA (w : World) (e : AT) : SlV → (Nat → ElT e) → Prop := RowG w e (elOk w e)

theorem el_of_arg {w : World} : (a : AT) → (cs : List Value) → ArgS w a cs → ∃ x : ElT a, cs = elCells a x ∧ elOk w a x
  | .int k, cs, h => let ⟨n, h1, h2⟩ := h; ⟨n, h1, h2⟩
  | .bool, cs, h => let ⟨b, h1⟩ := h; ⟨b, h1, trivial⟩
  | .sl e, cs, h => by
    obtain ⟨s, h1, h2, h3, h4⟩ := h
    have key : ∀ j, ∃ y : ElT e, j < s.len → ∃ x, s.base = some x ∧ (∀ i v, (elCells e y)[i]? = some v → w.cell? (x.add (j * e.size + i)) = some v) ∧ elOk w e y := by
      intro j
      by_cases hj : j < s.len
      · obtain ⟨x, l, g1, g2, g3, g4⟩ := h4 j hj
        obtain ⟨y, rfl, hy⟩ := el_of_arg e l g4
        exact ⟨y, fun _ => ⟨x, g1, g3, hy⟩⟩
      · exact ⟨ElT.dflt e, fun h => absurd h hj⟩
    refine ⟨s, h1, fun j => Classical.choose (key j), h2, ?_, fun j hj => Classical.choose_spec (key j) hj⟩
    have : maxLen = 9223372036854775807 := by decide
    omega
  | .nil, cs, h => ⟨(), h, trivial⟩
  | .cons f r, cs, h => by
    obtain ⟨a, b, rfl, h1, h2⟩ := h
    obtain ⟨x, rfl, hx⟩ := el_of_arg f a h1
    obtain ⟨y, rfl, hy⟩ := el_of_arg r b h2
    exact ⟨(x, y), rfl, hx, hy⟩

/-- The value of a content. -/
def elV : (a : AT) → ElT a → Value
  | .int k, n => .int k n
  | .bool, b => .bool b
  | .sl _, s => .slice (SlV.base s) (SlV.len s) (SlV.cap s)
  | .nil, _ => .agg ⟨[]⟩
  | .cons f r, x => .agg ⟨elCells (.cons f r) x⟩

theorem elV_of_arg {w : World} {a : AT} {v : Value} (h : ArgV w a v) : ∃ x : ElT a, v = elV a x ∧ elOk w a x := by
  cases a with
  | int k => exact h
  | bool => obtain ⟨b, h⟩ := h; exact ⟨b, h, trivial⟩
  | sl e =>
    obtain ⟨s, rfl, h⟩ := h
    obtain ⟨s', h1, h2⟩ := el_of_arg _ _ h
    have h1' : [Value.slice s.base s.len s.cap] = [Value.slice (SlV.base s') (SlV.len s') (SlV.cap s')] := h1
    simp only [List.cons.injEq, Value.slice.injEq, and_true] at h1'
    obtain ⟨e1, e2, e3⟩ := h1'
    refine ⟨s', ?_, h2⟩
    show Value.slice s.base s.len s.cap = Value.slice (SlV.base s') (SlV.len s') (SlV.cap s')
    rw [e1, e2, e3]
  | nil => obtain ⟨l, rfl, h⟩ := h; have : l = [] := h; subst this; exact ⟨(), rfl, trivial⟩
  | cons f r =>
    obtain ⟨l, rfl, h⟩ := h
    obtain ⟨x, rfl, hx⟩ := el_of_arg _ _ h
    exact ⟨x, rfl, hx⟩

def ArgTs : List AT → Type
  | [] => Unit
  | a :: r => ElT a × ArgTs r
def argVals : (l : List AT) → ArgTs l → List Value
  | [], _ => []
  | a :: r, x => elV a x.1 :: argVals r x.2
def argOks (w : World) : (l : List AT) → ArgTs l → Prop
  | [], _ => True
  | a :: r, x => elOk w a x.1 ∧ argOks w r x.2

theorem argVals_of {w : World} : {l : List AT} → {vs : List Value} → ArgVs w l vs → ∃ x : ArgTs l, vs = argVals l x ∧ argOks w l x
  | [], vs, h => ⟨(), h, trivial⟩
  | a :: r, vs, h => by
    obtain ⟨v, s, rfl, h1, h2⟩ := h
    obtain ⟨x, rfl, hx⟩ := elV_of_arg h1
    obtain ⟨y, rfl, hy⟩ := argVals_of h2
    exact ⟨(x, y), rfl, hx, hy⟩

theorem u64_wf {n : Int} (h : (Lit.int .u64 n).wf = true) : 0 ≤ n ∧ n < 18446744073709551616 := by
  have h1 : (decide (IntKind.u64.min ≤ n) && decide (n ≤ IntKind.u64.max)) = true := h
  rw [Bool.and_eq_true, decide_eq_true_iff, decide_eq_true_iff] at h1
  have e1 : IntKind.u64.min = 0 := by decide
  have e2 : IntKind.u64.max = 18446744073709551615 := by decide
  omega

theorem i64_wf {n : Int} (h : (Lit.int .i64 n).wf = true) : -9223372036854775808 ≤ n ∧ n < 9223372036854775808 := by
  have h1 : (decide (IntKind.i64.min ≤ n) && decide (n ≤ IntKind.i64.max)) = true := h
  rw [Bool.and_eq_true, decide_eq_true_iff, decide_eq_true_iff] at h1
  have e1 : IntKind.i64.min = -9223372036854775808 := by decide
  have e2 : IntKind.i64.max = 9223372036854775807 := by decide
  omega

/-- A row of numbers: its cells. -/
theorem RowG.cell1 {w : World} {k : IntKind} {ok : Int → Prop} {s : SlV} {z : Nat → Int} (h : RowG w (.int k) ok s z) {j : Nat} (hj : j < s.len) : ∃ x, s.base = some x ∧ w.cell? (x.add j) = some (.int k (z j)) ∧ ok (z j) := by
  obtain ⟨x, h1, h2, h3⟩ := h.2.2 j hj
  have := h2 0 _ rfl
  simp only [AT.size, Nat.mul_one, Nat.add_zero] at this
  exact ⟨x, h1, this, h3⟩
theorem RowG.cellB {w : World} {ok : Bool → Prop} {s : SlV} {z : Nat → Bool} (h : RowG w .bool ok s z) {j : Nat} (hj : j < s.len) : ∃ x, s.base = some x ∧ w.cell? (x.add j) = some (.bool (z j)) := by
  obtain ⟨x, h1, h2, h3⟩ := h.2.2 j hj
  have := h2 0 _ rfl
  simp only [AT.size, Nat.mul_one, Nat.add_zero] at this
  exact ⟨x, h1, this⟩

end Go.Sh

set_option linter.all false
set_option maxRecDepth 4000
namespace Go.Sh

theorem Sat.front2 {P0 : Pr} {Ps : List Pr} {w : World} {P : Pr} (i : Nat) (H : Sat (P0 :: Ps) w) (hi : Ps[i]? = some P) : Sat (P0 :: P :: Ps.eraseIdx i) w := H.perm ((perm_front hi).cons P0)
theorem Sat.back2 {P0 P' : Pr} {Ps : List Pr} {w : World} (i : Nat) (H : Sat (P0 :: P' :: Ps.eraseIdx i) w) (hi : i < Ps.length := by simp) : Sat (P0 :: Ps.set i P') w := H.perm ((perm_back hi).cons P0)

/-- A place that is to be filled yet. -/
def Emp : Pr where
  holds D _ := ∀ k, ¬ D k
  loc h _ _ := h
  lt h hk := (h _ hk).elim
theorem Sat.emp {F : List Pr} {w : World} (H : Sat F w) : Sat (Emp :: F) w := H.new (P := Emp) (D := fun _ => False) (Ext.refl _ _) (fun _ f => f) fun _ f => f.elim
theorem Sat.noEmp {F : List Pr} {w : World} (H : Sat (Emp :: F) w) : Sat F w := H.tail

/-! ### A row of flags -/

def flags (n : Nat) (u : Int → Bool) : List Value := (List.range n).map fun i : Nat => .bool (u i)

theorem flags_get {n : Nat} {u : Int → Bool} {i : Nat} (hi : i < n) : (flags n u)[i]? = some (.bool (u i)) := by simp [flags, hi]
theorem flags_getI {n : Nat} {u : Int → Bool} {i : Int} (h0 : 0 ≤ i) (hi : i < n) : (flags n u)[0 + i.toNat]? = some (.bool (u i)) := by
  rw [Nat.zero_add, flags_get (by omega)]
  rw [show ((i.toNat : Nat) : Int) = i by omega]
theorem flags_set {n : Nat} {u : Int → Bool} {i : Int} (h0 : 0 ≤ i) (v : Bool) : (flags n u).set (0 + i.toNat) (.bool v) = flags n fun j => if j = i then v else u j := by
  rw [Nat.zero_add]
  apply List.ext_getElem?
  intro j
  rw [List.getElem?_set]
  by_cases hj : j < n
  · rw [flags_get hj, flags_get hj]
    simp only [flags, List.length_map, List.length_range]
    by_cases e : i.toNat = j
    · rw [if_pos e, if_pos (by omega), if_pos (by omega)]
    · rw [if_neg e, if_neg (by omega)]
  · simp only [flags, List.length_map, List.length_range]
    simp [hj]
    omega
theorem flags_len {n : Nat} {u : Int → Bool} : (flags n u).length = n := by simp [flags]
theorem mkZero_cell {v : Value} {n i : Nat} (hi : i < n) : (mkZero #[v] n)[i]? = some v := by
  unfold mkZero
  simp [hi, Nat.mod_one]

theorem mkZero_flags (n : Nat) : mkZero #[.bool false] n = ⟨flags n fun _ => false⟩ := by
  apply Array.ext'
  apply List.ext_getElem?
  intro i
  by_cases hi : i < n
  · rw [flags_get hi]; simpa using mkZero_cell (v := .bool false) hi
  · rw [List.getElem?_eq_none (by simp [mkZero]; omega), List.getElem?_eq_none (by simp [flags]; omega)]

/-- Where so many rows are free in a row of flags: the first. -/
def freeRow (u : Int → Bool) (p n : Int) : Prop := ∀ m, p ≤ m → m < p + n → u m = false

def ints (k : IntKind) (l : List Int) : List Value := l.map fun n => .int k n
theorem ints_get {k : IntKind} {l : List Int} {i : Nat} {n : Int} (h : l[i]? = some n) : (ints k l)[i]? = some (.int k n) := by simp [ints, h]

def bools (l : List Bool) : List Value := l.map fun b => .bool b
theorem bools_get {l : List Bool} {i : Nat} {n : Bool} (h : l[i]? = some n) : (bools l)[i]? = some (.bool n) := by simp [bools, h]

/-! ### Maps -/

def MapF (b : Nat) (k : IntKind) (g : Int → Option Value) : Pr where
  holds D w := (∀ i, D i ↔ i = b) ∧ ∃ es c m, w.heap[b]? = some (.map es c) ∧ MapI k es c m ∧ ∀ i, aget m i = g i
  loc h he hS := ⟨h.1, let ⟨es, c, m, h1, h2⟩ := h.2; ⟨es, c, m, he.obj h1 (hS _ ((h.1 _).2 rfl)), h2⟩⟩
  lt h hk := by have := (h.1 _).1 hk; subst this; obtain ⟨es, c, m, h1, _⟩ := h.2; exact block_lt h1

section
variable {F : List Pr} {w w' : World} {b : Nat} {k : IntKind} {g : Int → Option Value}

theorem AL_map (H : Sat F w) (k : IntKind) {K : Nat → World → Prop} (hK : ∀ b w', Sat (MapF b k (fun _ => none) :: F) w' → Ext Nothing w w' → K b w') : AL (.map #[] 0) w K :=
  AL_intro fun w' hb hs he => hK _ _ (H.new (P := MapF w.heap.size k fun _ => none) (D := fun k => k = w.heap.size) he ⟨fun _ => Iff.rfl, _, _, [], hb, MapI.empty k, fun _ => rfl⟩ fun k hk => by omega) he

theorem Sat.mapOpen (H : Sat (MapF b k g :: F) w) : ∃ es c m, w.heap[b]? = some (.map es c) ∧ MapI k es c m ∧ ∀ i, aget m i = g i := let ⟨_, h⟩ := H.head; h.2

theorem LKP_sl (H : Sat (MapF b k g :: F) w) {n : Int} {z : Value} {K : Value → Bool → Array MapEntry → Prop} (hK : ∀ es, w.heap[b]? = some (.map es (es.size)) ∨ True → K ((g n).getD z) (g n).isSome es) : LKP k n (some b) w z K := by
  obtain ⟨es, c, m, h1, h2, h3⟩ := H.mapOpen
  refine LKP_intro h1 h2 ?_
  rw [h3]
  exact hK es (.inr trivial)

/-- The map has changed in itself. -/
theorem Sat.mapStep (H : Sat (MapF b k g :: F) w) {es' : Array MapEntry} {c' : Nat} {m' : List (Int × Value)} {g' : Int → Option Value} (he : Ext (Only b) w w') (h1 : w'.heap[b]? = some (.map es' c')) (h2 : MapI k es' c' m') (h3 : ∀ i, aget m' i = g' i) :
    Sat (MapF b k g' :: F) w' := by
  obtain ⟨D, h, hs⟩ := H.step
  exact hs w' D _ (he.mono fun i _ hi => (h.1 i).2 hi) ⟨h.1, es', c', m', h1, h2, h3⟩ fun k hk => .inl hk

theorem MUPD_sl (H : Sat (MapF b k g :: F) w) {n : Int} {v : Value} {K : World → Prop} (hK : ∀ w', Sat (MapF b k (fun i => if i = n then some v else g i) :: F) w' → K w') : MUPD k n v (some b) w K := by
  obtain ⟨es, c, m, h1, h2, h3⟩ := H.mapOpen
  refine MUPD_intro h1 h2 fun w' es' c' m' g1 g2 g3 _ _ _ he _ => hK w' (H.mapStep he g1 g2 fun i => ?_)
  rw [g3, h3]

theorem MDEL_sl (H : Sat (MapF b k g :: F) w) {n : Int} {K : World → Prop} (hK : ∀ w', Sat (MapF b k (fun i => if i = n then none else g i) :: F) w' → K w') : MDEL k n (some b) w K := by
  obtain ⟨es, c, m, h1, h2, h3⟩ := H.mapOpen
  refine MDEL_intro h1 h2 fun w' es' m' g1 g2 g3 _ _ _ he _ => hK w' (H.mapStep he g1 g2 fun i => ?_)
  rw [g3, h3]
end

/-! ### Rows that are read from the front -/

def RowV (s : SlV) (vs : List Value) : Pr where
  holds D w := (∀ k, D k ↔ Blk' s k) ∧ s.len ≤ s.cap ∧ vs.length = s.len ∧ s.cap < 9223372036854775808 ∧ (∀ a, s.base = some a → a.block < w.heap.size) ∧ rowAt w s.base s.len vs
  loc h he hS := ⟨h.1, h.2.1, h.2.2.1, h.2.2.2.1, fun a ha => by have := h.2.2.2.2.1 a ha; have := he.size; omega, rowAt_ext h.2.2.2.2.2 he fun a ha _ => hS _ ((h.1 _).2 ⟨a, ha, rfl⟩)⟩
  lt h hk := by obtain ⟨a, ha, rfl⟩ := (h.1 _).1 hk; exact h.2.2.2.2.1 a ha

section
variable {F : List Pr} {w w' : World} {t : Nat} {s : SlV} {vs : List Value}

theorem Sat.rowV (H : Sat (Row t 1 s vs :: F) w) : Sat (RowV s vs :: F) w := by
  obtain ⟨D, h, hs⟩ := H.step
  have ho := h.2
  refine hs w D _ (Ext.refl _ _) ⟨h.1, ho.cap, by simpa using ho.len, ho.top, fun a ha => (ho.lt ha).2.1, by simpa using ho.rowAt⟩ fun k hk => .inl hk

theorem Sat.rowVlen (H : Sat (RowV s vs :: F) w) : vs.length = s.len ∧ s.len ≤ s.cap ∧ s.cap < 9223372036854775808 := let ⟨_, h⟩ := H.head; ⟨h.2.2.1, h.2.1, h.2.2.2.1⟩

theorem Sat.rowVcell (H : Sat (RowV s vs :: F) w) {j : Nat} {v : Value} (hv : vs[j]? = some v) : ∃ a, s.base = some a ∧ w.cell? (a.add j) = some v := by
  obtain ⟨D, h⟩ := H.head
  have hr := h.2.2.2.2.2
  cases hb : s.base with
  | none => rw [hb] at hr; have : vs = [] := hr; subst this; simp at hv
  | some a => rw [hb] at hr; exact ⟨a, rfl, hr.2 j v hv⟩

theorem slB_blk {b : Option Addr} {c m z : Nat} {k : Nat} : (∃ a, slB b c m z = some a ∧ k = a.block) ↔ ∃ a, b = some a ∧ k = a.block := by
  unfold slB
  split
  · exact Iff.rfl
  · cases b with
    | none => simp
    | some a => simp [add_block]

/-- The first ones are taken off. -/
theorem Sat.rowVdrop (H : Sat (RowV s vs :: F) w) {n : Nat} (hn : n ≤ s.len) : Sat (RowV ⟨slB s.base s.cap n 1, s.len - n, s.cap - n⟩ (vs.drop n) :: F) w := by
  obtain ⟨D, h, hs⟩ := H.step
  refine hs w D _ (Ext.refl _ _) ⟨fun k => ?_, ?_, ?_, ?_, ?_, ?_⟩ fun k hk => .inl hk
  · rw [h.1]; exact slB_blk.symm
  · simp only; have := h.2.1; omega
  · simp only [List.length_drop, h.2.2.1]
  · simp only; have := h.2.2.2.1; omega
  · intro a ha
    obtain ⟨a', ha', e⟩ := (slB_blk (k := a.block)).1 ⟨a, ha, rfl⟩
    rw [e]; exact h.2.2.2.2.1 a' ha'
  · have := rowAt_drop (z := 1) h.2.2.2.2.2 (by simp) hn h.2.1 h.2.2.1
    simpa using this

theorem Sat.rowVnil {F : List Pr} {w : World} (H : Sat F w) : Sat (RowV ⟨none, 0, 0⟩ [] :: F) w :=
  H.new (P := RowV ⟨none, 0, 0⟩ []) (D := Blk' ⟨none, 0, 0⟩) (Ext.refl _ _) ⟨fun _ => Iff.rfl, Nat.le_refl _, rfl, by decide, fun _ h => (by cases h), rfl⟩ fun k hk => by obtain ⟨a, ha, _⟩ := hk; cases ha
end

/-! ### Pages of words -/

abbrev Pgs := Int → Option (Nat × (Int → Int))

def PagesR (n : Nat) (G : Pgs) : Pr where
  holds D w := (∀ k, D k ↔ ∃ p x, G p = some x ∧ k = x.1) ∧ (∀ p q x y, G p = some x → G q = some y → x.1 = y.1 → p = q) ∧
    ∀ p x, G p = some x → x.1 < w.heap.size ∧ ∀ j : Nat, j < n → w.cell? ⟨x.1, j, none⟩ = some (.int .u64 (x.2 j)) ∧ w.frozen? ⟨x.1, j, none⟩ = false
  loc h he hS := ⟨h.1, h.2.1, fun p x hp => ⟨by have := (h.2.2 p x hp).1; have := he.size; omega, fun j hj => ⟨he.cell ((h.2.2 p x hp).2 j hj).1 (hS _ ((h.1 _).2 ⟨p, x, hp, rfl⟩)), by
    rw [he.frozen (p := ⟨x.1, j, none⟩) (h.2.2 p x hp).1 (hS _ ((h.1 _).2 ⟨p, x, hp, rfl⟩))]; exact ((h.2.2 p x hp).2 j hj).2⟩⟩⟩
  lt h hk := by obtain ⟨p, x, hp, rfl⟩ := (h.1 _).1 hk; exact (h.2.2 p x hp).1

section
variable {F : List Pr} {w w' : World} {n : Nat} {G : Pgs}

theorem Sat.pgNil (H : Sat F w) (n : Nat) : Sat (PagesR n (fun _ => none) :: F) w :=
  H.new (P := PagesR n fun _ => none) (D := fun _ => False) (Ext.refl _ _) ⟨fun k => ⟨fun f => f.elim, fun ⟨_, _, h, _⟩ => (by cases h)⟩, fun _ _ _ _ h => (by cases h), fun _ _ h => (by cases h)⟩ fun _ f => f.elim

theorem Sat.pgCell (H : Sat (PagesR n G :: F) w) {p : Int} {x : Nat × (Int → Int)} (hp : G p = some x) {j : Nat} (hj : j < n) : w.cell? ⟨x.1, j, none⟩ = some (.int .u64 (x.2 j)) :=
  let ⟨_, h⟩ := H.head; ((h.2.2 p x hp).2 j hj).1

/-- Pages are let go. -/
theorem Sat.pgDrop (H : Sat (PagesR n G :: F) w) {G' : Pgs} (hG : ∀ p x, G' p = some x → G p = some x) : Sat (PagesR n G' :: F) w := by
  obtain ⟨D, h, hs⟩ := H.step
  refine hs w (fun k => ∃ p x, G' p = some x ∧ k = x.1) _ (Ext.refl _ _) ⟨fun _ => Iff.rfl, fun p q x y hp hq => h.2.1 p q x y (hG p x hp) (hG q y hq), fun p x hp => h.2.2 p x (hG p x hp)⟩ fun k hk => .inl ?_
  obtain ⟨p, x, hp, rfl⟩ := hk
  exact (h.1 _).2 ⟨p, x, hG p x hp, rfl⟩

/-- A new page. -/
theorem Sat.pgNew {b t : Nat} {vs : List Value} {ws : Int → Int} (H : Sat (Cells b t vs :: PagesR n G :: F) w) {p : Int} (hp : G p = none) (hv : ∀ j : Nat, j < n → vs[j]? = some (.int .u64 (ws j))) :
    Sat (PagesR n (fun q => if q = p then some (b, ws) else G q) :: F) w := by
  obtain ⟨D, D1, D2, hc, ⟨D3, D4, hP, hF, hd2, hD2⟩, hd, hD⟩ := H
  have get : ∀ q x, (if q = p then some (b, ws) else G q) = some x → (q = p ∧ x = (b, ws)) ∨ (q ≠ p ∧ G q = some x) := by
    intro q x h
    by_cases e : q = p
    · rw [if_pos e] at h; cases h; exact .inl ⟨e, rfl⟩
    · rw [if_neg e] at h; exact .inr ⟨e, h⟩
  have hne : ∀ q x, G q = some x → x.1 ≠ b := fun q x hq e => hd b ((hc.1 _).2 rfl) ((hD2 _).2 (.inl ((hP.1 _).2 ⟨q, x, hq, e.symm⟩)))
  refine ⟨fun k => D1 k ∨ D2 k, fun k => D1 k ∨ D3 k, D4, ⟨fun k => ?_, fun q r x y hq hr e => ?_, fun q x hq => ?_⟩, hF, ?_, fun k => ?_⟩
  · constructor
    · rintro (h | h)
      · exact ⟨p, (b, ws), by simp, (hc.1 k).1 h⟩
      · obtain ⟨q, x, hq, rfl⟩ := (hP.1 k).1 h
        refine ⟨q, x, ?_, rfl⟩
        have : q ≠ p := fun e => by rw [e, hp] at hq; cases hq
        simp [this, hq]
    · rintro ⟨q, x, hq, rfl⟩
      rcases get q x hq with ⟨_, rfl⟩ | ⟨_, h⟩
      · exact .inl ((hc.1 _).2 rfl)
      · exact .inr ((hP.1 _).2 ⟨q, x, h, rfl⟩)
  · rcases get q x hq with ⟨e1, rfl⟩ | ⟨e1, h1⟩
    · rcases get r y hr with ⟨e2, rfl⟩ | ⟨e2, h2⟩
      · rw [e1, e2]
      · exact absurd e.symm (hne r y h2)
    · rcases get r y hr with ⟨e2, rfl⟩ | ⟨e2, h2⟩
      · exact absurd e (hne q x h1)
      · exact hP.2.1 q r x y h1 h2 e
  · rcases get q x hq with ⟨_, rfl⟩ | ⟨_, h⟩
    · exact ⟨hc.2.1, fun j hj => hc.2.2 j _ (hv j hj)⟩
    · exact hP.2.2 q x h
  · rintro k (h | h) h4
    · exact hd k h ((hD2 k).2 (.inr h4))
    · exact hd2 k h h4
  · show D1 k ∨ D2 k ↔ (D1 k ∨ D3 k) ∨ D4 k
    rw [hD2 k, or_assoc]

/-- A word is stored. -/
theorem st_page (H : Sat (PagesR n G :: F) w) {p : Int} {x : Nat × (Int → Int)} (hp : G p = some x) {j : Nat} (hj : j < n) {v : Int} {K : World → Prop}
    (hK : ∀ w', Sat (PagesR n (fun q => if q = p then some (x.1, fun i => if i = j then v else x.2 i) else G q) :: F) w' → K w') : stCells ⟨x.1, j, none⟩ 0 [.int .u64 v] w K := by
  obtain ⟨D, h, hs⟩ := H.step
  have hx := h.2.2 p x hp
  refine st_one (hx.2 j hj).1 (hx.2 j hj).2 rfl fun w' hst => hK w' ?_
  have get : ∀ q y, (if q = p then some (x.1, fun i => if i = (j : Int) then v else x.2 i) else G q) = some y → (q = p ∧ y = (x.1, fun i => if i = (j : Int) then v else x.2 i)) ∨ (q ≠ p ∧ G q = some y) := by
    intro q y h
    by_cases e : q = p
    · rw [if_pos e] at h; cases h; exact .inl ⟨e, rfl⟩
    · rw [if_neg e] at h; exact .inr ⟨e, h⟩
  refine hs w' D _ (hst.ext.mono fun i _ hi => (h.1 i).2 ⟨p, x, hp, hi⟩) ⟨fun k => ?_, fun q r y z hq hr e => ?_, fun q y hq => ?_⟩ fun k hk => .inl hk
  · rw [h.1]
    constructor
    · rintro ⟨q, y, hq, rfl⟩
      by_cases e : q = p
      · subst e; rw [hp] at hq; cases hq; exact ⟨q, (x.1, fun i => if i = (j : Int) then v else x.2 i), by simp, rfl⟩
      · exact ⟨q, y, by simp [e, hq], rfl⟩
    · rintro ⟨q, y, hq, rfl⟩
      rcases get q y hq with ⟨_, rfl⟩ | ⟨_, h⟩
      · exact ⟨p, x, hp, rfl⟩
      · exact ⟨q, y, h, rfl⟩
  · rcases get q y hq with ⟨e1, rfl⟩ | ⟨e1, h1⟩
    · rcases get r z hr with ⟨e2, rfl⟩ | ⟨e2, h2⟩
      · rw [e1, e2]
      · rw [e1]; exact h.2.1 p r x z hp h2 e
    · rcases get r z hr with ⟨e2, rfl⟩ | ⟨e2, h2⟩
      · rw [e2]; exact h.2.1 q p y x h1 hp e
      · exact h.2.1 q r y z h1 h2 e
  · rcases get q y hq with ⟨e1, rfl⟩ | ⟨e1, h1⟩
    · refine ⟨by rw [hst.size]; exact hx.1, fun i hi => ⟨?_, by rw [hst.frozen]; exact (hx.2 i hi).2⟩⟩
      by_cases e : i = j
      · subst e; simp only [if_true]; exact hst.same
      · have e' : ¬ ((i : Int) = (j : Int)) := by omega
        simp only [if_neg e']
        rw [hst.other _ (by intro e2; injection e2 with _ e2; exact e e2)]
        exact (hx.2 i hi).1
    · have hy := h.2.2 q y h1
      have hne : y.1 ≠ x.1 := fun e => e1 (h.2.1 q p y x h1 hp e)
      refine ⟨by rw [hst.size]; exact hy.1, fun i hi => ⟨?_, by rw [hst.frozen]; exact (hy.2 i hi).2⟩⟩
      rw [hst.other _ (by intro e2; injection e2 with e2 _; exact hne e2)]
      exact (hy.2 i hi).1
end

theorem JOIN_st {σ : Type} {first : (σ → World → Prop) → Prop} {rest : σ → (Nat → Value) → World → Prop} (J : σ → World → Prop) (h1 : first J) (h2 : ∀ s j w, J s w → rest s j w) : JOIN σ first rest := ⟨J, h1, h2⟩

end Go.Sh

set_option linter.all false
namespace Go.Sh

/-- The state of a range over a map from which keys are taken. -/
structure Rg (it mb since : Nat) (a b : Int) (m0 : List (Int × Value)) (w : World) (seen : Array Nat) (es : Array MapEntry) (m : List (Int × Value)) : Prop where
  iter : ∃ last, w.heap[it]? = some (.mapIter (some mb) since seen last) ∧ (seen.isEmpty = true ∨ last = since)
  map : w.heap[mb]? = some (.map es since)
  ok : MapI .u64 es since m
  out : ∀ c, ¬ (a ≤ c ∧ c < b) → aget m c = aget m0 c
  sub : ∀ c v, aget m c = some v → aget m0 c = some v
  done : ∀ e ∈ es.toList, seen.contains e.born = true → ∀ n, e.key = .int .u64 n → ¬ (a ≤ n ∧ n < b)

theorem leftOf_mem {es : Array MapEntry} {seen : Array Nat} {e : MapEntry} : e ∈ leftOf es seen ↔ e ∈ es.toList ∧ seen.contains e.born = false := by
  simp [leftOf, Array.mem_filter]

/-- How many entries an iterator has not met. -/
def leftN (es : Array MapEntry) (seen : Array Nat) : Nat := (es.toList.filter fun e => !seen.contains e.born).length

theorem filter_lt {α : Type} {p q : α → Bool} : ∀ {l : List α}, (∀ x ∈ l, q x = true → p x = true) → (∃ x ∈ l, p x = true ∧ q x = false) → (l.filter q).length < (l.filter p).length
  | [], _, ⟨x, hx, _⟩ => by cases hx
  | y :: r, h, ⟨x, hx, h1, h2⟩ => by
    have hle : ∀ {l : List α}, (∀ x ∈ l, q x = true → p x = true) → (l.filter q).length ≤ (l.filter p).length := by
      intro l
      induction l with
      | nil => intro _; simp
      | cons z s ih =>
        intro hz
        have := ih fun x hx => hz x (List.mem_cons_of_mem _ hx)
        have hz0 := hz z List.mem_cons_self
        simp only [List.filter_cons]
        cases hq : q z
        · simp only [Bool.false_eq_true, if_false]
          split
          · simp; omega
          · exact this
        · simp only [hz0 hq, if_true]; simp; omega
    rcases List.mem_cons.1 hx with rfl | hx2
    · have := hle fun z hz => h z (List.mem_cons_of_mem _ hz)
      simp only [List.filter_cons, h1, h2, if_true, Bool.false_eq_true, if_false]
      simp; omega
    · have := filter_lt (fun z hz => h z (List.mem_cons_of_mem _ hz)) ⟨x, hx2, h1, h2⟩
      have hy := h y List.mem_cons_self
      simp only [List.filter_cons]
      cases hq : q y
      · simp only [Bool.false_eq_true, if_false]
        split
        · simp; omega
        · exact this
      · simp only [hy hq, if_true]; simp; omega


theorem nodup_inj {α β : Type} {f : α → β} : ∀ {l : List α}, (l.map f).Nodup → ∀ {x y : α}, x ∈ l → y ∈ l → f x = f y → x = y
  | [], _, x, y, hx, _, _ => by cases hx
  | z :: r, h, x, y, hx, hy, he => by
    simp only [List.map_cons, List.nodup_cons] at h
    rcases List.mem_cons.1 hx with rfl | hx2 <;> rcases List.mem_cons.1 hy with rfl | hy2
    · rfl
    · exact absurd (he ▸ List.mem_map.2 ⟨y, hy2, rfl⟩) h.1
    · exact absurd (he ▸ List.mem_map.2 ⟨x, hx2, rfl⟩) h.1
    · exact nodup_inj h.2 hx2 hy2 he

/-- A range over a map whose body takes some keys out: what Go's text 'for c := range m { if c >= a && c < b { delete(m, c) } }' comes to. -/
theorem range_del {it mb since : Nat} {a b : Int} {m0 : List (Int × Value)} {w0 : World} {K : World → Prop} {getm : (Option Nat → World → Prop) → World → Prop}
    (hget : ∀ w K', Ext (fun k => k = it ∨ k = mb) w0 w → K' (some mb) w → getm K' w)
    {seen0 : Array Nat} {es0 : Array MapEntry} {m1 : List (Int × Value)} (h0 : Rg it mb since a b m0 w0 seen0 es0 m1) (hne : it ≠ mb) (hit : it < w0.heap.size) (hmb : mb < w0.heap.size)
    (hK : ∀ w' es' m', Ext (fun k => k = it ∨ k = mb) w0 w' → w'.heap.size = w0.heap.size → w'.heap[mb]? = some (.map es' since) → MapI .u64 es' since m' →
      (∀ c, aget m' c = if a ≤ c ∧ c < b then none else aget m0 c) → K w') :
    LOOP (Unit) (()) w0 fun s52 _ w53 next54 =>
          JOIN (Bool × Unit) (fun J55 =>
            NEXT it w53 (fun w58 =>
              J55 (false, ()) w58
            ) fun k60 v61 w59 =>
              J55 (true, ()) w59
          ) fun s56 _ w57 =>
            JOIN (Bool × Unit) (fun J62 =>
              CND (s56.1) (
                J62 (s56.1, ()) w57
              ) (
                K  w57
              )
            ) fun s63 _ w64 =>
              ENT it w64 fun k65 v66 S67 =>
              unInt .u64 k65 fun x68 =>
              JOIN (Bool × Unit) (fun J69 =>
                CND (decide ((x68 : Int) ≥ a)) (
                  J69 (decide ((x68 : Int) < b), ()) w64
                ) (
                  J69 (false, ()) w64
                )
              ) fun s70 _ w71 =>
                CND (s70.1) (
                  getm (fun x73 w71 =>
                  MDEL .u64 x68 x73 w71 fun w74 =>
                  next54 (()) w74) w71
                ) (
                  next54 (()) w71
                ) := by
  refine LOOP_intro (fun _ w => (∃ seen es m, Rg it mb since a b m0 w seen es m) ∧ Ext (fun k => k = it ∨ k = mb) w0 w ∧ w.heap.size = w0.heap.size)
    (fun _ w => match w.heap[it]?, w.heap[mb]? with | some (.mapIter _ _ seen _), some (.map es _) => leftN es seen | _, _ => 0) ⟨⟨_, _, _, h0⟩, Ext.refl _ _, rfl⟩ ?_
  rintro _ _ w ⟨⟨seen, es, m, h⟩, hw, hsz⟩
  obtain ⟨last, hlast, hl⟩ := h.iter
  have hmu : (match w.heap[it]?, w.heap[mb]? with | some (.mapIter _ _ seen _), some (.map es _) => leftN es seen | _, _ => 0 : Nat) = leftN es seen := by rw [hlast, h.map]
  simp only [hmu]
  refine JOIN_intro (fun st w' => (st.1 = false ∧ (leftOf es seen).isEmpty = true ∧ (∃ seen' , Rg it mb since a b m0 w' seen' es m ∧ seen' = seen) ∧ Ext (fun k => k = it ∨ k = mb) w0 w' ∧ w'.heap.size = w0.heap.size) ∨
      (st.1 = true ∧ ∃ e, e ∈ es.toList ∧ seen.contains e.born = false ∧ w'.heap[it]? = some (.mapIter (some mb) since (seen.push e.born) since) ∧ w'.heap[mb]? = some (.map es since) ∧ Ext (fun k => k = it ∨ k = mb) w0 w' ∧ w'.heap.size = w0.heap.size)) ?_ ?_
  · refine ⟨some mb, since, seen, last, hlast, es, since, h.map, ?_, ?_, ?_⟩
    · rcases hl with hl | rfl
      · simp [hl]
      · by_cases he : es.isEmpty = true
        · simp [he]
        · have : es.all (fun x => decide (x.born ≥ last)) = false := by
            have hsz0 : 0 < es.size := Nat.pos_of_ne_zero fun e => he (by simpa [Array.isEmpty] using e)
            have hm : es[0] ∈ es.toList := by simp
            have := h.ok.lt _ hm
            rw [Bool.eq_false_iff]
            intro hall
            have := (Array.all_eq_true_iff_forall_mem.1 hall) es[0] (Array.getElem_mem hsz0)
            simp at this; omega
          simp [this]
    · intro w' hw' hemp
      left
      have hwe : Ext Nothing w w' := by rcases hw' with rfl | rfl; exact Ext.refl _ _; exact Ext.drew _ _
      have hs' : w'.heap.size = w.heap.size := by rcases hw' with rfl | rfl <;> rfl
      refine ⟨rfl, ?_, ⟨seen, ⟨⟨last, hwe.obj hlast (fun f => f), hl⟩, hwe.obj h.map (fun f => f), h.ok, h.out, h.sub, h.done⟩, rfl⟩, hw.trans' hwe.any, by omega⟩
      have : (leftOf es seen).filter (fun x => decide (x.born < since)) = leftOf es seen := by
        apply Array.filter_eq_self.2
        intro e he
        have h1 := (leftOf_mem.1 he).1
        exact decide_eq_true (h.ok.lt e h1)
      rw [this] at hemp
      exact hemp
    · intro w' e hw' he
      right
      have hwe : Ext Nothing w w' := by rcases hw' with rfl | rfl; exact Ext.refl _ _; exact Ext.drew _ _
      have hs' : w'.heap.size = w.heap.size := by rcases hw' with rfl | rfl <;> rfl
      obtain ⟨h1, h2⟩ := leftOf_mem.1 he
      refine ⟨rfl, e, h1, h2, ?_, ?_, (hw.trans' hwe.any).trans (Ext.setO w' it _) (fun _ _ h => h) (fun i _ e => .inl e), ?_⟩
      · have hlt : it < w'.heap.size := by omega
        simp [World.setO, hlt]
      · have := (Ext.setO w' it (.mapIter (some mb) since (seen.push e.born) since)).obj (hwe.obj h.map fun f => f) (fun e : mb = it => hne e.symm)
        exact this
      · simp [World.setO]; omega
  · rintro ⟨bt, u⟩ _ w57 hJ
    simp only at hJ ⊢
    refine JOIN_intro (fun st w' => w' = w57 ∧ bt = true) ?_ ?_
    · refine CND_intro (fun ht => ⟨rfl, ht⟩) (fun hf => ?_)
      rcases hJ with ⟨_, hemp, ⟨seen', hR, hse⟩, hE, hS⟩ | ⟨ht, _⟩
      · subst hse
        refine hK w57 es m hE hS hR.map hR.ok fun c => ?_
        split
        · rename_i hc
          cases hg : aget m c with
          | none => rfl
          | some v =>
            exfalso
            obtain ⟨e, he, hk, hv⟩ := h.ok.key_mem hg
            have hs : seen'.contains e.born = true := by
              cases hsc : seen'.contains e.born with
              | true => rfl
              | false =>
                have : e ∈ leftOf es seen' := leftOf_mem.2 ⟨he, hsc⟩
                have h0 : leftOf es seen' = #[] := by simpa [Array.isEmpty_iff] using hemp
                rw [h0] at this
                cases this with | mk h => cases h
            exact h.done e he hs c hk hc
        · rename_i hc; exact h.out c hc
      · rw [ht] at hf; cases hf
    · rintro ⟨_, u⟩ _ w64 ⟨rfl, hbt⟩
      rcases hJ with ⟨hf, _⟩ | ⟨_, e, he, hns, hit', hmb', hE, hS⟩
      · rw [hbt] at hf; cases hf
      · obtain ⟨n, hkey, hgn⟩ := h.ok.mem_key he
        have hfind : es.find? (fun x : MapEntry => x.born == e.born) = some e := by
          rw [← Array.find?_toList]
          have hb := h.ok.born
          have : ∀ l : List MapEntry, (l.map (·.born)).Nodup → e ∈ l → l.find? (fun x : MapEntry => x.born == e.born) = some e := by
            intro l
            induction l with
            | nil => intro _ h; cases h
            | cons x r ih =>
              intro hn hm
              simp only [List.map_cons, List.nodup_cons] at hn
              rcases List.mem_cons.1 hm with rfl | hm
              · simp [List.find?_cons]
              · have : x.born ≠ e.born := fun e2 => hn.1 (e2 ▸ List.mem_map.2 ⟨e, hm, rfl⟩)
                have hb : (x.born == e.born) = false := by simp [this]
                simp only [List.find?_cons, hb]
                exact ih hn.2 hm
          exact this es.toList hb he
        refine ⟨mb, since, since, seen.push e.born, es, since, e.born, e, ⟨hit', hmb'⟩, by simp, rfl, hfind, ?_⟩
        rw [hkey]
        show unV (.int .u64) (.int .u64 n) _
        show sameK .u64 .u64 _
        show JOIN _ _ _
        have hdec : leftN es (seen.push e.born) < leftN es seen := by
          unfold leftN
          refine filter_lt (fun x _ hx => ?_) ⟨e, he, by rw [hns]; rfl, by simp⟩
          simp at hx ⊢
          exact hx.1
        refine JOIN_intro (fun st w' => w' = w64 ∧ (st.1 = true ↔ a ≤ n ∧ n < b)) ?_ ?_
        · refine CND_dec (fun h1 => ⟨rfl, ?_⟩) (fun h1 => ⟨rfl, ?_⟩)
          · simp only [decide_eq_true_iff]; omega
          · simp only [Bool.false_eq_true, false_iff]; omega
        · rintro ⟨bt2, u⟩ _ w71 ⟨rfl, hbt2⟩
          simp only at hbt2 ⊢
          have hR : Rg it mb since a b m0 w71 seen es m → True := fun _ => trivial
          refine CND_intro (fun ht => ?_) (fun hf => ?_)
          · refine hget w71 _ hE ?_
            refine MDEL_intro hmb' h.ok fun w' es' m' hb' hm' hg' hl' hsub hkeep hext hsz' => ?_
            have hit2 : w'.heap[it]? = some (.mapIter (some mb) since (seen.push e.born) since) := hext.obj hit' (fun e2 : it = mb => hne e2)
            refine ⟨⟨⟨seen.push e.born, es', m', ⟨since, hit2, .inr rfl⟩, hb', hm', ?_, ?_, ?_⟩, hE.trans hext (fun _ _ h => h) (fun i _ e => .inr e), by omega⟩, ?_⟩
            · intro c hc
              rw [hg', if_neg, h.out c hc]
              intro e2; subst e2; exact hc (hbt2.1 ht)
            · intro c v hcv
              rw [hg'] at hcv
              split at hcv
              · cases hcv
              · exact h.sub c v hcv
            · intro x hx hs k hk
              have hxe := hsub.subset hx
              by_cases hxb : x.born = e.born
              · -- the entry that was taken out
                obtain ⟨k', hk', hgk⟩ := hm'.mem_key hx
                rw [hk] at hk'; cases hk'
                have hx2 : x = e := by
                  have h1 := nodup_inj h.ok.born hxe he hxb
                  exact h1
                subst hx2
                rw [hkey] at hk; cases hk
                rw [hg'] at hgk; simp at hgk
              · refine h.done x hxe ?_ k hk
                simp at hs
                rcases hs with hs | hs
                · simpa using hs
                · exact absurd hs hxb
            · simp only [hit2, hb']
              have : leftN es' (seen.push e.born) ≤ leftN es (seen.push e.born) := (hsub.filter _).length_le
              omega
          · have hnab : ¬ (a ≤ n ∧ n < b) := fun h => by rw [hbt2.2 h] at hf; cases hf
            refine ⟨⟨⟨seen.push e.born, es, m, ⟨since, hit', .inr rfl⟩, hmb', h.ok, h.out, h.sub, ?_⟩, hE, hS⟩, by simp only [hit', hmb']; exact hdec⟩
            intro x hx hs k hk
            simp at hs
            rcases hs with hs | hs
            · exact h.done x hx (by simpa using hs) k hk
            · have hx2 : x = e := nodup_inj h.ok.born hx he hs
              subst hx2
              rw [hkey] at hk; cases hk
              exact hnab

end Go.Sh
