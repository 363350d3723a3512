/- A function's code comes to a plain predicate transformer, shown once for all codes. No further condition. -/
import Derived.OrdersHeld
import Derived.WalkKit
import Derived.KernelRfl
import Derived.Laws.CopyRow
import Derived.Scope
import Derived.Laws.Externs
import Derived.Recover
set_option linter.all false
namespace Go.Sh
inductive Ty where
  | int (k : IntKind) | bool | ptr | sl | map | any | flt
structure SlV where
  base : Option Addr
  len : Nat
  cap : Nat
def TyV : Ty -> Type
  | .int _ => Int
  | .bool => Bool
  | .ptr => Option Addr
  | .sl => SlV
  | .map => Option Nat
  | .any => Value
  | .flt => Nat
def mkV : (t : Ty) -> TyV t -> Value
  | .int k, n => .int k n
  | .bool, b => .bool b
  | .ptr, a => .pointer a
  | .sl, s => .slice (SlV.base s) (SlV.len s) (SlV.cap s)
  | .map, r => .map r
  | .any, v => v
  | .flt, b => .float .f64 (show Nat from b)
def ik : IntKind -> Nat
  | .i8 => 0 | .i16 => 1 | .i32 => 2 | .i64 => 3 | .u8 => 4 | .u16 => 5 | .u32 => 6 | .u64 => 7
theorem ik_inj {a b : IntKind} (h : ik a = ik b) : a = b := by
  cases a <;> cases b <;> first | rfl | (simp [ik] at h)
def sameK (a b : IntKind) (X : Prop) : Prop := match Nat.beq (ik a) (ik b) with | true => X | false => False
theorem sameK_elim {a b : IntKind} {X : Prop} (h : sameK a b X) : a = b /\ X := by
  unfold sameK at h
  split at h
  · rename_i e; exact ⟨ik_inj (Nat.eq_of_beq_eq_true e), h⟩
  · exact h.elim
abbrev dblK (k : FloatKind) (X : Prop) : Prop := match k with | .f64 => X | .f32 => False
theorem dblK_elim {k : FloatKind} {X : Prop} (h : dblK k X) : k = .f64 /\ X := by
  cases k
  · exact h.elim
  · exact ⟨rfl, h⟩
def unV : (t : Ty) -> Value -> (TyV t -> Prop) -> Prop
  | .int k, .int k' n, K => sameK k k' (K n)
  | .bool, .bool b, K => K b
  | .ptr, .pointer a, K => K a
  | .sl, .slice a n c, K => K (SlV.mk a n c)
  | .map, .map r, K => K r
  | .any, v, K => K v
  | .flt, .float k b, K => dblK k (K b)
  | _, _, _ => False
theorem unV_elim {t : Ty} {v : Value} {K : TyV t -> Prop} (h : unV t v K) : ∃ x, v = mkV t x /\ K x := by
  unfold unV at h
  split at h
  · obtain ⟨rfl, h2⟩ := sameK_elim h; exact ⟨_, rfl, h2⟩
  · exact ⟨_, rfl, h⟩
  · exact ⟨_, rfl, h⟩
  · exact ⟨_, rfl, h⟩
  · exact ⟨_, rfl, h⟩
  · exact ⟨_, rfl, h⟩
  · obtain ⟨rfl, h2⟩ := dblK_elim h; exact ⟨_, rfl, h2⟩
  · exact h.elim
def TysV : List Ty -> Type
  | [] => Unit
  | t :: r => TyV t × TysV r
def mkVs : (l : List Ty) -> TysV l -> List Value
  | [], _ => []
  | t :: r, x => mkV t x.1 :: mkVs r x.2
def unVs : (l : List Ty) -> List Value -> (TysV l -> Prop) -> Prop
  | [], [], K => K ()
  | t :: r, v :: vs, K => unV t v fun x => unVs r vs fun y => K (x, y)
  | _, _, _ => False
theorem unVs_elim : {l : List Ty} -> {vs : List Value} -> {K : TysV l -> Prop} -> unVs l vs K -> ∃ x, vs = mkVs l x /\ K x
  | [], [], _, h => ⟨(), rfl, h⟩
  | [], _ :: _, _, h => h.elim
  | _ :: _, [], _, h => h.elim
  | t :: r, v :: vs, K, h => by
    simp only [unVs] at h
    obtain ⟨x, rfl, h2⟩ := unV_elim h
    obtain ⟨y, rfl, h3⟩ := unVs_elim h2
    exact ⟨(x, y), rfl, h3⟩
inductive VT where
  | one (t : Ty)
  | agg (l : List Ty)
def VTV : VT -> Type
  | .one t => TyV t
  | .agg l => TysV l
def mkVT : (t : VT) -> VTV t -> Value
  | .one t, x => mkV t x
  | .agg l, x => .agg ⟨mkVs l x⟩
def unVT : (t : VT) -> Value -> (VTV t -> Prop) -> Prop
  | .one t, v, K => unV t v K
  | .agg l, .agg cs, K => unVs l cs.toList K
  | .agg _, _, _ => False
theorem unVT_elim {t : VT} {v : Value} {K : VTV t -> Prop} (h : unVT t v K) : ∃ x, v = mkVT t x /\ K x := by
  cases t with
  | one t => exact unV_elim h
  | agg l =>
    cases v <;> simp only [unVT] at h
    rename_i cs
    obtain ⟨x, hx, h⟩ := unVs_elim h
    exact ⟨x, by simp only [mkVT, <- hx], h⟩
abbrev Fr := Nat -> Value
def Fr.put (f : Fr) (d : Nat) (v : Value) : Fr := fun t => bif Nat.beq t d then v else f t
def Fr.putO (f : Fr) : Option Nat -> Value -> Fr
  | some d, v => f.put d v
  | none, _ => f
def memB : List Nat -> Nat -> Bool
  | [], _ => false
  | x :: r, t => bif Nat.beq t x then true else memB r t
theorem memB_iff : {l : List Nat} -> {t : Nat} -> (memB l t = true ↔ t ∈ l)
  | [], t => by simp [memB]
  | x :: r, t => by
    simp only [memB, List.mem_cons, cond_eq_ite]
    by_cases h : Nat.beq t x = true
    · simp [h, Nat.eq_of_beq_eq_true h]
    · have hne : t ≠ x := fun e => h (e ▸ Nat.beq_refl t)
      simp [h, memB_iff (l := r) (t := t), hne]
def Fr.junk (f : Fr) (l : List Nat) (j : Nat -> Value) : Fr := fun t => bif memB l t then j t else f t
def Fr.ev (f : Fr) : Operand -> Value
  | .tmp t => f t
  | .const v => v
  | .global g => .pointer (some ⟨g, 0, none⟩)
  | .func g => .func (.func g) #[] #[]
def frOf (a : Act) : Fr := fun t => a.tmps.getD t undef
theorem frOf_eval (a : Act) (x : Operand) : (frOf a).ev x = a.eval x := by cases x <;> rfl
theorem frOf_eval' (a : Act) : (frOf a).ev = a.eval := funext (frOf_eval a)
theorem frOf_put {a : Act} {d : Nat} (hd : d < a.tmps.size) (v : Value) : frOf (a.put (some d) v) = (frOf a).put d v := by
  funext t
  simp only [frOf, Act.put, Fr.put, Array.getD_eq_getD_getElem?, cond_eq_ite]
  by_cases h : t = d
  · subst h; simp [hd]
  · have hb : Nat.beq t d = false := by
      cases hb : Nat.beq t d
      · rfl
      · exact absurd (Nat.eq_of_beq_eq_true hb) h
    simp [hb, Array.getElem?_setIfInBounds_ne (Ne.symm h)]
theorem frOf_putO {a : Act} {d : Option Nat} (hd : ∀ t, d = some t -> t < a.tmps.size) (v : Value) : frOf (a.put d v) = (frOf a).putO d v := by
  cases d with
  | none => rfl
  | some t => exact frOf_put (hd t rfl) v
theorem size_put (a : Act) (d : Option Nat) (v : Value) : (a.put d v).tmps.size = a.tmps.size := by
  cases d <;> simp [Act.put]
theorem defers_put (a : Act) (d : Option Nat) (v : Value) : (a.put d v).defers = a.defers := by
  cases d <;> rfl
abbrev Sig := List (Nat × VT)
def St : Sig -> Type
  | [] => Unit
  | (_, t) :: r => VTV t × St r
def Fr.set : (l : Sig) -> St l -> Fr -> Fr
  | [], _, f => f
  | (d, t) :: r, s, f => Fr.set r s.2 (f.put d (mkVT t s.1))
def Fr.get : (l : Sig) -> Fr -> (St l -> Prop) -> Prop
  | [], _, K => K ()
  | (d, t) :: r, f, K => unVT t (f d) fun x => Fr.get r f fun s => K (x, s)
def Holds : (l : Sig) -> St l -> Fr -> Prop
  | [], _, _ => True
  | (d, t) :: r, s, f => f d = mkVT t s.1 /\ Holds r s.2 f
theorem get_elim : {l : Sig} -> {f : Fr} -> {K : St l -> Prop} -> Fr.get l f K -> ∃ s, Holds l s f /\ K s
  | [], _, _, h => ⟨(), trivial, h⟩
  | (d, t) :: r, f, K, h => by
    obtain ⟨x, hx, h⟩ := unVT_elim h
    obtain ⟨s, hs, h⟩ := get_elim h
    exact ⟨(x, s), ⟨hx, hs⟩, h⟩
theorem mkV_inj : {t : Ty} -> {x y : TyV t} -> mkV t x = mkV t y -> x = y
  | .int _, _, _, h => by simp only [mkV] at h; injection h
  | .bool, _, _, h => by simp only [mkV] at h; injection h
  | .ptr, _, _, h => by simp only [mkV] at h; injection h
  | .sl, x, y, h => by
    simp only [mkV] at h
    injection h with h1 h2 h3
    cases x; cases y; cases h1; cases h2; cases h3; rfl
  | .map, _, _, h => by simp only [mkV] at h; injection h
  | .any, _, _, h => h
  | .flt, _, _, h => by simp only [mkV] at h; injection h
theorem mkVs_inj : {l : List Ty} -> {x y : TysV l} -> mkVs l x = mkVs l y -> x = y
  | [], _, _, _ => rfl
  | t :: r, (x, xs), (y, ys), h => by
    simp only [mkVs] at h
    injection h with h1 h2
    rw [mkV_inj h1, mkVs_inj h2]
theorem mkVT_inj : {t : VT} -> {x y : VTV t} -> mkVT t x = mkVT t y -> x = y
  | .one _, _, _, h => mkV_inj h
  | .agg _, _, _, h => by
    simp only [mkVT] at h
    injection h with h1
    injection h1 with h2
    exact mkVs_inj h2
theorem Holds_inj : {l : Sig} -> {s s' : St l} -> {f : Fr} -> Holds l s f -> Holds l s' f -> s = s'
  | [], _, _, _, _, _ => rfl
  | (d, t) :: r, (x, s), (y, s'), f, h, h' => by
    have h1 : mkVT t x = mkVT t y := h.1.symm.trans h'.1
    have h2 : x = y := mkVT_inj h1
    have h3 : s = s' := Holds_inj h.2 h'.2
    subst h2; subst h3; rfl
theorem set_eq : {l : Sig} -> {s : St l} -> {g f : Fr} -> Holds l s g -> (∀ t, t ∉ l.map (·.1) -> f t = g t) -> Fr.set l s f = g
  | [], _, g, f, _, h => funext fun t => h t (by simp)
  | (d, t) :: r, s, g, f, hs, h => by
    simp only [Fr.set]
    refine set_eq hs.2 fun u hu => ?_
    simp only [Fr.put, cond_eq_ite]
    by_cases e : Nat.beq u d = true
    · have := Nat.eq_of_beq_eq_true e; subst this; simp [hs.1]
    · have hne : u ≠ d := fun e' => e (e' ▸ Nat.beq_refl u)
      simp only [e]
      exact h u (by simp [hne, hu])
theorem junk_set_eq {l : Sig} {s : St l} {W : List Nat} {f g : Fr} (hs : Holds l s g) (hag : ∀ t, t ∉ W -> g t = f t) : Fr.set l s (f.junk W g) = g := by
  refine set_eq hs fun t _ => ?_
  simp only [Fr.junk, cond_eq_ite]
  by_cases h : memB W t = true
  · simp [h]
  · simp only [h, Bool.false_eq_true, if_false]
    exact (hag t fun hm => h (memB_iff.2 hm)).symm
end Go.Sh

set_option linter.all false
namespace Go.Sh
def NC (a : Option Addr) (K : Addr -> Prop) : Prop := match a with | some p => K p | none => False
def CND (b : Bool) (T E : Prop) : Prop := match b with | true => T | false => E
theorem CND_iff {b : Bool} {T E : Prop} : CND b T E ↔ (b = true -> T) /\ (b = false -> E) := by cases b <;> simp [CND]
theorem NC_elim {a : Option Addr} {K : Addr -> Prop} (h : NC a K) : ∃ p, a = some p /\ K p := by
  cases a with
  | none => exact h.elim
  | some p => exact ⟨p, rfl, h⟩
@[simp] theorem NC_some (p : Addr) (K : Addr -> Prop) : NC (some p) K = K p := rfl
def szP (P : Program) (t : TypeId) : Nat := P.cellsOf t
def szK (P : Program) (t : TypeId) (K : Nat -> Prop) : Prop := match szP P t with
  | 0 => False
  | n + 1 => K (n + 1)
theorem szK_elim {P : Program} {t : TypeId} {K : Nat -> Prop} (h : szK P t K) : ∃ n, K n /\ n ≠ 0 /\ n = szP P t /\ ∀ w, (sizeOf t).run P w = .ok n w := by
  unfold szK at h
  split at h
  · exact h.elim
  · rename_i n hn
    refine ⟨_, h, by omega, hn.symm, fun w => ?_⟩
    cases hi : P.info? t with
    | none => simp [szP, Program.cellsOf, hi] at hn
    | some i => 
      have : i.size = n + 1 := by simpa [szP, Program.cellsOf, hi] using hn
      simp [sizeOf, typeInfo, hi, this]
def isAggP (P : Program) (t : TypeId) : Bool := match P.underlying t with
  | some (.struct _) | some (.array _ _) => true
  | _ => false
def aggK (P : Program) (t : TypeId) (A : Prop) (B : TypeDesc -> Prop) : Prop := match P.underlying t with
  | some (.struct _) => A
  | some (.array _ _) => A
  | some d => B d
  | none => False
theorem aggK_elim {P : Program} {t : TypeId} {A : Prop} {B : TypeDesc -> Prop} (h : aggK P t A B) :
    (P.info? t).isSome = true /\ ((A /\ ∀ w, (isAgg t).run P w = .ok true w) ∨ (∃ d, P.underlying t = some d /\ B d /\ ∀ w, (isAgg t).run P w = .ok false w)) := by
  unfold aggK at h
  have hu : ∀ d, P.underlying t = some d -> (P.info? t).isSome = true := by
    intro d hd
    cases hi : P.info? t with
    | none => simp [Program.underlying, hi] at hd
    | some i => rfl
  split at h
  · rename_i hd; exact ⟨hu _ hd, .inl ⟨h, fun w => by simp [isAgg, underlying, hd]⟩⟩
  · rename_i hd; exact ⟨hu _ hd, .inl ⟨h, fun w => by simp [isAgg, underlying, hd]⟩⟩
  · rename_i d h1 h2 hd
    refine ⟨hu _ hd, .inr ⟨d, hd, h, fun w => ?_⟩⟩
    cases d <;> first
      | exact (h1 _ rfl).elim
      | exact (h2 _ _ rfl).elim
      | simp [isAgg, underlying, hd]
  · exact h.elim
def tyD : TypeDesc -> Ty
  | .int k => .int k
  | .bool => .bool
  | .pointer _ => .ptr
  | .slice _ => .sl
  | .map _ _ => .map
  | .float .f64 => .flt
  | _ => .any
def repApp : Nat -> List Ty -> List Ty
  | 0, _ => []
  | n + 1, l => l ++ repApp n l
def tysP (P : Program) : Nat -> TypeId -> List Ty
  | 0, _ => []
  | d + 1, t => match P.underlying t with
    | some (.struct fs) => fs.toList.flatMap fun f => tysP P d f.type
    | some (.array n e) => repApp n (tysP P d e)
    | some d => [tyD d]
    | none => []
def vtP (P : Program) (t : TypeId) : VT := match isAggP P t with
  | true => .agg (tysP P 12 t)
  | false => match P.underlying t with
    | some d => .one (tyD d)
    | none => .one .any
def zeroP (P : Program) (t : TypeId) : Option Value := (P.info? t).bind (·.zero)
def evInt (op : BinOp) (k : IntKind) (a b : Int) (K : Value -> Prop) : Prop :=
  match op with
  | .add => K (.int k (k.wrap (a + b)))
  | .sub => K (.int k (k.wrap (a - b)))
  | .mul => K (.int k (k.wrap (a * b)))
  | .quo => b ≠ 0 /\ K (.int k (k.wrap (a.tdiv b)))
  | .rem => b ≠ 0 /\ K (.int k (a.tmod b))
  | .and => K (.int k (k.wrap (BitVec.ofInt k.bits a &&& BitVec.ofInt k.bits b).toNat))
  | .or => K (.int k (k.wrap (BitVec.ofInt k.bits a ||| BitVec.ofInt k.bits b).toNat))
  | .xor => K (.int k (k.wrap (BitVec.ofInt k.bits a ^^^ BitVec.ofInt k.bits b).toNat))
  | .andNot => K (.int k (k.wrap (BitVec.ofInt k.bits a &&& ~~~BitVec.ofInt k.bits b).toNat))
  | .eql => K (.bool (a == b))
  | .neq => K (.bool (a != b))
  | .lss => K (.bool (decide (a < b)))
  | .leq => K (.bool (decide (a <= b)))
  | .gtr => K (.bool (decide (a > b)))
  | .geq => K (.bool (decide (a ≥ b)))
  | _ => False
def isFn : Value -> Bool
  | .func .. => true
  | .nilFunc => true
  | _ => false
def isNilF : Value -> Bool
  | .nilFunc => true
  | _ => false
noncomputable def hid {α : Type} (x : α) : α := Classical.choose (⟨x, rfl⟩ : ∃ y, y = x)
theorem hid_eq {α : Type} (x : α) : hid x = x := Classical.choose_spec (⟨x, rfl⟩ : ∃ y, y = x)
noncomputable def fOrd (a b : Nat) : Option Ordering := hid (FloatKind.f64.format.order a b)
def evFlt (op : BinOp) (a b : Nat) (K : Value -> Prop) : Prop := match op with
  | .eql => K (.bool (fOrd a b == some .eq))
  | .neq => K (.bool (fOrd a b != some .eq))
  | .lss => K (.bool (fOrd a b == some .lt))
  | .leq => K (.bool (fOrd a b == some .lt || fOrd a b == some .eq))
  | .gtr => K (.bool (fOrd a b == some .gt))
  | .geq => K (.bool (fOrd a b == some .gt || fOrd a b == some .eq))
  | _ => False
def PEQ (a b : Option Addr) (K : Bool -> Prop) : Prop := match a with
  | none => K b.isNone
  | some p => match b with
    | none => K false
    | some q => p.block = q.block /\ K (p == q)
def evBin0 (P : Program) (op : BinOp) (t : TypeId) (x y : Value) (K : Value -> Prop) : Prop :=
  match x with
  | .int k a => match y with
    | .int k' b => match op with
      | .shl => 0 <= b /\ K (.int k (k.wrap (a * 2 ^ (min b.toNat k.bits))))
      | .shr => 0 <= b /\ K (.int k (a.fdiv (2 ^ (min b.toNat k.bits))))
      | op => sameK k k' (evInt op k a b K)
    | _ => False
  | .bool a => match y with
    | .bool b => match P.underlying t with
      | some .bool => match op with
        | .eql => K (.bool (a == b))
        | .neq => K (.bool (!(a == b)))
        | _ => False
      | _ => False
    | _ => False
  | .pointer a => match y with
    | .pointer none => match P.underlying t with
      | some (.pointer _) => match op with
        | .eql => K (.bool a.isNone)
        | .neq => K (.bool (!a.isNone))
        | _ => False
      | _ => False
    | _ => False
  | .slice a _ _ => match y with
    | .slice none _ _ => match P.underlying t with
      | some (.slice _) => match op with
        | .eql => K (.bool a.isNone)
        | .neq => K (.bool (!a.isNone))
        | _ => False
      | _ => False
    | _ => False
  | .map a => match y with
    | .map none => match P.underlying t with
      | some (.map _ _) => match op with
        | .eql => K (.bool a.isNone)
        | .neq => K (.bool (!a.isNone))
        | _ => False
      | _ => False
    | _ => False
  | .float k a => match y with
    | .float k' b => dblK k (dblK k' (evFlt op a b K))
    | _ => False
  | _ => False
def evEqF (P : Program) (xs ys : List Value) : List Field -> (Bool -> Prop) -> Prop
  | [], K => K true
  | f :: r, K => match f.name != "_" with
    | true => match P.underlying f.type with
      | some (.int _) => match xs[f.offset]? with
        | some (.int k a) => match ys[f.offset]? with
          | some (.int k' b) => sameK k k' (evEqF P xs ys r fun t => K ((a == b) && t))
          | _ => False
        | _ => False
      | some .bool => match xs[f.offset]? with
        | some (.bool a) => match ys[f.offset]? with
          | some (.bool b) => evEqF P xs ys r fun t => K ((a == b) && t)
          | _ => False
        | _ => False
      | _ => False
    | false => False
def evEqS (P : Program) (op : BinOp) (t : TypeId) (xs ys : List Value) (K : Value -> Prop) : Prop :=
  match P.underlying t with
  | some (.struct fs) => match P.stoodInHeld t with
    | false => match P.eqGuardType P.depth t with
      | false => match op with
        | .eql => evEqF P xs ys fs.toList fun r => K (.bool r)
        | .neq => evEqF P xs ys fs.toList fun r => K (.bool (!r))
        | _ => False
      | true => False
    | true => False
  | _ => False
def isIf : Value -> Bool
  | .iface .. => true
  | .nilIface => true
  | _ => false
def isNilI : Value -> Bool
  | .nilIface => true
  | _ => false
def evBin (P : Program) (op : BinOp) (t : TypeId) (x y : Value) (K : Value -> Prop) : Prop :=
  match y with
  | .nilIface => match P.underlying t with
    | some (.interface ms) => match ms.isEmpty with
      | true => match op with
        | .eql => isIf x = true /\ K (.bool (isNilI x))
        | .neq => isIf x = true /\ K (.bool (!isNilI x))
        | _ => False
      | false => False
    | _ => False
  | .nilFunc => match P.underlying t with
    | some (.func _ _ _) => match op with
      | .eql => isFn x = true /\ K (.bool (isNilF x))
      | .neq => isFn x = true /\ K (.bool (!isNilF x))
      | _ => False
    | _ => False
  | .agg ys => match x with
    | .agg xs => evEqS P op t xs.toList ys.toList K
    | _ => False
  | y => evBin0 P op t x y K
def evBinT (P : Program) (op : BinOp) (t : TypeId) (x y : Value) (K : Value -> Prop) : Prop :=
  match x with
  | .pointer a => match y with
    | .pointer b => match P.underlying t with
      | some (.pointer e) => szK P e fun _ => match op with
        | .eql => PEQ a b fun r => K (.bool r)
        | .neq => PEQ a b fun r => K (.bool (!r))
        | _ => False
      | _ => False
    | _ => evBin P op t x y K
  | _ => evBin P op t x y K
def evUn (op : UnOp) (x : Value) (K : Value -> Prop) : Prop :=
  match op, x with
  | .not, .bool b => K (.bool (!b))
  | .neg, .int k n => K (.int k (k.wrap (0 - n)))
  | .xor, .int k n => K (.int k (k.wrap (BitVec.ofInt k.bits (if k.signed then -1 else k.max) ^^^ BitVec.ofInt k.bits n).toNat))
  | _, _ => False
def evBound (x : Option Value) (dflt top : Nat) (K : Nat -> Prop) : Prop :=
  match x with
  | none => K dflt
  | some (.int _ i) => (0 <= i /\ i <= top) /\ K i.toNat
  | some _ => False
def evPart (P : Program) (t : TypeId) (cs : List Value) (off : Nat) (K : Value -> Prop) : Prop :=
  aggK P t (K (.agg ⟨(cs.drop off).take (szP P t)⟩)) fun _ => match cs[off]? with
    | some v => K v
    | none => False
def slB (a : Option Addr) (c m z : Nat) : Option Addr := if c = m then a else a.map (·.add (m * z))
def u64 (n : Int) : Int := IntKind.u64.wrap n
def i64 (n : Int) : Int := IntKind.i64.wrap n
def minI (a b : Int) : Int := if b < a then b else a
def maxI (a b : Int) : Int := if b > a then b else a
def unInt (k : IntKind) (v : Value) (K : Int -> Prop) : Prop := unV (.int k) v K
def LET {α : Type} (e : α) (K : α -> Prop) : Prop := K e
def AL (o : Obj) (w : World) (K : Nat -> World -> Prop) : Prop := K w.heap.size (w.alloc o)
def fillL (cells : List Value) (off : Nat) : List Value -> List Value
  | [] => cells
  | v :: r => fillL (cells.set off v) (off + 1) r
def lenK (n m : Nat) (X : Prop) : Prop := match Nat.beq n m with | true => X | false => False
theorem lenK_elim {n m : Nat} {X : Prop} (h : lenK n m X) : n = m /\ X := by
  unfold lenK at h
  split at h
  · rename_i e; exact ⟨Nat.eq_of_beq_eq_true e, h⟩
  · exact h.elim
def leK (n m : Nat) (X : Prop) : Prop := match Nat.ble n m with | true => X | false => False
theorem leK_elim {n m : Nat} {X : Prop} (h : leK n m X) : n <= m /\ X := by
  unfold leK at h
  split at h
  · rename_i e; exact ⟨Nat.le_of_ble_eq_true e, h⟩
  · exact h.elim
def evFill (places : Nat -> Option (Nat × Nat)) : List (Nat × Value) -> List Value -> (List Value -> Prop) -> Prop
  | [], cells, K => K cells
  | (i, v) :: r, cells, K => match places i with
    | none => False
    | some (off, size) => lenK v.cells.toList.length size (leK (off + size) cells.length (evFill places r (fillL cells off v.cells.toList) K))
theorem fill_fold (off : Nat) : ∀ (vs : List Value) (k : Nat) (cells : Array Value),
    ((vs.zipIdx k).foldl (fun cs (c, j) => cs.setIfInBounds (off + j) c) cells).toList = fillL cells.toList (off + k) vs
  | [], _, _ => rfl
  | v :: r, k, cells => by
    simp only [List.zipIdx_cons, List.foldl_cons, fillL]
    rw [fill_fold off r (k + 1)]
    simp [Nat.add_assoc]
theorem evFill_elim {places : Nat -> Option (Nat × Nat)} : {parts : List (Nat × Value)} -> {cells : Array Value} -> {K : List Value -> Prop} ->
    evFill places parts cells.toList K -> ∃ out, K out.toList /\ Instr.fill places cells parts = some out
  | [], cells, K, h => ⟨cells, h, rfl⟩
  | (i, v) :: r, cells, K, h => by
    simp only [evFill] at h
    cases hp : places i with
    | none => simp [hp] at h
    | some os =>
      obtain ⟨off, size⟩ := os
      simp only [hp] at h
      obtain ⟨h1, h⟩ := lenK_elim h
      obtain ⟨h2, h⟩ := leK_elim h
      have hf := fill_fold off v.cells.toList 0 cells
      have hz : (v.cells.zipIdx.foldl (fun cs (c, j) => cs.setIfInBounds (off + j) c) cells).toList = fillL cells.toList off v.cells.toList := by
        rw [<- Array.foldl_toList, Array.toList_zipIdx]; exact hf
      rw [<- hz] at h
      obtain ⟨out, hK, ho⟩ := evFill_elim h
      refine ⟨out, hK, ?_⟩
      simp only [Instr.fill, hp]
      rw [if_neg]
      · exact ho
      · simp at h1 h2 ⊢; omega
def allSz (P : Program) : List Field -> Prop -> Prop
  | [], X => X
  | f :: r, X => szK P f.type fun _ => allSz P r X
def TAS (x : Value) (t : Nat) (z : Value) (K : Value -> Bool -> Prop) : Prop := match x with
  | .nilIface => K z false
  | .iface u v => match Nat.beq u t with
    | true => K v true
    | false => K z false
  | _ => False
def ptrL : List Value -> List (Option Addr)
  | [] => []
  | v :: r => (match v with | .pointer a => a | _ => none) :: ptrL r
def isPtrL : List Value -> Bool
  | [] => true
  | v :: r => match v with
    | .pointer _ => isPtrL r
    | _ => false
theorem ptrL_get : ∀ {l : List Value} {i : Nat}, isPtrL l = true -> i < l.length -> l[i]? = some (.pointer ((ptrL l).getD i none))
  | v :: r, 0, h, _ => by cases v <;> first | rfl | cases h
  | v :: r, i + 1, h, hi => by
    have hr : isPtrL r = true := by cases v <;> first | exact h | cases h
    have := ptrL_get hr (i := i) (by simpa using hi)
    simpa [ptrL] using this
def evIdx (P : Program) (l : Nat) (e : TypeId) (cs : List Value) (n : Int) (K : Value -> Prop) : Prop := match P.underlying e with
  | some (.pointer _) => szK P e fun z => lenK z 1 (lenK cs.length l (match isPtrL cs with
    | true => (0 <= n /\ n < (l : Int)) /\ K (.pointer ((ptrL cs).getD n.toNat none))
    | false => False))
  | _ => False
noncomputable def fNear (n : Int) : Nat := hid (FloatKind.f64.nearest n)
noncomputable def fInt (b : Nat) : Option Int := hid ((FloatKind.f64.decode b).toInt .zero)
def slL : List Value -> List SlV
  | [] => []
  | v :: r => (match v with | .slice a n c => ⟨a, n, c⟩ | _ => ⟨none, 0, 0⟩) :: slL r
def isSlL : List Value -> Bool
  | [] => true
  | v :: r => match v with
    | .slice .. => isSlL r
    | _ => false
theorem slL_get : ∀ {l : List Value} {i : Nat}, isSlL l = true -> i < l.length -> l[i]? = some (.slice ((slL l).getD i ⟨none, 0, 0⟩).base ((slL l).getD i ⟨none, 0, 0⟩).len ((slL l).getD i ⟨none, 0, 0⟩).cap)
  | v :: r, 0, h, _ => by cases v <;> first | rfl | cases h
  | v :: r, i + 1, h, hi => by
    have hr : isSlL r = true := by cases v <;> first | exact h | cases h
    have := slL_get hr (i := i) (by simpa using hi)
    simpa [slL] using this
def evIdxS (P : Program) (l : Nat) (e : TypeId) (cs : List Value) (n : Int) (K : Value -> Prop) : Prop := match P.underlying e with
  | some (.slice _) => szK P e fun z => lenK z 1 (lenK cs.length l (match isSlL cs with
    | true => (0 <= n /\ n < (l : Int)) /\ LET ((slL cs).getD n.toNat ⟨none, 0, 0⟩) fun s => K (.slice s.base s.len s.cap)
    | false => False))
  | _ => False
def STRI (s : ByteArray) (n : Int) (K : Int -> Prop) : Prop := 0 <= n /\ ∃ b, s[n.toNat]? = some b /\ K (b.toNat : Int)
def evPure (P : Program) (o : Op) (ty : TypeId) (ρ : Operand -> Value) (K : Value -> Prop) : Prop :=
  match o with
  | .move x | .assign x => K (ρ x)
  | .pick c a b => match ρ c with
    | .bool t => K (bif t then ρ a else ρ b)
    | _ => False
  | .nilCheck x => match ρ x with
    | .pointer a => NC a fun p => K (.pointer (some p))
    | _ => False
  | .binOp op t x y _ => match y with
    | .tmp _ => evBinT P op t (ρ x) (ρ y) K
    | _ => evBin P op t (ρ x) (ρ y) K
  | .unOp op _ x => evUn op (ρ x) K
  | .convert s d x => match P.underlying s, P.underlying d, ρ x with
    | some (.int _), some (.int k), .int _ n => K (.int k (k.wrap n))
    | some (.int _), some (.float k), .int _ n => dblK k (K (.float .f64 (fNear n)))
    | some (.float _), some (.int k), .float k' b => dblK k' (∃ n, fInt b = some n /\ (k.min <= n /\ n <= k.max) /\ K (.int k n))
    | _, _, _ => False
  | .makeFunc fn fi ca => K (.func fn (fi.map ρ) (ca.map ρ))
  | .fieldAddr s x i => match P.underlying s with
    | some (.struct fs) => match fs[i]? with
      | some f => szK P f.type fun _ => match ρ x with
        | .pointer a => NC a fun p => K (.pointer (some (p.add f.offset)))
        | _ => False
      | none => False
    | _ => False
  | .field t x i => match P.underlying t with
    | some (.struct fs) => match fs[i]? with
      | some f => match ρ x with
        | .agg cs => evPart P f.type cs.toList f.offset K
        | _ => False
      | none => False
    | _ => False
  | .indexAddr t x i => match ρ i with
    | .int _ n => match P.underlying t with
      | some (.slice e) => szK P e fun z => match ρ x with
        | .slice b l _ => NC b fun a => (0 <= n /\ n < (l : Int)) /\ K (.pointer (some (a.add (n.toNat * z))))
        | _ => False
      | some (.array l e) => szK P e fun z => match ρ x with
        | .pointer b => NC b fun a => (0 <= n /\ n < (l : Int)) /\ K (.pointer (some (a.add (n.toNat * z))))
        | _ => False
      | _ => False
    | _ => False
  | .build t parts => match zeroP P t with
    | some z => match P.underlying t with
      | some (.struct fs) => allSz P fs.toList (evFill (fun i => (fs[i]?).map fun f => (f.offset, szP P f.type)) ((parts.map fun (i, x) => (i, ρ x)).toList) z.cells.toList fun l => K (.agg ⟨l⟩))
      | some (.array _ e) => szK P e fun n => evFill (fun i => some (i * n, n)) ((parts.map fun (i, x) => (i, ρ x)).toList) z.cells.toList fun l => K (.agg ⟨l⟩)
      | _ => False
    | none => False
  | .extract x i => match ρ x with
    | .tuple vs => match vs.toList[i]? with
      | some v => unVT (vtP P ty) v fun x => K (mkVT (vtP P ty) x)
      | none => False
    | _ => False
  | .slice t x lo hi none => match P.underlying t with
    | some (.slice e) => szK P e fun z => match ρ x with
      | .slice a l c => evBound (hi.map ρ) l c fun h => evBound (lo.map ρ) 0 h fun m => K (.slice (if c = m then a else a.map (·.add (m * z))) (h - m) (c - m))
      | _ => False
    | some (.array n e) => szK P e fun z => match ρ x with
      | .pointer a => NC a fun p => evBound (hi.map ρ) n n fun h => evBound (lo.map ρ) 0 h fun m => K (.slice (some (if n = m then p else p.add (m * z))) (h - m) (n - m))
      | _ => False
    | _ => False
  | .makeInterface t x => match P.underlying t with
    | some (.interface _) => False
    | some _ => K (.iface t (ρ x))
    | none => False
  | .typeAssert x _ asserted true => match P.underlying asserted with
    | some (.interface _) => False
    | some _ => match zeroP P asserted with
      | some z => TAS (ρ x) asserted z fun v b => K (.tuple #[v, .bool b])
      | none => False
    | none => False
  | .call c => match c.callee with
    | .builtin .len => match c.args.toList with
      | [x] => match ρ x with
        | .slice _ n _ => match (c.argTypes.toList.head?).bind P.underlying with
          | some (.slice _) => K (.int .i64 n)
          | _ => False
        | _ => False
      | _ => False
    | .builtin .min => match c.args.toList with
      | [x, y] => match ρ x with
        | .int k a => match ρ y with
          | .int _ b => K (.int k (if b < a then b else a))
          | _ => False
        | _ => False
      | [x, y, z] => match ρ x with
        | .int k a => match ρ y with
          | .int _ b => match ρ z with
            | .int _ d => K (.int k (minI (minI a b) d))
            | _ => False
          | _ => False
        | _ => False
      | _ => False
    | .builtin .max => match c.args.toList with
      | [x, y] => match ρ x with
        | .int k a => match ρ y with
          | .int _ b => K (.int k (if b > a then b else a))
          | _ => False
        | _ => False
      | [x, y, z] => match ρ x with
        | .int k a => match ρ y with
          | .int _ b => match ρ z with
            | .int _ d => K (.int k (maxI (maxI a b) d))
            | _ => False
          | _ => False
        | _ => False
      | _ => False
    | _ => False
  | .index t x i => match P.underlying t with
    | some (.array l e) => match ρ x with
      | .agg cs => match ρ i with
        | .int _ n => match P.underlying e with
          | some (.slice _) => evIdxS P l e cs.toList n K
          | _ => evIdx P l e cs.toList n K
        | _ => False
      | _ => False
    | some .string => match ρ x with
      | .string s => match ρ i with
        | .int _ n => STRI s n fun b => K (.int .u8 b)
        | _ => False
      | _ => False
    | _ => False
  | _ => False
theorem run_und {P : Program} {t : TypeId} {d : TypeDesc} (h : P.underlying t = some d) (w : World) : (underlying t).run P w = .ok d w := by
  simp [underlying, h]
theorem run_size {P : Program} {t : TypeId} (h : (P.info? t).isSome = true) (w : World) : (sizeOf t).run P w = .ok (szP P t) w := by
  obtain ⟨i, hi⟩ := Option.isSome_iff_exists.1 h
  simp [sizeOf, typeInfo, hi, szP, Program.cellsOf]
theorem evInt_sound {P : Program} {op : BinOp} {k : IntKind} {a b : Int} {K : Value -> Prop} (h : evInt op k a b K) (ho : op ≠ .shl /\ op ≠ .shr) (t : TypeId) :
    ∃ v, K v /\ ∀ w, (binOp op t (.int k a) (.int k b)).run P w = .ok v w := by
  cases op <;> simp only [evInt] at h <;>
    first
      | exact h.elim
      | exact (ho.1 rfl).elim
      | exact (ho.2 rfl).elim
      | exact ⟨_, h, fun w => by simp [binOp, Op.intArith, Op.intCmp, Op.intBits]⟩
      | (obtain ⟨h0, h⟩ := h; exact ⟨_, h, fun w => by simp [binOp, Op.intDiv, h0]⟩)
theorem run_equalIn_nil (P : Program) (d : Nat) {t : TypeId} (w : World) :
    (∀ e a, P.underlying t = some (.pointer e) -> (Op.equalIn (d + 1) t (.pointer a) (.pointer none)).run P w = .ok a.isNone w) /\
    (∀ e a n c n' c', P.underlying t = some (.slice e) -> (Op.equalIn (d + 1) t (.slice a n c) (.slice none n' c')).run P w = .ok a.isNone w) /\
    (∀ k e a, P.underlying t = some (.map k e) -> (Op.equalIn (d + 1) t (.map a) (.map none)).run P w = .ok a.isNone w) := by
  refine ⟨fun e a h => ?_, fun e a n c n' c' h => ?_, fun k e a h => ?_⟩ <;> cases a <;> simp [Op.equalIn, run_und h]
theorem run_nil (P : Program) {t : TypeId} (w : World) :
    (∀ e a, P.underlying t = some (.pointer e) -> (Op.equal t (.pointer a) (.pointer none)).run P w = .ok a.isNone w) /\
    (∀ e a n c n' c', P.underlying t = some (.slice e) -> (Op.equal t (.slice a n c) (.slice none n' c')).run P w = .ok a.isNone w) /\
    (∀ k e a, P.underlying t = some (.map k e) -> (Op.equal t (.map a) (.map none)).run P w = .ok a.isNone w) :=
  run_equalIn_nil P 9999 w
theorem evBin0_sound {P : Program} {op : BinOp} {t : TypeId} {x y : Value} {K : Value -> Prop} (h : evBin0 P op t x y K) :
    ∃ v, K v /\ ∀ w, (binOp op t x y).run P w = .ok v w := by
  unfold evBin0 at h
  split at h
  · split at h
    · split at h
      · obtain ⟨h0, h⟩ := h
        refine ⟨_, h, fun w => ?_⟩
        have : ¬ (‹Int› : Int) < 0 := by omega
        simp [binOp, Op.shift, Int.not_lt.2 h0]
      · obtain ⟨h0, h⟩ := h
        exact ⟨_, h, fun w => by simp [binOp, Op.shift, Int.not_lt.2 h0]⟩
      · rename_i h1 h2
        obtain ⟨rfl, h3⟩ := sameK_elim h
        exact evInt_sound h3 ⟨fun e => h1 e, fun e => h2 e⟩ t
    · exact h.elim
  · split at h
    · split at h
      · rename_i ht
        split at h
        · exact ⟨_, h, fun w => run_eql_bool w t _ _ ht⟩
        · exact ⟨_, h, fun w => run_neq_bool w t _ _ ht⟩
        · exact h.elim
      · exact h.elim
    · exact h.elim
  · split at h
    · split at h
      · rename_i ht
        have ht' : P.underlying t = some (.pointer (P.pointee t)) := by simp [Program.pointee, ht]
        rename_i a _ _ _ _
        split at h
        · refine ⟨_, h, fun w => ?_⟩
          simp only [binOp]
          first
            | simp [(run_nil P w).1 _ _ ht]
            | simp [(run_nil P w).2.1 _ _ _ _ _ _ ht]
            | simp [(run_nil P w).2.2 _ _ _ ht]
        · refine ⟨_, h, fun w => ?_⟩
          simp only [binOp]
          first
            | simp [(run_nil P w).1 _ _ ht]
            | simp [(run_nil P w).2.1 _ _ _ _ _ _ ht]
            | simp [(run_nil P w).2.2 _ _ _ ht]
        · exact h.elim
      · exact h.elim
    · exact h.elim
  · split at h
    · split at h
      · rename_i ht
        rename_i a _ _ _ _ _ _ _ _
        split at h
        · refine ⟨_, h, fun w => ?_⟩
          simp only [binOp]
          first
            | simp [(run_nil P w).1 _ _ ht]
            | simp [(run_nil P w).2.1 _ _ _ _ _ _ ht]
            | simp [(run_nil P w).2.2 _ _ _ ht]
        · refine ⟨_, h, fun w => ?_⟩
          simp only [binOp]
          first
            | simp [(run_nil P w).1 _ _ ht]
            | simp [(run_nil P w).2.1 _ _ _ _ _ _ ht]
            | simp [(run_nil P w).2.2 _ _ _ ht]
        · exact h.elim
      · exact h.elim
    · exact h.elim
  · split at h
    · split at h
      · rename_i ht
        rename_i a _ _ _ _ _
        split at h
        · refine ⟨_, h, fun w => ?_⟩
          simp only [binOp]
          first
            | simp [(run_nil P w).1 _ _ ht]
            | simp [(run_nil P w).2.1 _ _ _ _ _ _ ht]
            | simp [(run_nil P w).2.2 _ _ _ ht]
        · refine ⟨_, h, fun w => ?_⟩
          simp only [binOp]
          first
            | simp [(run_nil P w).1 _ _ ht]
            | simp [(run_nil P w).2.1 _ _ _ _ _ _ ht]
            | simp [(run_nil P w).2.2 _ _ _ ht]
        · exact h.elim
      · exact h.elim
    · exact h.elim
  · split at h
    · obtain ⟨e1, h⟩ := dblK_elim h
      obtain ⟨e2, h⟩ := dblK_elim h
      subst e1; subst e2
      unfold evFlt at h
      split at h
      · exact ⟨_, h, fun w => by simp [binOp, Op.floatCmp, fOrd, hid_eq]⟩
      · exact ⟨_, h, fun w => by simp [binOp, Op.floatCmp, fOrd, hid_eq]⟩
      · exact ⟨_, h, fun w => by simp [binOp, Op.floatCmp, fOrd, hid_eq]⟩
      · exact ⟨_, h, fun w => by simp [binOp, Op.floatCmp, fOrd, hid_eq]⟩
      · exact ⟨_, h, fun w => by simp [binOp, Op.floatCmp, fOrd, hid_eq]⟩
      · exact ⟨_, h, fun w => by simp [binOp, Op.floatCmp, fOrd, hid_eq]⟩
      · exact h.elim
    · exact h.elim
  · exact h.elim
theorem run_equal_nilF (P : Program) {t : TypeId} {ps rs : Array TypeId} {vd : Bool} {x : Value} (w : World) (ht : P.underlying t = some (.func ps rs vd)) (hx : isFn x = true) :
    (Op.equal t x .nilFunc).run P w = .ok (isNilF x) w := by
  have key : ∀ d, (Op.equalIn (d + 1) t x .nilFunc).run P w = .ok (isNilF x) w := by
    intro d
    cases x <;> simp [isFn] at hx <;> simp [Op.equalIn, run_und ht, isNilF]
  exact key 9999
theorem run_equal_nilI (P : Program) {t : TypeId} {ms : Array (String × TypeId)} {x : Value} (w : World) (ht : P.underlying t = some (.interface ms)) (hx : isIf x = true) :
    (Op.equal t x .nilIface).run P w = .ok (isNilI x) w := by
  have key : ∀ d, (Op.equalIn (d + 1) t x .nilIface).run P w = .ok (isNilI x) w := by
    intro d
    cases x <;> simp [isIf] at hx <;> simp [Op.equalIn, run_und ht, isNilI]
  exact key 9999
theorem evEqF_sound {P : Program} (d : Nat) (xs ys : Array Value) : ∀ (fs : List Field) (K : Bool -> Prop), evEqF P xs.toList ys.toList fs K ->
    ∃ r, K r /\ ∀ w, (Op.eqFields (d + 1) xs ys fs).run P w = .ok r w
  | [], K, h => ⟨true, h, fun w => by simp [Op.eqFields]⟩
  | f :: r, K, h => by
    unfold evEqF at h
    split at h
    · rename_i hn
      have hn' : f.name ≠ "_" := by simpa using hn
      split at h
      · rename_i ht
        split at h
        · rename_i k a hx
          split at h
          · rename_i k' b hy
            obtain ⟨rfl, h2⟩ := sameK_elim h
            obtain ⟨t, hK, hr⟩ := evEqF_sound d xs ys r _ h2
            have hx' : xs[f.offset]? = some (.int k a) := by simpa using hx
            have hy' : ys[f.offset]? = some (.int k b) := by simpa using hy
            refine ⟨_, hK, fun w => ?_⟩
            have pa : ∀ (cs : Array Value) v, cs[f.offset]? = some v -> (part f.type cs f.offset).run P w = .ok v w := by
              intro cs v hv
              simp [part, isAgg, run_und ht, hv]
            simp only [Op.eqFields, if_pos hn', Sem.run_bind, pa _ _ hx', pa _ _ hy', Result.andThen_ok, run_equalIn_int w d f.type k _ a b ht]
            cases hab : (a == b) <;> simp [hr]
          · exact h.elim
        · exact h.elim
      · rename_i ht
        split at h
        · rename_i a hx
          split at h
          · rename_i b hy
            obtain ⟨t, hK, hr⟩ := evEqF_sound d xs ys r _ h
            have hx' : xs[f.offset]? = some (.bool a) := by simpa using hx
            have hy' : ys[f.offset]? = some (.bool b) := by simpa using hy
            refine ⟨_, hK, fun w => ?_⟩
            have pa : ∀ (cs : Array Value) v, cs[f.offset]? = some v -> (part f.type cs f.offset).run P w = .ok v w := by
              intro cs v hv
              simp [part, isAgg, run_und ht, hv]
            simp only [Op.eqFields, if_pos hn', Sem.run_bind, pa _ _ hx', pa _ _ hy', Result.andThen_ok, run_equalIn_bool' w d f.type a b ht]
            cases hab : (a == b) <;> simp [hr]
          · exact h.elim
        · exact h.elim
      · exact h.elim
    · exact h.elim
theorem evEqS_sound {P : Program} {op : BinOp} {t : TypeId} {xs ys : Array Value} {K : Value -> Prop} (h : evEqS P op t xs.toList ys.toList K) :
    (∃ v, K v /\ ∀ w, (binOp op t (.agg xs) (.agg ys)).run P w = .ok v w) /\ P.eqGuardType P.depth t = false := by
  unfold evEqS at h
  split at h
  · rename_i fs ht
    split at h
    · rename_i hp
      split at h
      · rename_i hg
        refine ⟨?_, hg⟩
        have hf : P.fieldsOf t = fs := by simp [Program.fieldsOf, ht]
        have ht' : P.underlying t = some (.struct (P.fieldsOf t)) := by rw [hf]; exact ht
        split at h
        · obtain ⟨r, hK, hr⟩ := evEqF_sound 9998 xs ys _ _ h
          refine ⟨_, hK, fun w => ?_⟩
          rw [run_eql_struct, run_equalIn_struct w 9999 t xs ys ht' hp, hf, hr w]
          rfl
        · obtain ⟨r, hK, hr⟩ := evEqF_sound 9998 xs ys _ _ h
          refine ⟨_, hK, fun w => ?_⟩
          rw [run_neq_struct, run_equalIn_struct w 9999 t xs ys ht' hp, hf, hr w]
          rfl
        · exact h.elim
      · exact h.elim
    · exact h.elim
  · exact h.elim
theorem evBin_sound {P : Program} {op : BinOp} {t : TypeId} {x y : Value} {K : Value -> Prop} (h : evBin P op t x y K) :
    ∃ v, K v /\ ∀ w, (binOp op t x y).run P w = .ok v w := by
  unfold evBin at h
  split at h
  · split at h
    · rename_i ms ht
      split at h
      · split at h
        · obtain ⟨hx, hK⟩ := h
          refine ⟨_, hK, fun w => ?_⟩
          have he := run_equal_nilI P w ht hx
          cases x <;> simp [isIf] at hx <;> simp [binOp, he]
        · obtain ⟨hx, hK⟩ := h
          refine ⟨_, hK, fun w => ?_⟩
          have he := run_equal_nilI P w ht hx
          cases x <;> simp [isIf] at hx <;> simp [binOp, he]
        · exact h.elim
      · exact h.elim
    · exact h.elim
  · split at h
    · rename_i ht
      split at h
      · obtain ⟨hx, hK⟩ := h
        refine ⟨_, hK, fun w => ?_⟩
        have he := run_equal_nilF P w ht hx
        cases x <;> simp [isFn] at hx <;> simp [binOp, he]
      · obtain ⟨hx, hK⟩ := h
        refine ⟨_, hK, fun w => ?_⟩
        have he := run_equal_nilF P w ht hx
        cases x <;> simp [isFn] at hx <;> simp [binOp, he]
      · exact h.elim
    · exact h.elim
  · split at h
    · exact (evEqS_sound h).1
    · exact h.elim
  · exact evBin0_sound h
theorem run_equal_ptr (P : Program) {t e : TypeId} {a b : Option Addr} {n : Nat} (w : World) (ht : P.underlying t = some (.pointer e)) (hn : n ≠ 0) (hr : (sizeOf e).run P w = .ok n w) {K : Bool -> Prop} (h : PEQ a b K) :
    ∃ r, K r /\ (Op.equal t (.pointer a) (.pointer b)).run P w = .ok r w /\ r = (match a, b with | none, b => b.isNone | some _, none => false | some p, some q => p == q) := by
  have key : ∀ d, ∃ r, K r /\ (Op.equalIn (d + 1) t (.pointer a) (.pointer b)).run P w = .ok r w /\ r = (match a, b with | none, b => b.isNone | some _, none => false | some p, some q => p == q) := by
    intro d
    cases a with
    | none => exact ⟨_, h, by simp [Op.equalIn, run_und ht], rfl⟩
    | some p => cases b with
      | none => exact ⟨_, h, by simp [Op.equalIn, run_und ht], rfl⟩
      | some q =>
        obtain ⟨hb, h⟩ := h
        exact ⟨_, h, by simp [Op.equalIn, run_und ht, hr, hn, sameAddr, hb], rfl⟩
  exact key 9999
theorem evBinT_sound {P : Program} {op : BinOp} {t : TypeId} {x y : Value} {K : Value -> Prop} (h : evBinT P op t x y K) :
    ∃ v, K v /\ ∀ w, (binOp op t x y).run P w = .ok v w := by
  unfold evBinT at h
  split at h
  · split at h
    · split at h
      · rename_i e ht
        obtain ⟨n, h, hn, _, hr⟩ := szK_elim h
        split at h
        · obtain ⟨r, hK, _, hr0⟩ := run_equal_ptr P default ht hn (hr default) h
          refine ⟨_, hK, fun w => ?_⟩
          obtain ⟨r', _, hr1, hr2⟩ := run_equal_ptr P w ht hn (hr w) h
          rw [hr2, <- hr0] at hr1
          simp [binOp, hr1]
        · obtain ⟨r, hK, _, hr0⟩ := run_equal_ptr P default ht hn (hr default) h
          refine ⟨_, hK, fun w => ?_⟩
          obtain ⟨r', _, hr1, hr2⟩ := run_equal_ptr P w ht hn (hr w) h
          rw [hr2, <- hr0] at hr1
          simp [binOp, hr1]
        · exact h.elim
      · exact h.elim
    · exact evBin_sound h
  · exact evBin_sound h
end Go.Sh

set_option linter.all false
namespace Go.Sh
theorem eqGuard_ok {P : Program} {op : BinOp} {t : TypeId} {x y : Operand} {a b : Value} {w : World}
    (h : ∀ K, evBin P op t a b K -> True) (hb : ∃ K, evBin P op t a b K) : (eqGuard op t x y a b).run P w = .ok () w := by
  obtain ⟨K, hb⟩ := hb
  unfold evBin at hb
  split at hb
  · split at hb
    · rename_i ms ht
      split at hb
      · rename_i hms
        have hg : ∀ d, (Op.eqGuardIn (d + 1) t .nilIface .nilIface).run P w = .ok false w := fun d => by simp [Op.eqGuardIn, run_und ht, hms]
        have hg' : (Op.eqGuardIn Op.maxDepth t .nilIface .nilIface).run P w = .ok false w := hg 9999
        split at hb <;> first
          | exact hb.elim
          | (obtain ⟨hx, _⟩ := hb
             cases a <;> simp [isIf] at hx
             all_goals first
               | rfl
               | (simp [eqGuard, hg']; done)
               | (simp [eqGuard, hg']; split <;> rfl)
               | (simp only [eqGuard]; split <;> simp [hg']))
      · exact hb.elim
    · exact hb.elim
  · split at hb
    · split at hb <;> first
        | exact hb.elim
        | (obtain ⟨hx, _⟩ := hb; cases a <;> simp [isFn] at hx <;> rfl)
    · exact hb.elim
  · split at hb
    · exact run_eqGuard_agg w op t x y _ _ (evEqS_sound hb).2
    · exact hb.elim
  · unfold evBin0 at hb
    split at hb <;> first
      | exact hb.elim
      | (cases op <;> rfl)
theorem run_bound {P : Program} {x : Option Value} {d top : Nat} {K : Nat -> Prop} (h : evBound x d top K) (code : BoundsCode) :
    (∃ n, K n /\ ∀ w, (match x with | some v => Instr.sliceBound v top code | none => pure d : Sem Nat).run P w = .ok n w) := by
  unfold evBound at h
  split at h
  · exact ⟨_, h, fun w => by simp⟩
  · obtain ⟨⟨h0, h1⟩, h⟩ := h
    exact ⟨_, h, fun w => by simp [Instr.sliceBound, asIntOf, h0, h1]⟩
  · exact h.elim
theorem run_bounds {P : Program} {isS : Bool} {l c : Nat} {lo hi : Option Value} {K : Nat -> Nat -> Prop}
    (h : evBound hi l c fun h => evBound lo 0 h fun m => K h m) :
    ∃ h m, K h m /\ ∀ w, (Instr.sliceBounds isS l c lo hi none).run P w = .ok (m, h, c) w := by
  obtain ⟨n, hK, hr⟩ := run_bound (P := P) h (if isS then .sliceAcap else .sliceAlen)
  obtain ⟨m, hK, hr2⟩ := run_bound (P := P) hK .sliceB
  refine ⟨n, m, hK, fun w => ?_⟩
  have h1 := hr w
  have h2 := hr2 w
  cases hi <;> cases lo <;> simp_all [Instr.sliceBounds]
theorem run_part {P : Program} {t : TypeId} {cs : Array Value} {off : Nat} {K : Value -> Prop} (h : evPart P t cs.toList off K) :
    ∃ v, K v /\ ∀ w, (part t cs off).run P w = .ok v w := by
  obtain ⟨hi, h | h⟩ := aggK_elim h
  · obtain ⟨h, ha⟩ := h
    refine ⟨_, h, fun w => ?_⟩
    simp [part, ha, run_size hi]
    apply Array.ext'; simp
  · obtain ⟨d, hd, h, ha⟩ := h
    split at h
    · rename_i v hv
      have hv' : cs[off]? = some v := by simpa using hv
      exact ⟨_, h, fun w => by simp [part, ha, hv']⟩
    · exact h.elim
theorem run_zeroP {P : Program} {t : TypeId} {z : Value} (h : zeroP P t = some z) (w : World) : (zeroValue t).run P w = .ok z w := by
  unfold zeroP at h
  cases hi : P.info? t with
  | none => simp [hi] at h
  | some i => simp [hi] at h; simp [zeroValue, typeInfo, hi, h]
theorem allSz_elim {P : Program} : {fs : List Field} -> {X : Prop} -> allSz P fs X -> X /\ ∀ f ∈ fs, ∀ w, (sizeOf f.type).run P w = .ok (szP P f.type) w
  | [], _, h => ⟨h, by simp⟩
  | f :: r, X, h => by
    obtain ⟨n, h2, _, hn, hr⟩ := szK_elim h
    obtain ⟨h3, h4⟩ := allSz_elim h2
    refine ⟨h3, fun g hg w => ?_⟩
    rcases List.mem_cons.1 hg with rfl | hg
    · rw [hr w, hn]
    · exact h4 g hg w
theorem run_places {P : Program} (fs : Array Field) (h : ∀ f ∈ fs.toList, ∀ w, (sizeOf f.type).run P w = .ok (szP P f.type) w) (w : World) :
    (fs.mapM fun f => do pure (f.offset, <- sizeOf f.type) : Sem (Array (Nat × Nat))).run P w = .ok (fs.map fun f => (f.offset, szP P f.type)) w := by
  have key : ∀ (l : List Field), (∀ f ∈ l, ∀ w, (sizeOf f.type).run P w = .ok (szP P f.type) w) ->
      (l.mapM (fun f => do pure (f.offset, <- sizeOf f.type) : Field -> Sem (Nat × Nat))).run P w = .ok (l.map fun f => (f.offset, szP P f.type)) w := by
    intro l
    induction l with
    | nil => intro _; simp
    | cons f r ih =>
      intro h
      have ih' := ih (fun g hg => h g (by simp [hg]))
      simp only [bind_pure_comp] at ih'
      simp [List.mapM_cons, h f (by simp), ih']
  have hk := key fs.toList h
  rw [Array.mapM_eq_mapM_toList]
  simp only [Sem.run_map, hk, Result.andThen_ok]
  congr 1
  apply Array.ext'
  simp
theorem ne_of_beq {a b : Nat} (h : Nat.beq a b = false) : ¬ a = b := fun e => by rw [e, Nat.beq_refl] at h; cases h
theorem run_idx {P : Program} {l : Nat} {e : TypeId} {cs : Array Value} {n : Int} {K : Value -> Prop} (h : evIdx P l e cs.toList n K) :
    ∃ v, K v /\ (0 <= n /\ n < (l : Int)) /\ ∀ w, (sizeOf e).run P w = .ok 1 w /\ (part e cs (n.toNat * 1)).run P w = .ok v w := by
  unfold evIdx at h
  split at h
  · rename_i u hu
    obtain ⟨z, h3, hz, _, hr⟩ := szK_elim h
    have h4 := lenK_elim h3
    have h5 := lenK_elim h4.2
    have h1 := h4.1
    have h2 := h5.1
    have h := h5.2
    subst h1
    split at h
    · rename_i hp
      obtain ⟨hb, h⟩ := h
      have hg := ptrL_get hp (i := n.toNat) (by omega)
      have hpart : evPart P e cs.toList (n.toNat * 1) fun v => v = .pointer ((ptrL cs.toList).getD n.toNat none) := by
        unfold evPart aggK
        rw [hu, Nat.mul_one, hg]
      obtain ⟨v, hv, hr2⟩ := run_part hpart
      subst hv
      exact ⟨_, h, hb, fun w => ⟨hr w, hr2 w⟩⟩
    · exact h.elim
  · exact h.elim
theorem run_idxS {P : Program} {l : Nat} {e : TypeId} {cs : Array Value} {n : Int} {K : Value -> Prop} (h : evIdxS P l e cs.toList n K) :
    ∃ v, K v /\ (0 <= n /\ n < (l : Int)) /\ ∀ w, (sizeOf e).run P w = .ok 1 w /\ (part e cs (n.toNat * 1)).run P w = .ok v w := by
  unfold evIdxS at h
  split at h
  · rename_i u hu
    obtain ⟨z, h3, hz, _, hr⟩ := szK_elim h
    have h4 := lenK_elim h3
    have h5 := lenK_elim h4.2
    have h1 := h4.1
    have h2 := h5.1
    have h := h5.2
    subst h1
    split at h
    · rename_i hp
      obtain ⟨hb, h⟩ := h
      have hg := slL_get hp (i := n.toNat) (by omega)
      have hpart : evPart P e cs.toList (n.toNat * 1) fun v => v = .slice ((slL cs.toList).getD n.toNat ⟨none, 0, 0⟩).base ((slL cs.toList).getD n.toNat ⟨none, 0, 0⟩).len ((slL cs.toList).getD n.toNat ⟨none, 0, 0⟩).cap := by
        unfold evPart aggK
        rw [hu, Nat.mul_one, hg]
      obtain ⟨v, hv, hr2⟩ := run_part hpart
      subst hv
      exact ⟨_, h, hb, fun w => ⟨hr w, hr2 w⟩⟩
    · exact h.elim
  · exact h.elim
theorem eqGuardT_ok {P : Program} {op : BinOp} {t : TypeId} {x y : Operand} {a b : Value} {w : World} {K : Value -> Prop} (h : evBinT P op t a b K) :
    (eqGuard op t x y a b).run P w = .ok () w := by
  unfold evBinT at h
  split at h
  · split at h
    · unfold eqGuard
      cases op <;> simp
    · exact eqGuard_ok (fun _ _ => trivial) ⟨_, h⟩
  · exact eqGuard_ok (fun _ _ => trivial) ⟨_, h⟩
theorem evPure_sound {P : Program} {o : Oper} {ρ : Operand -> Value} {K : Value -> Prop} (h : evPure P o.op o.type ρ K) :
    ∃ v, K v /\ ∀ w, (execOp ρ o).run P w = .ok (.value v) w := by
  obtain ⟨dst, op, type, pos, after, guard⟩ := o
  simp only at h
  unfold evPure at h
  split at h
  case h_1 => exact ⟨_, h, fun w => by simp [execOp]⟩
  case h_2 => exact ⟨_, h, fun w => by simp [execOp]⟩
  case h_3 =>
    split at h
    · rename_i hb
      exact ⟨_, h, fun w => by simp [execOp, hb, asBool, cond_eq_ite]⟩
    · exact h.elim
  case h_4 =>
    split at h
    · rename_i hb
      obtain ⟨p, rfl, h⟩ := NC_elim h
      exact ⟨_, h, fun w => by simp [execOp, hb]⟩
    · exact h.elim
  case h_5 =>
    split at h
    · have hg : ∀ x y w, (eqGuard _ _ x y _ _).run P w = .ok () w := fun x y w => eqGuardT_ok h
      obtain ⟨v, hK, hr⟩ := evBinT_sound h
      exact ⟨v, hK, fun w => by simp [execOp, hr, hg]⟩
    · have hg : ∀ x y w, (eqGuard _ _ x y _ _).run P w = .ok () w := fun x y w => eqGuard_ok (fun _ _ => trivial) ⟨_, h⟩
      obtain ⟨v, hK, hr⟩ := evBin_sound h
      exact ⟨v, hK, fun w => by simp [execOp, hr, hg]⟩
  case h_6 =>
    unfold evUn at h
    split at h
    · rename_i hx; exact ⟨_, h, fun w => by simp [execOp, Op.unary, hx]⟩
    · rename_i hx; exact ⟨_, h, fun w => by simp [execOp, Op.unary, hx, Op.intArith]⟩
    · rename_i hx; exact ⟨_, h, fun w => by simp [execOp, Op.unary, hx, Op.intBits]⟩
    · exact h.elim
  case h_7 =>
    split at h
    · rename_i hs hd hx
      exact ⟨_, h, fun w => by simp [execOp, convert, run_und hs, run_und hd, hx, Conv.intToInt]⟩
    · rename_i hs hd hx
      obtain ⟨e, h⟩ := dblK_elim h
      subst e
      exact ⟨_, h, fun w => by simp [execOp, convert, run_und hs, run_und hd, hx, Conv.intToFloat, fNear, hid_eq]⟩
    · rename_i hs hd hx
      obtain ⟨e, h⟩ := dblK_elim h
      subst e
      obtain ⟨n, h1, h2, h⟩ := h
      unfold fInt at h1
      rw [hid_eq] at h1
      exact ⟨_, h, fun w => by simp [execOp, convert, run_und hs, run_und hd, hx, Conv.floatToInt, h1, h2]⟩
    · exact h.elim
  case h_8 => exact ⟨_, h, fun w => by simp [execOp, Instr.makeFunc]⟩
  case h_9 =>
    split at h
    · rename_i hs
      split at h
      · rename_i f hf
        obtain ⟨z, h, hz, _, hr⟩ := szK_elim h
        split at h
        · rename_i hx
          obtain ⟨p, rfl, h⟩ := NC_elim h
          exact ⟨_, h, fun w => by simp [execOp, Instr.fieldAt, run_und hs, hf, hx, Instr.sureAddr, fieldPlace, hr, hz]⟩
        · exact h.elim
      · exact h.elim
    · exact h.elim
  case h_10 =>
    split at h
    · rename_i hs
      split at h
      · rename_i f hf
        split at h
        · rename_i hx
          obtain ⟨v, hK, hr⟩ := run_part h
          exact ⟨_, hK, fun w => by simp [execOp, Instr.field, run_und hs, hf, hx, asAgg, hr]⟩
        · exact h.elim
      · exact h.elim
    · exact h.elim
  case h_11 =>
    split at h
    · rename_i hi
      split at h
      · rename_i ht
        obtain ⟨z, h, hz, _, hr⟩ := szK_elim h
        split at h
        · rename_i hx
          obtain ⟨p, rfl, h1, h⟩ := NC_elim h
          exact ⟨_, h, fun w => by simp [execOp, Instr.indexAt, run_und ht, hi, hx, asIntOf, hr, h1]⟩
        · exact h.elim
      · rename_i ht
        obtain ⟨z, h, hz, _, hr⟩ := szK_elim h
        split at h
        · rename_i hx
          obtain ⟨p, rfl, h1, h⟩ := NC_elim h
          exact ⟨_, h, fun w => by simp [execOp, Instr.indexAt, run_und ht, hi, hx, asIntOf, Instr.sureAddr, hr, h1]⟩
        · exact h.elim
      · exact h.elim
    · exact h.elim
  case h_12 =>
    split at h
    · rename_i z hz
      have hzr := run_zeroP hz
      split at h
      · rename_i fs hs
        obtain ⟨h2, hsz⟩ := allSz_elim h
        obtain ⟨out, hK, hf⟩ := evFill_elim h2
        refine ⟨_, hK, fun w => ?_⟩
        have hp := run_places fs hsz w
        have hg : (fun i : Nat => Option.map (fun f : Field => (f.offset, szP P f.type)) fs[i]?) = fun i : Nat => (fs.map fun f : Field => (f.offset, szP P f.type))[i]? := by
          funext i; simp
        rw [hg] at hf
        simp [execOp, Instr.build, hzr, run_und hs]
        simp at hp hf
        simp [hp, hf]
      · rename_i hs
        obtain ⟨n, h2, _, hn, hr⟩ := szK_elim h
        obtain ⟨out, hK, hf⟩ := evFill_elim h2
        refine ⟨_, hK, fun w => ?_⟩
        simp at hf
        simp [execOp, Instr.build, hzr, run_und hs, hr, hf]
      · exact h.elim
    · exact h.elim
  case h_13 =>
    split at h
    · rename_i vs hx
      split at h
      · rename_i v hv
        rw [Array.getElem?_toList] at hv
        obtain ⟨u, rfl, h2⟩ := unVT_elim h
        exact ⟨_, h2, fun w => by simp [execOp, Instr.extract, hx, hv]⟩
      · exact h.elim
    · exact h.elim
  case h_14 =>
    split at h
    · rename_i ht
      obtain ⟨z, h, hz, _, hr⟩ := szK_elim h
      split at h
      · rename_i hx
        obtain ⟨hh, m, hK, hb⟩ := run_bounds (P := P) (isS := true) h
        refine ⟨_, hK, fun w => ?_⟩
        simp [execOp, Instr.sliceAt, Instr.slice, run_und ht, hx, hb, hr]
      · exact h.elim
    · rename_i ht
      obtain ⟨z, h, hz, _, hr⟩ := szK_elim h
      split at h
      · rename_i hx
        obtain ⟨p, rfl, h2⟩ := NC_elim h
        obtain ⟨hh, m, hK, hb⟩ := run_bounds (P := P) (isS := false) h2
        refine ⟨_, hK, fun w => ?_⟩
        simp [execOp, Instr.sliceAt, run_und ht, hx, hb, hr, Instr.sureAddr]
      · exact h.elim
    · exact h.elim
  case h_15 =>
    split at h
    · exact h.elim
    · rename_i d hni hd
      refine ⟨_, h, fun w => ?_⟩
      cases d <;> first
        | (simp [execOp, Instr.makeInterface, run_und hd]; done)
        | exact (hni _ rfl).elim
    · exact h.elim
  case h_16 =>
    split at h
    · exact h.elim
    · rename_i d hni hd
      split at h
      · rename_i z hz
        unfold TAS at h
        split at h
        · rename_i hx
          refine ⟨_, h, fun w => ?_⟩
          cases d <;> first
            | (simp [execOp, Instr.typeAssert, run_und hd, hx, run_zeroP hz]; done)
            | exact (hni _ rfl).elim
        · rename_i t v hx
          split at h
          · rename_i hb
            have hb := Nat.eq_of_beq_eq_true hb
            refine ⟨_, h, fun w => ?_⟩
            cases d <;> first
              | (simp [execOp, Instr.typeAssert, run_und hd, hx, hb]; done)
              | exact (hni _ rfl).elim
          · rename_i hb
            have hb := ne_of_beq hb
            refine ⟨_, h, fun w => ?_⟩
            cases d <;> first
              | (simp [execOp, Instr.typeAssert, run_und hd, hx, hb, run_zeroP hz]; done)
              | exact (hni _ rfl).elim
        · exact h.elim
      · exact h.elim
    · exact h.elim
  case h_17 c =>
    obtain ⟨callee, args, argTypes⟩ := c
    simp only at h
    split at h
    · split at h
      · rename_i ha
        split at h
        · rename_i hx
          split at h
          · rename_i ht
            have ha' : args = #[_] := Array.toList_inj.1 (by simpa using ha)
            subst ha'
            cases hT : argTypes.toList with
            | nil => simp [hT] at ht
            | cons t r =>
              have hT' : argTypes[0]? = some t := by simp [<- Array.getElem?_toList, hT]
              simp [hT] at ht
              exact ⟨_, h, fun w => by simp [execOp, resolve, invoke, builtin, Builtin.len_, hT', hx, run_und ht, goInt]⟩
          · exact h.elim
        · exact h.elim
      · exact h.elim
    · split at h
      · rename_i ha
        split at h
        · rename_i hx
          split at h
          · rename_i hy
            have ha' : args = #[_, _] := Array.toList_inj.1 (by simpa using ha)
            subst ha'
            exact ⟨_, h, fun w => by simp [execOp, resolve, invoke, builtin, Builtin.min_, Builtin.min2, hx, hy]⟩
          · exact h.elim
        · exact h.elim
      · rename_i ha
        split at h
        · rename_i hx
          split at h
          · rename_i hy
            split at h
            · rename_i hz
              have ha' : args = #[_, _, _] := Array.toList_inj.1 (by simpa using ha)
              subst ha'
              exact ⟨_, h, fun w => by simp [execOp, resolve, invoke, builtin, Builtin.min_, Builtin.min2, hx, hy, hz]; rfl⟩
            · exact h.elim
          · exact h.elim
        · exact h.elim
      · exact h.elim
    · split at h
      · rename_i ha
        split at h
        · rename_i hx
          split at h
          · rename_i hy
            have ha' : args = #[_, _] := Array.toList_inj.1 (by simpa using ha)
            subst ha'
            exact ⟨_, h, fun w => by simp [execOp, resolve, invoke, builtin, Builtin.max_, Builtin.max2, hx, hy]⟩
          · exact h.elim
        · exact h.elim
      · rename_i ha
        split at h
        · rename_i hx
          split at h
          · rename_i hy
            split at h
            · rename_i hz
              have ha' : args = #[_, _, _] := Array.toList_inj.1 (by simpa using ha)
              subst ha'
              exact ⟨_, h, fun w => by simp [execOp, resolve, invoke, builtin, Builtin.max_, Builtin.max2, hx, hy, hz]; rfl⟩
            · exact h.elim
          · exact h.elim
        · exact h.elim
      · exact h.elim
    · exact h.elim
  case h_18 =>
    split at h
    · rename_i l e ht
      split at h
      · rename_i cs hx
        split at h
        · rename_i kk n hi
          split at h
          · obtain ⟨v, hK, hb, hr⟩ := run_idxS h
            refine ⟨v, hK, fun w => ?_⟩
            have h1 := (hr w).1
            have h2 := (hr w).2
            rw [Nat.mul_one] at h2
            simp [execOp, Instr.index, run_und ht, hi, hx, asIntOf, hb, h1, h2]
          · obtain ⟨v, hK, hb, hr⟩ := run_idx h
            refine ⟨v, hK, fun w => ?_⟩
            have h1 := (hr w).1
            have h2 := (hr w).2
            rw [Nat.mul_one] at h2
            simp [execOp, Instr.index, run_und ht, hi, hx, asIntOf, hb, h1, h2]
        · exact h.elim
      · exact h.elim
    · rename_i ht
      split at h
      · rename_i s hx
        split at h
        · rename_i kk n hi
          obtain ⟨h0, b, hb, hK⟩ := h
          exact ⟨_, hK, fun w => by simp [execOp, Instr.index, run_und ht, hi, hx, asIntOf, h0, hb]⟩
        · exact h.elim
      · exact h.elim
    · exact h.elim
  case h_19 => exact h.elim
end Go.Sh

set_option linter.all false
namespace Go.Sh
abbrev Keep := World -> Prop
def Keep.all : Keep := fun _ => True
def Keep.cell (p : Addr) (v : Value) : Keep := fun w => w.cell? p = some v
def Keep.and (a b : Keep) : Keep := fun w => a w /\ b w
def Keep.obj (r : Option Nat) (es : Array MapEntry) : Keep := fun w => match r with
  | none => es = #[]
  | some b => ∃ c, w.heap[b]? = some (.map es c)
def ldCells : List Ty -> Addr -> Nat -> World -> (List Value -> Keep -> Prop) -> Prop
  | [], _, _, _, K => K [] Keep.all
  | t :: r, p, i, w, K => ∃ x : TyV t, w.cell? (p.add i) = some (mkV t x) /\ ldCells r p (i + 1) w fun l S => K (mkV t x :: l) (Keep.and (Keep.cell (p.add i) (mkV t x)) S)
def evLoad (P : Program) (t : TypeId) (p : Addr) (w : World) (K : Value -> Keep -> Prop) : Prop :=
  aggK P t (lenK (tysP P 12 t).length (szP P t) (ldCells (tysP P 12 t) p 0 w fun l S => K (.agg ⟨l⟩) S))
    fun d => ∃ x : TyV (tyD d), w.cell? p = some (mkV (tyD d) x) /\ K (mkV (tyD d) x) (Keep.cell p (mkV (tyD d) x))
abbrev mapAt (w : World) (r : Option Nat) (es : Array MapEntry) : Prop := Keep.obj r es w
def findI (k : IntKind) (n : Int) (es : Array MapEntry) (res : Option (Nat × Value)) : Prop :=
  Instr.findNow (.int k) (.int k n) es.toList 0 = some res
def keyK (P : Program) : Nat -> List Field -> List Value -> Prop -> Prop
  | _, [], [], X => X
  | j, f :: r, v :: s, X => match Nat.beq f.offset j with
    | true => match f.name != "_" with
      | true => match P.underlying f.type with
        | some (.int k) => match v with
          | .int k' _ => sameK k k' (keyK P (j + 1) r s X)
          | _ => False
        | some .bool => match v with
          | .bool _ => keyK P (j + 1) r s X
          | _ => False
        | _ => False
      | false => False
    | false => False
  | _, _, _, _ => False
theorem keyK_elim {P : Program} : {j : Nat} -> {fs : List Field} -> {cs : List Value} -> {X : Prop} -> keyK P j fs cs X -> X /\ keyK P j fs cs True
  | _, [], [], _, h => ⟨h, trivial⟩
  | _, [], _ :: _, _, h => h.elim
  | _, _ :: _, [], _, h => h.elim
  | j, f :: r, v :: s, X, h => by
    revert h
    unfold keyK
    split
    · split
      · split
        · split
          · intro h
            obtain ⟨e, h2⟩ := sameK_elim h
            subst e
            obtain ⟨h3, h4⟩ := keyK_elim h2
            exact ⟨h3, by unfold sameK; rw [Nat.beq_refl]; exact h4⟩
          · intro h; exact h.elim
        · split
          · intro h; exact keyK_elim h
          · intro h; exact h.elim
        · intro h; exact h.elim
      · intro h; exact h.elim
    · intro h; exact h.elim
def eqA : List Value -> List Value -> Option Bool
  | [], [] => some true
  | .int k a :: r, .int k' b :: s => match Nat.beq (ik k) (ik k') with
    | true => bif a == b then eqA r s else some false
    | false => none
  | .bool a :: r, .bool b :: s => bif a == b then eqA r s else some false
  | _, _ => none
def findA (cs : List Value) : List MapEntry -> Nat -> Option (Option (Nat × Value))
  | [], _ => some none
  | e :: es, i => match e.key with
    | .agg ds => match eqA cs ds.toList with
      | some true => some (some (i, e.val))
      | some false => findA cs es (i + 1)
      | none => none
    | _ => none
def valOr (res : Option (Nat × Value)) (z : Value) : Value := match res with | some (_, v) => v | none => z
def LKP (k : IntKind) (n : Int) (r : Option Nat) (w : World) (z : Value) (K : Value -> Bool -> Array MapEntry -> Prop) : Prop :=
  ∃ es res, mapAt w r es /\ findI k n es res /\ K (valOr res z) res.isSome es
def evLookup (P : Program) (t : TypeId) (m key : Value) (ok : Bool) (w : World) (K : Value -> Keep -> Prop) : Prop :=
  match P.underlying t with
  | some (.map kt et) => match P.underlying kt with
    | some (.int k) => match key with
      | .int k' n => sameK k k' (match m with
        | .map r => match zeroP P et with
          | some z => ∃ es res, mapAt w r es /\ findI k n es res /\ ∃ x : VTV (vtP P et), valOr res z = mkVT (vtP P et) x /\
              K (bif ok then .tuple #[mkVT (vtP P et) x, .bool res.isSome] else mkVT (vtP P et) x) (Keep.obj r es)
          | none => False
        | _ => False)
      | _ => False
    | some (.struct fs) => match key with
      | .agg cs => match P.stoodInHeld kt with
        | false => keyK P 0 fs.toList cs.toList (match m with
          | .map r => match zeroP P et with
            | some z => ∃ es res, mapAt w r es /\ findA cs.toList es.toList 0 = some res /\ ∃ x : VTV (vtP P et), valOr res z = mkVT (vtP P et) x /\
                K (bif ok then .tuple #[mkVT (vtP P et) x, .bool res.isSome] else mkVT (vtP P et) x) (Keep.obj r es)
            | none => False
          | _ => False)
        | true => False
      | _ => False
    | _ => False
  | _ => False
def Keep.entry (r : Nat) (m since stepped : Nat) (seen : Array Nat) (es : Array MapEntry) (clock : Nat) : Keep := fun w =>
  w.heap[r]? = some (.mapIter (some m) since seen stepped) /\ w.heap[m]? = some (.map es clock)
def ENT (r : Nat) (w : World) (K : Value -> Value -> Keep -> Prop) : Prop :=
  ∃ m since stepped seen es clock stamp e, Keep.entry r m since stepped seen es clock w /\ seen.back? = some stamp /\ clock = stepped /\
    es.find? (fun x : MapEntry => x.born == stamp) = some e /\ K e.key e.val (Keep.entry r m since stepped seen es clock)
def evRead (P : Program) (o : Op) (ρ : Operand -> Value) (w : World) (K : Value -> Keep -> Prop) : Prop :=
  match o with
  | .load t a => match ρ a with
    | .pointer p => NC p fun p => evLoad P t p w K
    | _ => False
  | .lookup t m k ok => evLookup P t (ρ m) (ρ k) ok w K
  | .entry it => match ρ it with
    | .pointer (some ⟨r, 0, _⟩) => ENT r w fun k v S => K (.tuple #[k, v]) S
    | _ => False
  | .call c => match c.callee with
    | .builtin .len => match c.args.toList with
      | [x] => match ρ x with
        | .map r => match (c.argTypes.toList.head?).bind P.underlying with
          | some (.map _ _) => ∃ es, mapAt w r es /\ K (.int .i64 es.size) (Keep.obj r es)
          | _ => False
        | _ => False
      | _ => False
    | _ => False
  | _ => False
theorem ldCells_elim {P : Program} : {l : List Ty} -> {p : Addr} -> {i : Nat} -> {w : World} -> {K : List Value -> Keep -> Prop} -> ldCells l p i w K ->
    ∃ vs S, K vs S /\ S w /\ vs.length = l.length /\ ∀ w', S w' -> ∀ acc, (loadCellsFrom p i l.length acc).run P w' = .ok (acc ++ vs.toArray) w'
  | [], p, i, w, K, h => ⟨[], Keep.all, h, trivial, rfl, fun w' _ acc => by simp [loadCellsFrom]⟩
  | t :: r, p, i, w, K, h => by
    obtain ⟨x, hx, h⟩ := h
    obtain ⟨vs, S, hK, hS, hl, hr⟩ := ldCells_elim (P := P) h
    refine ⟨_, _, hK, ⟨hx, hS⟩, by simp [hl], fun w' hS' acc => ?_⟩
    have hc : w'.cell? (p.add i) = some (mkV t x) := hS'.1
    simp [loadCellsFrom, hc, hr w' hS'.2]
theorem evLoad_elim {P : Program} {t : TypeId} {p : Addr} {w : World} {K : Value -> Keep -> Prop} (h : evLoad P t p w K) :
    ∃ v S, K v S /\ S w /\ ∀ w', S w' -> (loadVar t p).run P w' = .ok v w' := by
  obtain ⟨hi, h | h⟩ := aggK_elim h
  · obtain ⟨h, ha⟩ := h
    obtain ⟨hn, h⟩ := lenK_elim h
    obtain ⟨vs, S, hK, hS, hl, hr⟩ := ldCells_elim (P := P) h
    refine ⟨_, S, hK, hS, fun w' hS' => ?_⟩
    have := hr w' hS' #[]
    simp [loadVar, ha, run_size hi, loadCells, <- hn, this]
  · obtain ⟨d, hd, ⟨x, hx, hK⟩, ha⟩ := h
    refine ⟨_, _, hK, hx, fun w' hS' => ?_⟩
    have hc : w'.cell? p = some (mkV (tyD d) x) := hS'
    simp [loadVar, ha, hc]
theorem run_findKey {P : Program} {kt : TypeId} {k : IntKind} {n : Int} {es : Array MapEntry} {res : Option (Nat × Value)} (hk : P.underlying kt = some (.int k))
    (h : findI k n es res) (w : World) : (Instr.findKey kt (.int k n) es.toList).run P w = .ok res w := by
  unfold findI at h
  simp [Instr.findKey, run_und hk, h]
theorem run_checkKey' {P : Program} {kt : TypeId} {k : IntKind} {n : Int} {e : Bool} (d : Nat) (hk : P.underlying kt = some (.int k)) (w : World) :
    (Instr.checkKey e (d + 1) kt (.int k n)).run P w = .ok () w := by
  simp [Instr.checkKey, run_und hk]
theorem run_checkKey {P : Program} {kt : TypeId} {k : IntKind} {n : Int} {e : Bool} (hk : P.underlying kt = some (.int k)) (w : World) :
    (Instr.checkKey e 10000 kt (.int k n)).run P w = .ok () w := run_checkKey' 9999 hk w
theorem drop_cons {l s : List Value} {j : Nat} {v : Value} (h : l.drop j = v :: s) : l[j]? = some v /\ l.drop (j + 1) = s := by
  constructor
  · have := List.getElem?_drop (xs := l) (i := j) (j := 0)
    rw [h] at this
    simpa using this.symm
  · rw [<- List.tail_drop, h]; rfl
theorem run_partA {P : Program} {t : TypeId} {cs : Array Value} {j : Nat} {v : Value} (ht : (∃ k, P.underlying t = some (.int k)) ∨ P.underlying t = some .bool) (hv : cs.toList[j]? = some v) (w : World) : (part t cs j).run P w = .ok v w := by
  have hv' : cs[j]? = some v := by simpa using hv
  rcases ht with ⟨k, ht⟩ | ht <;> simp [part, isAgg, run_und ht, hv']
theorem eqA_sound {P : Program} (d : Nat) (cs ds : Array Value) : ∀ (fs : List Field) (j : Nat) (s t : List Value) {b : Bool}, cs.toList.drop j = s -> ds.toList.drop j = t -> keyK P j fs s True -> eqA s t = some b ->
    ∀ w, (Op.eqFields (d + 1) cs ds fs).run P w = .ok b w
  | [], j, [], t, b, hc, hd, h, he, w => by
    cases t with
    | nil => simp [eqA] at he; subst he; simp [Op.eqFields]
    | cons => simp [eqA] at he
  | [], _, _ :: _, _, _, _, _, h, _, _ => h.elim
  | _ :: _, _, [], _, _, _, _, h, _, _ => h.elim
  | f :: r, j, v :: s, t, b, hc, hd, h, he, w => by
    unfold keyK at h
    obtain ⟨hc1, hc2⟩ := drop_cons hc
    split at h
    · rename_i e1
      have e1 := Nat.eq_of_beq_eq_true e1
      subst e1
      split at h
      · rename_i hn
        have hn' : f.name ≠ "_" := by simpa using hn
        split at h
        · rename_i kk e3
          split at h
          · rename_i k a
            obtain ⟨hkk, h2⟩ := sameK_elim h
            clear h
            subst hkk
            cases t with
            | nil => simp [eqA] at he
            | cons u t =>
              obtain ⟨hd1, hd2⟩ := drop_cons hd
              cases u <;> try (simp [eqA] at he; done)
              rename_i k' a'
              unfold eqA at he
              split at he
              · rename_i ek
                have ek := ik_inj (Nat.eq_of_beq_eq_true ek)
                subst ek
                simp only [Op.eqFields, if_pos hn', Sem.run_bind, run_partA (.inl ⟨_, e3⟩) hc1, run_partA (.inl ⟨_, e3⟩) hd1, Result.andThen_ok, run_equalIn_int w d f.type _ _ _ _ e3]
                cases hab : (a == a')
                · rw [hab] at he
                  cases he
                  simp
                · rw [hab] at he
                  simp only [cond_true] at he
                  simp [eqA_sound d cs ds r (f.offset + 1) s t hc2 hd2 h2 he w]
              · cases he
          · exact h.elim
        · rename_i e3
          split at h
          · rename_i a
            cases t with
            | nil => simp [eqA] at he
            | cons u t =>
              obtain ⟨hd1, hd2⟩ := drop_cons hd
              cases u <;> try (simp [eqA] at he; done)
              rename_i a'
              unfold eqA at he
              simp only [Op.eqFields, if_pos hn', Sem.run_bind, run_partA (.inr e3) hc1, run_partA (.inr e3) hd1, Result.andThen_ok, run_equalIn_bool' w d f.type _ _ e3]
              cases hab : (a == a')
              · rw [hab] at he
                cases he
                simp
              · rw [hab] at he
                simp only [cond_true] at he
                simp [eqA_sound d cs ds r (f.offset + 1) s t hc2 hd2 h he w]
          · exact h.elim
        · exact h.elim
      · exact h.elim
    · exact h.elim
theorem run_equalA {P : Program} {kt : TypeId} {fs : Array Field} {cs ds : Array Value} {b : Bool} (hk : P.underlying kt = some (.struct fs)) (hp : P.stoodInHeld kt = false) (h : keyK P 0 fs.toList cs.toList True) (he : eqA cs.toList ds.toList = some b) (w : World) :
    (Op.equal kt (.agg cs) (.agg ds)).run P w = .ok b w := by
  have hf : P.fieldsOf kt = fs := by simp [Program.fieldsOf, hk]
  have ht' : P.underlying kt = some (.struct (P.fieldsOf kt)) := by rw [hf]; exact hk
  show (Op.equalIn (9999 + 1) kt (.agg cs) (.agg ds)).run P w = _
  rw [run_equalIn_struct w 9999 kt cs ds ht' hp, hf]
  exact eqA_sound 9998 cs ds fs.toList 0 _ _ rfl rfl h he w
theorem run_findA {P : Program} {kt : TypeId} {fs : Array Field} {cs : Array Value} (hk : P.underlying kt = some (.struct fs)) (hp : P.stoodInHeld kt = false) (h : keyK P 0 fs.toList cs.toList True) (w : World) :
    ∀ (es : List MapEntry) (i : Nat) {res : Option (Nat × Value)}, findA cs.toList es i = some res -> (Instr.findAsking kt (.agg cs) es i).run P w = .ok res w
  | [], i, res, hf => by simp [findA] at hf; subst hf; simp [Instr.findAsking]
  | e :: es, i, res, hf => by
    unfold findA at hf
    split at hf
    · rename_i ds hd
      split at hf
      · rename_i he
        cases hf
        simp [Instr.findAsking, hd, run_equalA hk hp h he]
      · rename_i he
        have := run_findA hk hp h w es (i + 1) hf
        simp [Instr.findAsking, hd, run_equalA hk hp h he, this]
      · cases hf
    · cases hf
theorem run_findKeyA {P : Program} {kt : TypeId} {fs : Array Field} {cs : Array Value} (hk : P.underlying kt = some (.struct fs)) (hp : P.stoodInHeld kt = false) (h : keyK P 0 fs.toList cs.toList True)
    {es : Array MapEntry} {res : Option (Nat × Value)} (hf : findA cs.toList es.toList 0 = some res) (w : World) : (Instr.findKey kt (.agg cs) es.toList).run P w = .ok res w := by
  have hr := run_findA hk hp h w es.toList 0 hf
  cases hes : es.toList with
  | nil => rw [hes] at hf; simp [findA] at hf; subst hf; simp [Instr.findKey, run_und hk, Instr.findNow]
  | cons e l => rw [hes] at hr; simp [Instr.findKey, run_und hk, Instr.findNow, Instr.sameNow, hr]
theorem run_checkA {P : Program} (e : Bool) (d : Nat) (cs : Array Value) : ∀ (fs : List Field) (j : Nat) (s : List Value), cs.toList.drop j = s -> keyK P j fs s True ->
    ∀ w, (do for f in fs do if f.name ≠ "_" then Instr.checkKey e (d + 1) f.type (<- part f.type cs f.offset) : Sem Unit).run P w = .ok () w
  | [], _, _, _, _, w => by simp
  | _ :: _, _, [], _, h, _ => h.elim
  | f :: r, j, v :: s, hc, h, w => by
    unfold keyK at h
    obtain ⟨hc1, hc2⟩ := drop_cons hc
    split at h
    · rename_i e1
      have e1 := Nat.eq_of_beq_eq_true e1
      subst e1
      split at h
      · rename_i hn
        have hn' : f.name ≠ "_" := by simpa using hn
        split at h
        · rename_i kk e3
          split at h
          · obtain ⟨hkk, h2⟩ := sameK_elim h
            have ih := run_checkA e d cs r (f.offset + 1) s hc2 h2 w
            simp only [List.forIn_cons, Sem.run_bind, if_pos hn', run_partA (.inl ⟨_, e3⟩) hc1, Result.andThen_ok, Instr.checkKey, run_und e3, Sem.run_pure] at ih ⊢
            exact ih
          · exact h.elim
        · rename_i e3
          split at h
          · have ih := run_checkA e d cs r (f.offset + 1) s hc2 h w
            simp only [List.forIn_cons, Sem.run_bind, if_pos hn', run_partA (.inr e3) hc1, Result.andThen_ok, Instr.checkKey, run_und e3, Sem.run_pure] at ih ⊢
            exact ih
          · exact h.elim
        · exact h.elim
      · exact h.elim
    · exact h.elim
theorem run_checkKeyA {P : Program} {kt : TypeId} {fs : Array Field} {cs : Array Value} (hk : P.underlying kt = some (.struct fs)) (h : keyK P 0 fs.toList cs.toList True) (e : Bool) (w : World) :
    (Instr.checkKey e 10000 kt (.agg cs)).run P w = .ok () w := by
  have key : ∀ d, (Instr.checkKey e (d + 1 + 1) kt (.agg cs)).run P w = .ok () w := by
    intro d
    have := run_checkA e d cs fs.toList 0 _ rfl h w
    rw [Instr.checkKey]
    simp only [Sem.run_bind, run_und hk, Result.andThen_ok]
    rw [Array.forIn_toList, Sem.run_bind] at this
    exact this
  exact key 9998
theorem run_getMap {P : Program} {w : World} {b : Nat} {es : Array MapEntry} {c : Nat} (h : w.heap[b]? = some (.map es c)) :
    (getObj b).run P w = .ok (.map es c) w := by
  simp [getObj, Sem.run, h]
theorem evRead_sound {P : Program} {o : Oper} {ρ : Operand -> Value} {w : World} {K : Value -> Keep -> Prop} (h : evRead P o.op ρ w K) :
    ∃ v S, K v S /\ S w /\ ∀ w', S w' -> (execOp ρ o).run P w' = .ok (.value v) w' := by
  obtain ⟨dst, op, type, pos, after, guard⟩ := o
  simp only at h
  unfold evRead at h
  split at h
  · split at h
    · rename_i hx
      obtain ⟨p, rfl, h⟩ := NC_elim h
      obtain ⟨v, S, hK, hS, hr⟩ := evLoad_elim h
      exact ⟨v, S, hK, hS, fun w' hS' => by simp [execOp, Instr.loadAt, hx, Instr.sureAddr, hr w' hS']⟩
    · exact h.elim
  · rename_i t m k ok
    unfold evLookup at h
    split at h
    · rename_i kt et ht
      split at h
      · rename_i kk hk
        split at h
        · rename_i k' n hkey
          obtain ⟨rfl, h2⟩ := sameK_elim h
          split at h2
          · rename_i r hm
            split at h2
            · rename_i z hz
              obtain ⟨es, res, hmap, hf, x, hx, hK⟩ := h2
              refine ⟨_, _, hK, hmap, fun w' hS' => ?_⟩
              have hfk := run_findKey hk hf w'
              have hck := fun e => run_checkKey (e := e) (n := n) hk w'
              rw [<- hx]
              cases r with
              | none =>
                have he : es = #[] := hS'
                simp only [execOp, Instr.lookup, hm, hkey, Sem.run_bind, run_und ht, Result.andThen_ok, Sem.run_pure, hck]
                rw [show ([] : List MapEntry) = es.toList from by rw [he], hfk]
                cases res <;> cases ok <;> simp [run_zeroP hz, valOr]
              | some b =>
                obtain ⟨c, hc⟩ := hS'
                simp only [execOp, Instr.lookup, hm, hkey, Sem.run_bind, run_und ht, Result.andThen_ok, Sem.run_pure, hck, run_getMap hc, hfk]
                cases res <;> cases ok <;> simp [run_zeroP hz, valOr]
            · exact h2.elim
          · exact h2.elim
        · exact h.elim
      · rename_i fs hk
        split at h
        · rename_i cs hkey
          split at h
          · rename_i hp
            obtain ⟨h2, hkk⟩ := keyK_elim h
            split at h2
            · rename_i r hm
              split at h2
              · rename_i z hz
                obtain ⟨es, res, hmap, hf, x, hx, hK⟩ := h2
                refine ⟨_, _, hK, hmap, fun w' hS' => ?_⟩
                have hfk := run_findKeyA hk hp hkk hf w'
                have hck := fun e => run_checkKeyA hk hkk e w'
                rw [<- hx]
                cases r with
                | none =>
                  have he : es = #[] := hS'
                  simp only [execOp, Instr.lookup, hm, hkey, Sem.run_bind, run_und ht, Result.andThen_ok, Sem.run_pure, hck]
                  rw [show ([] : List MapEntry) = es.toList from by rw [he], hfk]
                  cases res <;> cases ok <;> simp [run_zeroP hz, valOr]
                | some b =>
                  obtain ⟨c, hc⟩ := hS'
                  simp only [execOp, Instr.lookup, hm, hkey, Sem.run_bind, run_und ht, Result.andThen_ok, Sem.run_pure, hck, run_getMap hc, hfk]
                  cases res <;> cases ok <;> simp [run_zeroP hz, valOr]
              · exact h2.elim
            · exact h2.elim
          · exact h.elim
        · exact h.elim
      · exact h.elim
    · exact h.elim
  · split at h
    · rename_i hx
      obtain ⟨m, since, stepped, seen, es, clock, stamp, e, hS, hb, hc, hf, hK⟩ := h
      refine ⟨_, _, hK, hS, fun w' hS' => ?_⟩
      obtain ⟨h1, h2⟩ := hS'
      subst hc
      simp [execOp, Instr.entry, hx, getObj, Sem.run, h1, hb, h2, hf]
    · exact h.elim
  · rename_i c
    obtain ⟨callee, args, argTypes⟩ := c
    simp only at h
    split at h
    · split at h
      · rename_i ha
        split at h
        · rename_i r hx
          split at h
          · rename_i ht
            obtain ⟨es, hmap, hK⟩ := h
            refine ⟨_, _, hK, hmap, fun w' hS' => ?_⟩
            have ha' : args = #[_] := Array.toList_inj.1 (by simpa using ha)
            subst ha'
            cases hT : argTypes.toList with
            | nil => simp [hT] at ht
            | cons t r' =>
              have hT' : argTypes[0]? = some t := by simp [<- Array.getElem?_toList, hT]
              simp [hT] at ht
              cases r with
              | none =>
                have he : es = #[] := hS'
                subst he
                simp [execOp, resolve, invoke, builtin, Builtin.len_, hT', hx, run_und ht, goInt]
              | some b =>
                obtain ⟨c, hc⟩ := hS'
                simp [execOp, resolve, invoke, builtin, Builtin.len_, hT', hx, run_und ht, goInt, run_getMap hc]
          · exact h.elim
        · exact h.elim
      · exact h.elim
    · exact h.elim
  · exact h.elim
end Go.Sh

set_option linter.all false
namespace Go.Sh
def szZ (P : Program) (t : TypeId) (K : Nat -> Prop) : Prop := match P.info? t with
  | some _ => K (szP P t)
  | none => False
theorem szZ_elim {P : Program} {t : TypeId} {K : Nat -> Prop} (h : szZ P t K) : ∃ n, K n /\ n = szP P t /\ ∀ w, (sizeOf t).run P w = .ok n w := by
  unfold szZ at h
  split at h
  · rename_i i hi
    refine ⟨_, h, rfl, fun w => ?_⟩
    simp [sizeOf, typeInfo, hi, szP, Program.cellsOf]
  · exact h.elim
def stCells (p : Addr) : Nat -> List Value -> World -> (World -> Prop) -> Prop
  | _, [], w, K => K w
  | i, v :: r, w, K => ((∃ u, w.cell? (p.add i) = some u) /\ w.frozen? (p.add i) = false /\ v.oneCell' = true) /\ stCells p (i + 1) r (w.setCell (p.add i) v) K
def mkZero (zs : Array Value) (n : Nat) : Array Value := (Array.range n).map fun i => zs[i % zs.size]!
def rowAt (w : World) (b : Option Addr) (n : Nat) (l : List Value) : Prop := match b with
  | none => l = []
  | some a => l.length = n /\ ∀ j v, l[j]? = some v -> w.cell? (a.add j) = some v
def APP (elem size bytes : Nat) (zs : Array Value) (s x : SlV) (w : World) (K : SlV -> World -> Prop) : Prop :=
  ∃ news, rowAt w x.base (x.len * size) news /\
    (s.len + x.len <= s.cap -> match s.base with
      | some a => stCells (a.add (s.len * size)) 0 news w fun w' => K ⟨s.base, s.len + x.len, s.cap⟩ w'
      | none => K ⟨none, s.len + x.len, s.cap⟩ w) /\
    (s.cap < s.len + x.len -> (s.len + x.len) * bytes <= 140737488355328 /\ s.len + x.len <= 9223372036854775807 /\ ∃ olds, rowAt w s.base (s.len * size) olds /\
      ∀ cap, s.len + x.len <= cap -> cap < 9223372036854775808 ->
        K ⟨some ⟨w.heap.size, 0, none⟩, s.len + x.len, cap⟩ (w.drew.alloc (.cells (olds.toArray ++ news.toArray ++ Builtin.zeroCells zs (cap - (s.len + x.len))) elem)))
def World.setO (w : World) (b : Nat) (o : Obj) : World := { w with heap := w.heap.setIfInBounds b o }
def mapPut (es : Array MapEntry) (c : Nat) (key v : Value) (res : Option (Nat × Value)) : Obj := match res with
  | some (i, _) => .map (es.modify i fun e => { e with key, val := v }) c
  | none => .map (es.push { key, val := v, born := c }) (c + 1)
def mapDel (es : Array MapEntry) (c : Nat) (res : Option (Nat × Value)) : Obj := match res with
  | some (i, _) => .map (es.eraseIdxIfInBounds i) c
  | none => .map es c
def MUPD (k : IntKind) (n : Int) (v : Value) (r : Option Nat) (w : World) (K : World -> Prop) : Prop :=
  ∃ b es c res, r = some b /\ w.heap[b]? = some (.map es c) /\ findI k n es res /\ K (World.setO w b (mapPut es c (.int k n) v res))
def MUPA (cs : List Value) (v : Value) (r : Option Nat) (w : World) (K : World -> Prop) : Prop :=
  ∃ b es c res, r = some b /\ w.heap[b]? = some (.map es c) /\ findA cs es.toList 0 = some res /\ K (World.setO w b (mapPut es c (.agg ⟨cs⟩) v res))
def MENT (k : IntKind) (n : Int) (z : Value) (r : Option Nat) (w : World) (K : Value -> Int -> World -> Prop) : Prop :=
  ∃ b es c res, r = some b /\ w.heap[b]? = some (.map es c) /\ findI k n es res /\ match res with
    | some (i, v) => ∃ e, es[i]? = some e /\ K v (e.born : Int) (World.setO w b (.map (es.modify i fun e => { e with key := .int k n }) c))
    | none => K z (c : Int) (World.setO w b (.map (es.push { key := .int k n, val := z, born := c }) (c + 1)))
def ESTO (s : Int) (v : Value) (r : Option Nat) (w : World) (K : World -> Prop) : Prop :=
  ∃ b es c i, r = some b /\ w.heap[b]? = some (.map es c) /\ es.findIdx? (fun e => (e.born : Int) == s) = some i /\ K (World.setO w b (.map (es.modify i fun e => { e with val := v }) c))
def CPY (size : Nat) (d x : SlV) (w : World) (K : Nat -> World -> Prop) : Prop :=
  ∃ vs, rowAt w x.base (Nat.min x.len d.len * size) vs /\ match d.base with
    | none => K (Nat.min x.len d.len) w
    | some a => stCells a 0 vs w fun w' => K (Nat.min x.len d.len) w'
def nanP (t : Nat) : Nat := (t % 2) * 2 ^ 63 + 0x7ff0000000000000 + 1 + (t / 2) % (2 ^ 52 - 1)
def FRES (r : Option Nat) (w : World) (K : Nat -> World -> Prop) : Prop := match r with
  | some b => K b w
  | none => ∀ t, K (nanP t) w.drew
def fArith0 (op : BinOp) (a b : Nat) : Option Nat := match op with
  | .add => FloatKind.f64.format.add a b
  | .sub => FloatKind.f64.format.sub a b
  | .mul => FloatKind.f64.format.mul a b
  | _ => FloatKind.f64.format.div a b
noncomputable def fArith (op : BinOp) (a b : Nat) : Option Nat := hid (fArith0 op a b)
def isArith : BinOp -> Bool
  | .add | .sub | .mul | .quo => true
  | _ => false
def MDEL (k : IntKind) (n : Int) (r : Option Nat) (w : World) (K : World -> Prop) : Prop := match r with
  | none => K w
  | some b => ∃ es c res, w.heap[b]? = some (.map es c) /\ findI k n es res /\ K (World.setO w b (mapDel es c res))
abbrev Calling := FuncId -> Array Value -> World -> (Value -> World -> Prop) -> (Value -> World -> Prop) -> Prop
def noP : Value -> World -> Prop := fun _ _ => False
def Ends (K Kp : Value -> World -> Prop) (e : Ending) (w : World) : Prop :=
  (∃ v, e = .returned v /\ K v w) ∨ (∃ v, e = .panicked [{ v := v, recovered := false }] /\ Kp v w)
theorem Ends.val {K : Value -> World -> Prop} {e : Ending} {w : World} (h : Ends K noP e w) : ∃ v, e = .returned v /\ K v w := by
  rcases h with h | ⟨_, _, f⟩
  · exact h
  · exact f.elim
def DYN (G : Calling) (v : Value) (args : Array Value) (w : World) (K : Value -> World -> Prop) : Prop := match v with
  | .func (.func g) first cap => G g ((first ++ args) ++ cap) w K noP
  | _ => False
def CAL (G : Calling) (g : FuncId) (args : Array Value) (w : World) (K : Value -> World -> Prop) : Prop := G g args w K noP
def exRs (P : Program) : List TypeId -> (List Value -> Prop) -> Prop
  | [], K => K []
  | t :: r, K => ∃ x : VTV (vtP P t), exRs P r fun l => K (mkVT (vtP P t) x :: l)
def exRes (P : Program) (ty : TypeId) (v : Value) (K : Value -> Prop) : Prop := match P.underlying ty with
  | some (.tuple ts) => exRs P ts.toList fun l => v = .tuple ⟨l⟩ /\ K (.tuple ⟨l⟩)
  | _ => ∃ x : VTV (vtP P ty), v = mkVT (vtP P ty) x /\ K (mkVT (vtP P ty) x)
theorem exRs_elim {P : Program} : {ts : List TypeId} -> {K : List Value -> Prop} -> exRs P ts K -> ∃ l, K l
  | [], _, h => ⟨_, h⟩
  | _ :: _, _, ⟨_, h⟩ => let ⟨l, h⟩ := exRs_elim h; ⟨_, h⟩
theorem exRes_elim {P : Program} {ty : TypeId} {v : Value} {K : Value -> Prop} (h : exRes P ty v K) : K v := by
  unfold exRes at h
  split at h
  · obtain ⟨l, rfl, h2⟩ := exRs_elim h; exact h2
  · obtain ⟨x, rfl, h2⟩ := h; exact h2
def leftOf (es : Array MapEntry) (seen : Array Nat) : Array MapEntry := es.filter fun e => !seen.contains e.born
def NEXT (r : Nat) (w : World) (Kn : World -> Prop) (Ks : Value -> Value -> World -> Prop) : Prop :=
  ∃ mo since seen last, w.heap[r]? = some (.mapIter mo since seen last) /\ match mo with
    | none => Kn w
    | some m => ∃ es clock, w.heap[m]? = some (.map es clock) /\ (!seen.isEmpty && !es.isEmpty && es.all (·.born ≥ last)) = false /\
        (∀ w', (w' = w ∨ w' = w.drew) -> ((leftOf es seen).filter (·.born < since)).isEmpty = true -> Kn w') /\
        (∀ w' e, (w' = w ∨ w' = w.drew) -> e ∈ leftOf es seen -> Ks e.key e.val (World.setO w' r (.mapIter (some m) since (seen.push e.born) clock)))
def rngObj (r : Option Nat) (cl : Nat) : Obj := match r with
  | none => .mapIter none 0 #[] 0
  | some m => .mapIter (some m) cl #[] cl
def rngAt (w : World) (r : Option Nat) (cl : Nat) : Prop := match r with
  | none => True
  | some m => ∃ es, w.heap[m]? = some (.map es cl)
def PAN (x : Value) (K : Prop) : Prop := match x with
  | .iface _ _ => K
  | _ => False
theorem PAN_elim {x : Value} {K : Prop} (h : PAN x K) : (∃ t v, x = .iface t v) /\ K := by
  unfold PAN at h
  split at h
  · exact ⟨⟨_, _, rfl⟩, h⟩
  · exact h.elim
def CLR (zs : Array Value) (b : Option Addr) (n : Nat) (w : World) (K : World -> Prop) : Prop := match b with
  | none => K w
  | some a => stCells a 0 (Builtin.zeroCells zs n).toList w K
def evEff (P : Program) (C G : Calling) (o : Op) (ty : TypeId) (ρ : Operand -> Value) (w : World) (K Kp : Value -> World -> Prop) : Prop :=
  match o with
  | .alloc t => match zeroP P t with
    | some z => K (.pointer (some ⟨w.heap.size, 0, none⟩)) (w.alloc (.cells z.cells t))
    | none => False
  | .box t x => K (.pointer (some ⟨w.heap.size, 0, none⟩)) (w.alloc (.cells (ρ x).cells t))
  | .buildSlice t n parts => match P.underlying t with
    | some (.slice e) => szK P e fun z => leK (n * z) 4096 (match zeroP P e with
      | some zv => evFill (fun i => some (i * z, z)) ((parts.map fun (i, x) => (i, ρ x)).toList) (mkZero zv.cells (n * z)).toList fun l =>
          K (.slice (some ⟨w.heap.size, 0, none⟩) n n) (w.alloc (.cells ⟨l⟩ e))
      | none => False)
    | _ => False
  | .store t a x => match ρ a with
    | .pointer p => NC p fun p => szZ P t fun n => lenK (ρ x).cells.toList.length n (stCells p 0 (ρ x).cells.toList w fun w' => K undef w')
    | _ => False
  | .range t x => match P.underlying t with
    | some (.map _ _) => match ρ x with
      | .map r => ∃ cl, rngAt w r cl /\ K (.pointer (some ⟨w.heap.size, 0, none⟩)) (w.alloc (rngObj r cl))
      | _ => False
    | _ => False
  | .next it false => match ρ it with
    | .pointer (some ⟨r, 0, _⟩) => NEXT r w (fun w' => K (.tuple #[.bool false]) w') fun k v w' => K (.tuple #[.bool true, k, v]) w'
    | _ => False
  | .makeMap _ none => K (.map (some w.heap.size)) (w.alloc (.map #[] 0))
  | .makeSlice t l c => match P.underlying t with
    | some (.slice e) => szK P e fun z => match zeroP P e with
      | some zv => match ρ l with
        | .int .i64 l => match ρ c with
          | .int .i64 c => (0 <= l /\ l <= c /\ c < 9223372036854775808 /\ (P.bytesOf e : Int) * c <= 140737488355328) /\
              K (.slice (some ⟨w.heap.size, 0, none⟩) l.toNat c.toNat) (w.alloc (.cells (mkZero zv.cells (c.toNat * z)) e))
          | _ => False
        | _ => False
      | none => False
    | _ => False
  | .mapUpdate t m k x | .insert t m k x => match P.underlying t with
    | some (.map kt _) => match P.underlying kt with
      | some (.int kk) => match ρ k with
        | .int k' n => sameK kk k' (match ρ m with
          | .map r => MUPD kk n (ρ x) r w fun w' => K undef w'
          | _ => False)
        | _ => False
      | some (.struct fs) => match ρ k with
        | .agg cs => match P.stoodInHeld kt with
          | false => keyK P 0 fs.toList cs.toList (match ρ m with
            | .map r => MUPA cs.toList (ρ x) r w fun w' => K undef w'
            | _ => False)
          | true => False
        | _ => False
      | _ => False
    | _ => False
  | .mapEntry t m k => match P.underlying t with
    | some (.map kt et) => match P.underlying kt with
      | some (.int kk) => match ρ k with
        | .int k' n => sameK kk k' (match ρ m with
          | .map r => match zeroP P et with
            | some z => MENT kk n z r w fun v s w' => K (.tuple #[v, .int .i64 s]) w'
            | none => False
          | _ => False)
        | _ => False
      | _ => False
    | _ => False
  | .entryStore _ m s x => match ρ s with
    | .int _ s => match ρ m with
      | .map r => ESTO s (ρ x) r w fun w' => K undef w'
      | _ => False
    | _ => False
  | .binOp op _ x y _ => match isArith op with
    | true => match ρ x with
      | .float k a => match ρ y with
        | .float k' b => dblK k (dblK k' (FRES (fArith op a b) w fun r w' => K (.float .f64 r) w'))
        | _ => False
      | _ => False
    | false => False
  | .call c => match c.callee with
    | .value (.func g) => C g (c.args.map ρ) w K Kp
    | .value f => DYN G (ρ f) (c.args.map ρ) w fun v w' => exRes P ty v fun v => K v w'
    | .builtin .append => match c.args.toList, c.argTypes.toList with
      | [s, x], [ts, tx] => match P.underlying ts with
        | some (.slice e) => match P.underlying tx with
          | some (.slice _) => szK P e fun z => match zeroP P e with
            | some zv => match ρ s with
              | .slice sb sl sc => match ρ x with
                | .slice xb xl xc => APP e z (P.bytesOf e) zv.cells ⟨sb, sl, sc⟩ ⟨xb, xl, xc⟩ w fun r w' => K (.slice r.base r.len r.cap) w'
                | _ => False
              | _ => False
            | none => False
          | _ => False
        | _ => False
      | _, _ => False
    | .builtin .copy => match c.args.toList, c.argTypes.toList with
      | [d, x], t :: _ => match P.underlying t with
        | some (.slice e) => szK P e fun z => match ρ d with
          | .slice db dl dc => match ρ x with
            | .slice xb xl xc => CPY z ⟨db, dl, dc⟩ ⟨xb, xl, xc⟩ w fun n w' => K (.int .i64 n) w'
            | _ => False
          | _ => False
        | _ => False
      | _, _ => False
    | .builtin .delete => match c.args.toList, c.argTypes.toList with
      | [m, k], t :: _ => match P.underlying t with
        | some (.map kt _) => match P.underlying kt with
          | some (.int kk) => match ρ k with
            | .int k' n => sameK kk k' (match ρ m with
              | .map r => MDEL kk n r w fun w' => K (.tuple #[]) w'
              | _ => False)
            | _ => False
          | _ => False
        | _ => False
      | _, _ => False
    | .builtin .clear => match c.args.toList, c.argTypes.toList with
      | [x], [t] => match P.underlying t with
        | some (.slice e) => match zeroP P e with
          | some zv => match ρ x with
            | .slice b n _ => CLR zv.cells b n w fun w' => K (.tuple #[]) w'
            | _ => False
          | none => False
        | _ => False
      | _, _ => False
    | .builtin .panic => match c.args.toList with
      | [x] => PAN (ρ x) (Kp (ρ x) w)
      | _ => False
    | _ => False
  | .panic x => PAN (ρ x) (Kp (ρ x) w)
  | _ => False
def Goes (P : Program) (r : Result Next) (K Kp : Value -> World -> Prop) : Prop := match r with
  | .ok (.value v) w => K v w
  | .ok .skip w => K undef w
  | .ok (.enter f args) w => Calls P f args w (Ends K Kp)
  | .halt (.panic v) w => Kp v w
  | _ => False
theorem stCells_elim {P : Program} {p : Addr} : {vs : List Value} -> {i : Nat} -> {w : World} -> {K : World -> Prop} -> stCells p i vs w K ->
    ∃ w', K w' /\ (storeCells p vs i).run P w = .ok () w'
  | [], i, w, K, h => ⟨w, h, by simp [storeCells]⟩
  | v :: r, i, w, K, h => by
    obtain ⟨⟨⟨u, hu⟩, hf, ho⟩, h⟩ := h
    obtain ⟨w', hK, hr⟩ := stCells_elim (P := P) h
    exact ⟨w', hK, by simp [storeCells, run_store P w _ v .plain ho, hu, hf, hr]⟩
theorem run_first {P : Program} {w : World} {b : Option Addr} {n size len cap : Nat} {l : List Value} (h : rowAt w b (n * size) l) :
    (Builtin.firstCells size n (.slice b len cap)).run P w = .ok l.toArray w := by
  cases b with
  | none => have : l = [] := h; subst this; simp [Builtin.firstCells]
  | some a => exact run_firstCells_some w size n a len cap l h.1 h.2
theorem rowAt_drew {w : World} {b : Option Addr} {n : Nat} {l : List Value} (h : rowAt w b n l) : rowAt w.drew b n l := by
  cases b with
  | none => exact h
  | some a => exact ⟨h.1, fun j v hj => by simpa using h.2 j v hj⟩
theorem APP_sound {P : Program} {e z ts tx ty : Nat} {zv : Value} {sb xb : Option Addr} {sl sc xl xc : Nat} {w : World} {K : SlV -> World -> Prop}
    (hts : P.underlying ts = some (.slice e)) (htx : ∃ e', P.underlying tx = some (.slice e')) (hz : ∀ w, (sizeOf e).run P w = .ok z w) (hzv : zeroP P e = some zv)
    (h : APP e z (P.bytesOf e) zv.cells ⟨sb, sl, sc⟩ ⟨xb, xl, xc⟩ w K) :
    ∃ r w', K r w' /\ (Builtin.append_ #[ts, tx] ty #[.slice sb sl sc, .slice xb xl xc]).run P w = .ok (.slice r.base r.len r.cap) w' := by
  obtain ⟨news, hn, hroom, hgrow⟩ := h
  obtain ⟨e', htx⟩ := htx
  simp only at hroom hgrow hn
  obtain ⟨i, hi⟩ : ∃ i, P.info? e = some i := by
    cases hi : P.info? e with
    | none => simp [zeroP, hi] at hzv
    | some i => exact ⟨i, rfl⟩
  have hby : i.bytes = P.bytesOf e := by simp [Program.bytesOf, hi]
  have hzz := run_zeroP hzv
  by_cases hc : sl + xl <= sc
  · have h1 := hroom hc
    have hf := run_first (P := P) (len := xl) (cap := xc) hn
    cases sb with
    | none => exact ⟨_, _, h1, by simp [Builtin.append_, run_und hts, run_und htx, hz, Builtin.lenOf, hc, hf]⟩
    | some a =>
      obtain ⟨w', hK, hr⟩ := stCells_elim (P := P) h1
      refine ⟨_, _, hK, by simp [Builtin.append_, run_und hts, run_und htx, hz, Builtin.lenOf, hc, hf, hr]⟩
  · obtain ⟨hb, h63, olds, ho, hK⟩ := hgrow (by omega)
    have hfit := growslice_fits (bytes := i.bytes) (by omega : sc < sl + xl) (by rw [hby]; exact hb)
    have h48' : ¬ (281474976710656 < Builtin.nextslicecap (sl + xl) sc * i.bytes) := by omega
    have h63' : ¬ (9223372036854775807 < ((sl : Int) + (xl : Int))) := by omega
    have hf := run_first (P := P) (len := xl) (cap := xc) (rowAt_drew hn)
    have hfo := run_first (P := P) (len := sl) (cap := sc) (rowAt_drew ho)
    have hk := hK (grownCap w (sl + xl) sc e) (grownCap_ge w _ _ _) (by
      have := grownCap_le_maxLen w (sl + xl) sc e (by simpa [maxLen] using h63)
      simp only [maxLen] at this; omega)
    refine ⟨_, _, hk, ?_⟩
    simp [Builtin.append_, run_und hts, run_und htx, hz, typeInfo, hi, hzz, Builtin.lenOf, hc, h63', h48', Question.forced, hf, hfo, newRow, grownCap]
    congr 2
    apply Array.ext'
    simp [List.append_assoc]
theorem findNow_ge (kd : TypeDesc) (key : Value) : ∀ (es : List MapEntry) (j i : Nat) (v : Value), Instr.findNow kd key es j = some (some (i, v)) -> j <= i
  | [], j, i, v, h => by simp [Instr.findNow] at h
  | e :: r, j, i, v, h => by
    simp only [Instr.findNow] at h
    split at h
    · simp at h; omega
    · have := findNow_ge kd key r (j + 1) i v h; omega
    · simp at h
theorem findNow_at (k : IntKind) (n : Int) : ∀ (es : List MapEntry) (j i : Nat) (v : Value), Instr.findNow (.int k) (.int k n) es j = some (some (i, v)) ->
    ∃ e, es[i - j]? = some e /\ e.key = .int k n /\ e.val = v
  | [], j, i, v, h => by simp [Instr.findNow] at h
  | e :: r, j, i, v, h => by
    simp only [Instr.findNow] at h
    split at h
    · rename_i hs
      simp at h
      obtain ⟨rfl, rfl⟩ := h
      refine ⟨e, by simp, ?_, rfl⟩
      unfold Instr.sameNow at hs
      split at hs
      · rename_i a k' b _ he
        split at hs
        · rename_i hk
          simp at hs
          simp_all
        · simp at hs
      · rename_i h1 h2 h3; simp at h1
      · rename_i h1 h2 h3; simp at h1
      · simp at hs
    · obtain ⟨e', he, h1, h2⟩ := findNow_at k n r (j + 1) i v h
      have := findNow_ge _ _ _ _ _ _ h
      refine ⟨e', ?_, h1, h2⟩
      rw [show i - j = (i - (j + 1)) + 1 from by omega]
      simpa using he
    · simp at h
theorem run_setObj {P : Program} {w : World} {b : Nat} {es : Array MapEntry} {c : Nat} (h : w.heap[b]? = some (.map es c)) (o : Obj) :
    (setObj b o).run P w = .ok () (World.setO w b o) := by
  simp [setObj, Sem.run, h, World.setO]
theorem run_stays {P : Program} {k : IntKind} {n : Int} (w : World) : (Instr.keyThatStays (.int k n) (.int k n)).run P w = .ok (.int k n) w := by
  have : Instr.sameBits 10000 (.int k n) (.int k n) = true := by
    rw [show (10000 : Nat) = 9999 + 1 from rfl]
    cases k <;> simp [Instr.sameBits]
  simp [Instr.keyThatStays, this]
theorem run_mapUpdate {P : Program} {t kt et : TypeId} {k : IntKind} {n : Int} {v : Value} {r : Option Nat} {w : World} {K : World -> Prop}
    (ht : P.underlying t = some (.map kt et)) (hk : P.underlying kt = some (.int k)) (h : MUPD k n v r w K) :
    ∃ w', K w' /\ (Instr.mapUpdate t (.map r) (.int k n) v).run P w = .ok () w' := by
  obtain ⟨b, es, c, res, rfl, hb, hf, hK⟩ := h
  refine ⟨_, hK, ?_⟩
  have hfk := run_findKey hk hf w
  simp only [Instr.mapUpdate, Sem.run_bind, run_und ht, Result.andThen_ok, run_getMap hb, run_checkKey hk, hfk]
  cases res with
  | none => simp [run_setObj hb, mapPut]
  | some q =>
    obtain ⟨i, u⟩ := q
    obtain ⟨e, he, h1, _⟩ := findNow_at k n es.toList 0 i u hf
    have he' : es[i]? = some e := by simpa using he
    simp [he', h1, run_stays, run_setObj hb, mapPut]
theorem run_delete {P : Program} {t kt et ty : TypeId} {k : IntKind} {n : Int} {r : Option Nat} {w : World} {K : World -> Prop} {ts : Array TypeId} (hts : ts[0]? = some t)
    (ht : P.underlying t = some (.map kt et)) (hk : P.underlying kt = some (.int k)) (h : MDEL k n r w K) :
    ∃ w', K w' /\ (Builtin.delete_ ts ty #[.map r, .int k n]).run P w = .ok (.tuple #[]) w' := by
  cases r with
  | none => exact ⟨w, h, by simp [Builtin.delete_, hts, run_und ht, run_checkKey hk]⟩
  | some b =>
    obtain ⟨es, c, res, hb, hf, hK⟩ := h
    refine ⟨_, hK, ?_⟩
    have hfk := run_findKey hk hf w
    simp only [Builtin.delete_, hts, List.getElem?_toArray, List.getElem?_cons_zero, List.getElem?_cons_succ, Sem.run_bind, run_und ht, Result.andThen_ok, run_getMap hb, run_checkKey hk, hfk]
    cases res with
    | none => simp [run_setObj hb, mapDel]
    | some q => obtain ⟨i, u⟩ := q; simp [run_setObj hb, mapDel]
def Fits (P : Program) (C : Calling) : Prop := ∀ g args w K Kp, C g args w K Kp ->
  ((∀ w, (callFunc g args).run P w = .ok (.enter g args) w) /\ Calls P g args w (Ends K Kp)) ∨ ∃ v w', (callFunc g args).run P w = .ok (.value v) w' /\ K v w'
theorem eqA_eq : ∀ {l m : List Value}, eqA l m = some true -> l = m
  | [], [], _ => rfl
  | [], _ :: _, h => by simp [eqA] at h
  | v :: l, m, h => by
    cases v <;> cases m <;> try (simp [eqA] at h; done)
    all_goals (rename_i u m; cases u <;> try (simp [eqA] at h; done))
    · unfold eqA at h
      rename_i a b
      cases hab : (a == b)
      · rw [hab] at h; cases h
      · rw [hab] at h
        rw [eqA_eq h, (by simpa using hab : a = b)]
    · unfold eqA at h
      split at h
      · rename_i k a k' b _ ek
        have ek := ik_inj (Nat.eq_of_beq_eq_true ek)
        cases hab : (a == b)
        · rw [hab] at h; cases h
        · rw [hab] at h
          rw [eqA_eq h, ek, (by simpa using hab : a = b)]
      · cases h
theorem eqA_same (n : Nat) : ∀ {l m : List Value}, eqA l m = some true -> ((l.zip l).all fun (x, y) => Instr.sameBits n x y) = true
  | [], _, _ => rfl
  | v :: l, m, h => by
    cases v <;> cases m <;> try (simp [eqA] at h; done)
    all_goals (rename_i u m; cases u <;> try (simp [eqA] at h; done))
    · unfold eqA at h
      rename_i a b
      cases hab : (a == b)
      · rw [hab] at h; cases h
      · rw [hab] at h
        simp only [List.zip_cons_cons, List.all_cons, eqA_same n h, Bool.and_true]
        cases n <;> simp [Instr.sameBits]
    · unfold eqA at h
      split at h
      · rename_i k a k' b _ ek
        cases hab : (a == b)
        · rw [hab] at h; cases h
        · rw [hab] at h
          simp only [List.zip_cons_cons, List.all_cons, eqA_same n h, Bool.and_true]
          cases n <;> simp [Instr.sameBits]
      · cases h
theorem findA_at (cs : List Value) : ∀ (es : List MapEntry) (j i : Nat) (v : Value), findA cs es j = some (some (i, v)) -> ∃ e ds, es[i - j]? = some e /\ j <= i /\ e.key = .agg ds /\ eqA cs ds.toList = some true
  | [], j, i, v, h => by simp [findA] at h
  | e :: es, j, i, v, h => by
    unfold findA at h
    split at h
    · rename_i ds hd
      split at h
      · rename_i he
        cases h
        exact ⟨e, ds, by simp, Nat.le_refl _, hd, he⟩
      · obtain ⟨e', ds', h1, h2, h3, h4⟩ := findA_at cs es (j + 1) i v h
        refine ⟨e', ds', ?_, by omega, h3, h4⟩
        rw [show i - j = (i - (j + 1)) + 1 by omega]
        simpa using h1
      · cases h
    · cases h
theorem run_mapUpdateA {P : Program} {t kt et : TypeId} {fs : Array Field} {cs : Array Value} {v : Value} {r : Option Nat} {w : World} {K : World -> Prop}
    (ht : P.underlying t = some (.map kt et)) (hk : P.underlying kt = some (.struct fs)) (hp : P.stoodInHeld kt = false) (hkk : keyK P 0 fs.toList cs.toList True) (h : MUPA cs.toList v r w K) :
    ∃ w', K w' /\ (Instr.mapUpdate t (.map r) (.agg cs) v).run P w = .ok () w' := by
  obtain ⟨b, es, c, res, rfl, hb, hf, hK⟩ := h
  refine ⟨_, hK, ?_⟩
  have hfk := run_findKeyA hk hp hkk hf w
  simp only [Instr.mapUpdate, Sem.run_bind, run_und ht, Result.andThen_ok, run_getMap hb, run_checkKeyA hk hkk, hfk]
  cases res with
  | none => simp [run_setObj hb, mapPut]
  | some q =>
    obtain ⟨i, u⟩ := q
    obtain ⟨e, ds, he, _, h1, h2⟩ := findA_at cs.toList es.toList 0 i u hf
    have he' : es[i]? = some e := by simpa using he
    have hds : cs = ds := Array.toList_inj.1 (eqA_eq h2)
    subst hds
    have hst : (Instr.keyThatStays (.agg cs) (.agg cs)).run P w = .ok (.agg cs) w := by
      have : Instr.sameBits 10000 (.agg cs) (.agg cs) = true := by
        rw [Instr.sameBits]
        simp only [beq_self_eq_true, Bool.true_and]
        exact eqA_same 9999 h2
      simp [Instr.keyThatStays, this]
    simp [he', h1, hst, run_setObj hb, mapPut]
theorem run_setIter {P : Program} {w : World} {b : Nat} {mo : Option Nat} {s l : Nat} {sn : Array Nat} (h : w.heap[b]? = some (.mapIter mo s sn l)) (o : Obj) :
    (setObj b o).run P w = .ok () (World.setO w b o) := by
  simp [setObj, Sem.run, h, World.setO]
theorem next_goes {P : Program} {dst : Option Tmp} {it : Operand} {type : TypeId} {pos : String} {after : Array Edge} {guard : Option (Nat × Bool)} {ρ : Operand -> Value} {w : World} {r m since last clock : Nat} {sp : Option Nat}
    {seen : Array Nat} {es : Array MapEntry} {K Kp : Value -> World -> Prop} (hx : ρ it = .pointer (some ⟨r, 0, sp⟩)) (hr : w.heap[r]? = some (.mapIter (some m) since seen last)) (hm : w.heap[m]? = some (.map es clock))
    (hweird : (!seen.isEmpty && !es.isEmpty && es.all (·.born ≥ last)) = false)
    (hn : ∀ w', (w' = w ∨ w' = w.drew) -> ((leftOf es seen).filter (·.born < since)).isEmpty = true -> K (.tuple #[.bool false]) w')
    (hs : ∀ w' e, (w' = w ∨ w' = w.drew) -> e ∈ leftOf es seen -> K (.tuple #[.bool true, e.key, e.val]) (World.setO w' r (.mapIter (some m) since (seen.push e.born) clock))) :
    Goes P ((execOp ρ ⟨dst, .next it false, type, pos, after, guard⟩).run P w) K Kp := by
  have hgr : (getObj r).run P w = .ok (.mapIter (some m) since seen last) w := by simp [getObj, Sem.run, hr]
  have hgm := run_getMap (P := P) hm
  simp only [execOp, Instr.next, hx, Sem.run_bind, hgr, Result.andThen_ok, hgm, hweird, Bool.false_eq_true, if_false]
  obtain ⟨left, hleft⟩ : ∃ left, left = leftOf es seen := ⟨_, rfl⟩
  rw [<- hleft] at hn hs
  have hl : (es.filter fun e => !seen.contains e.born) = left := hleft.symm
  simp only [hl]
  obtain ⟨old, hold⟩ : ∃ old, old = left.filter (fun x => decide (x.born < since)) := ⟨_, rfl⟩
  obtain ⟨nu, hnu⟩ : ∃ nu, nu = left.filter (fun x => decide (x.born ≥ since)) := ⟨_, rfl⟩
  rw [<- hold] at hn
  simp only [<- hold, <- hnu]
  obtain ⟨cands, hcands⟩ : ∃ cands, cands = ((if old.isEmpty = true then #[none] else #[]) ++ Array.map some (old ++ nu) : Array (Option MapEntry)) := ⟨_, rfl⟩
  simp only [<- hcands]
  have hsz : 0 < cands.size := by
    rw [hcands]
    by_cases ho : old.isEmpty = true
    · simp [ho]; omega
    · simp [ho]
      have : old.size ≠ 0 := fun e => ho (by simpa [Array.isEmpty] using e)
      omega
  have hch : ∃ idx w', (w' = w ∨ w' = w.drew) /\ (choose (.mapNext cands.size)).run P w = .ok idx w' /\ idx < cands.size := by
    rw [run_choose]
    by_cases hf : Question.forced (.mapNext cands.size) = true
    · exact ⟨0, w, .inl rfl, by simp [hf], hsz⟩
    · exact ⟨_, _, .inr rfl, by rw [if_neg hf]; rfl, Nat.mod_lt _ hsz⟩
  obtain ⟨idx, w', hw', hrun, hlt⟩ := hch
  rw [hrun]
  simp only [Result.andThen_ok]
  have hmem : cands[idx]? = some cands[idx] := Array.getElem?_eq_getElem hlt
  rw [hmem]
  cases hc : cands[idx] with
  | none =>
    have hold' : old.isEmpty = true := by
      by_cases ho : old.isEmpty = true
      · exact ho
      · exfalso
        have hin : (none : Option MapEntry) ∈ cands := by rw [<- hc]; exact Array.getElem_mem hlt
        rw [hcands] at hin
        simp [ho] at hin
    simp only [Sem.run_pure, Result.andThen_ok, Goes]
    exact hn w' hw' hold'
  | some e =>
    have hin : some e ∈ cands := by rw [<- hc]; exact Array.getElem_mem hlt
    have hel : e ∈ left := by
      rw [hcands] at hin
      simp only [Array.mem_append, Array.mem_map] at hin
      rcases hin with hin | ⟨e', hin, he⟩
      · by_cases ho : old.isEmpty = true <;> simp [ho] at hin
      · cases he
        rcases hin with hin | hin
        · rw [hold] at hin; exact (Array.mem_filter.1 hin).1
        · rw [hnu] at hin; exact (Array.mem_filter.1 hin).1
    have hr' : w'.heap[r]? = some (.mapIter (some m) since seen last) := by
      rcases hw' with rfl | rfl <;> exact hr
    simp only [Sem.run_bind, run_setIter hr', Result.andThen_ok, Sem.run_pure, Goes]
    exact hs w' e hw' hel
theorem evEff_sound {P : Program} {C G : Calling} (hC : Fits P C) (hG : Fits P G) {o : Oper} {ρ : Operand -> Value} {w : World} {K Kp : Value -> World -> Prop} (hρ : ∀ g, ρ (.func g) = .func (.func g) #[] #[])
    (h : evEff P C G o.op o.type ρ w K Kp) : Goes P ((execOp ρ o).run P w) K Kp := by
  obtain ⟨dst, op, type, pos, after, guard⟩ := o
  simp only at h
  unfold evEff at h
  split at h
  case h_1 =>
    split at h
    · rename_i z hz
      simpa [execOp, Instr.alloc, run_zeroP hz, newVar, newRow, Goes] using h
    · exact h.elim
  case h_2 => simpa [execOp, Instr.box, newVar, newRow, Goes] using h
  case h_3 =>
    split at h
    · rename_i t n parts _ e ht
      obtain ⟨z, h, hz0, _, hr⟩ := szK_elim h
      obtain ⟨hle, h⟩ := leK_elim h
      split at h
      · rename_i zv hz
        obtain ⟨out, hK, hf⟩ := evFill_elim h
        have hle' : ¬ (16777216 < n * z) := Nat.not_lt.2 (Nat.le_trans hle (by decide))
        by_cases hn : n = 0
        · subst hn
          simp [mkZero, Array.range_zero'] at hf
          simp [execOp, Instr.buildSlice, run_und ht, hr, hf, newRow, Goes, Array.range_zero']
          exact hK
        · have hnz : ¬ (n * z = 0) := Nat.mul_ne_zero hn hz0
          simp [mkZero] at hf
          simp [execOp, Instr.buildSlice, run_und ht, hr, hle', hnz, run_zeroP hz, hf, newRow, Goes]
          exact hK
      · exact h.elim
    · exact h.elim
  case h_4 =>
    split at h
    · rename_i hx
      obtain ⟨p, rfl, h2⟩ := NC_elim h
      obtain ⟨n, h3, hn, hr⟩ := szZ_elim h2
      obtain ⟨hl, h4⟩ := lenK_elim h3
      obtain ⟨w', hK, hst⟩ := stCells_elim (P := P) h4
      have hl' := hl
      rw [Array.length_toList] at hl'
      simp [execOp, Instr.storeAt, hx, Instr.sureAddr, storeVar, hr, hl', hst, Goes, hK]
    · exact h.elim
  case h_5 =>
    split at h
    · rename_i ht
      split at h
      · rename_i r hx
        obtain ⟨cl, hr, hK⟩ := h
        cases r with
        | none => simpa [execOp, Instr.range, run_und ht, hx, Goes, rngObj] using hK
        | some m =>
          obtain ⟨es, hm⟩ := hr
          simpa [execOp, Instr.range, run_und ht, hx, run_getMap hm, Goes, rngObj] using hK
      · exact h.elim
    · exact h.elim
  case h_6 =>
    split at h
    · rename_i r sp hx
      obtain ⟨mo, since, seen, last, hr, h⟩ := h
      have hgr : (getObj r).run P w = .ok (.mapIter mo since seen last) w := by simp [getObj, Sem.run, hr]
      cases mo with
      | none =>
        simp [execOp, Instr.next, hx, hgr, Goes]
        exact h
      | some m =>
        obtain ⟨es, clock, hm, hweird, hn, hs⟩ := h
        exact next_goes hx hr hm hweird hn hs
    · exact h.elim
  case h_7 => simpa [execOp, Instr.makeMap, Goes] using h
  case h_8 =>
    split at h
    · rename_i e ht
      obtain ⟨z, h, hz0, _, hr⟩ := szK_elim h
      split at h
      · rename_i zv hz
        split at h
        · rename_i l hl
          split at h
          · rename_i c hc
            obtain ⟨⟨h0, h1, h2, h3⟩, hK⟩ := h
            obtain ⟨i, hi⟩ : ∃ i, P.info? e = some i := by
              cases hi : P.info? e with
              | none => simp [zeroP, hi] at hz
              | some i => exact ⟨i, rfl⟩
            have hby : P.bytesOf e = i.bytes := by simp [Program.bytesOf, hi]
            rw [hby] at h3
            have hl0 : 0 <= l := h0
            have w1 : IntKind.i64.wrap l = l := IntWalk.i64_in l (by omega)
            have w2 : IntKind.i64.wrap c = c := IntWalk.i64_in c (by omega)
            have t1 : ¬ (c < 0) := by omega
            have t2 : ¬ (l < 0) := by omega
            have t3 : ¬ (c < l) := by omega
            have t4 : ¬ (281474976710656 < (i.bytes : Int) * c) := by omega
            by_cases hcz : c.toNat * z = 0
            · have : c.toNat = 0 := by rcases Nat.mul_eq_zero.1 hcz with h | h <;> omega
              simp [mkZero, hcz, Array.range_zero'] at hK
              simp [execOp, Instr.makeSlice, run_und ht, hl, hc, asInt, asIntOf, typeInfo, hi, w1, w2, t1, t2, t3, t4, hr, hcz, newRow, Goes, Array.range_zero']
              exact hK
            · have hcz' : ¬ (c.toNat * z = 0) := hcz
              simp [mkZero] at hK
              simp [execOp, Instr.makeSlice, run_und ht, hl, hc, asInt, asIntOf, typeInfo, hi, w1, w2, t1, t2, t3, t4, hr, hcz', run_zeroP hz, newRow, Goes]
              exact hK
          · exact h.elim
        · exact h.elim
      · exact h.elim
    · exact h.elim
  case h_9 =>
    split at h
    · rename_i ht
      split at h
      · rename_i hk
        split at h
        · rename_i hkey
          obtain ⟨rfl, h2⟩ := sameK_elim h
          split at h2
          · rename_i hm
            obtain ⟨w', hK, hr⟩ := run_mapUpdate ht hk h2
            simpa [execOp, hkey, hm, hr, Goes] using hK
          · exact h2.elim
        · exact h.elim
      · rename_i hk
        split at h
        · rename_i hkey
          split at h
          · rename_i hp
            obtain ⟨h2, hkk⟩ := keyK_elim h
            split at h2
            · rename_i hm
              obtain ⟨w', hK, hr⟩ := run_mapUpdateA ht hk hp hkk h2
              simpa [execOp, hkey, hm, hr, Goes] using hK
            · exact h2.elim
          · exact h.elim
        · exact h.elim
      · exact h.elim
    · exact h.elim
  case h_10 =>
    split at h
    · rename_i ht
      split at h
      · rename_i hk
        split at h
        · rename_i hkey
          obtain ⟨rfl, h2⟩ := sameK_elim h
          split at h2
          · rename_i hm
            obtain ⟨w', hK, hr⟩ := run_mapUpdate ht hk h2
            simpa [execOp, hkey, hm, hr, Goes] using hK
          · exact h2.elim
        · exact h.elim
      · rename_i hk
        split at h
        · rename_i hkey
          split at h
          · rename_i hp
            obtain ⟨h2, hkk⟩ := keyK_elim h
            split at h2
            · rename_i hm
              obtain ⟨w', hK, hr⟩ := run_mapUpdateA ht hk hp hkk h2
              simpa [execOp, hkey, hm, hr, Goes] using hK
            · exact h2.elim
          · exact h.elim
        · exact h.elim
      · exact h.elim
    · exact h.elim
  case h_11 =>
    split at h
    · rename_i ht
      split at h
      · rename_i hk
        split at h
        · rename_i hkey
          obtain ⟨hkk, h2⟩ := sameK_elim h
          subst hkk
          split at h2
          · rename_i hm
            split at h2
            · rename_i z hz
              obtain ⟨b, es, c, res, rfl, hb, hf, hK⟩ := h2
              have hfk := run_findKey hk hf w
              cases res with
              | none =>
                simp [execOp, hkey, hm, Instr.mapEntry, run_und ht, run_getMap hb, run_checkKey hk, hfk, run_zeroP hz, run_setObj hb, goInt, Goes]
                exact hK
              | some q =>
                obtain ⟨i, u⟩ := q
                obtain ⟨e, he, hK⟩ := hK
                obtain ⟨e', he', h1, _⟩ := findNow_at _ _ es.toList 0 i u hf
                have he'' : es[i]? = some e' := by simpa using he'
                have hee : e' = e := by rw [he] at he''; exact (Option.some.inj he'').symm
                subst hee
                simp [execOp, hkey, hm, Instr.mapEntry, run_und ht, run_getMap hb, run_checkKey hk, hfk, he, h1, run_stays, run_setObj hb, goInt, Goes]
                exact hK
            · exact h2.elim
          · exact h2.elim
        · exact h.elim
      · exact h.elim
    · exact h.elim
  case h_12 =>
    split at h
    · rename_i hs
      split at h
      · rename_i hm
        obtain ⟨b, es, c, i, rfl, hb, hi, hK⟩ := h
        simp [execOp, hs, hm, Instr.entryStore, run_getMap hb, asInt, asIntOf, hi, run_setObj hb, Goes]
        exact hK
      · exact h.elim
    · exact h.elim
  case h_13 op t x y _ =>
    split at h
    · rename_i hop
      split at h
      · rename_i hx
        split at h
        · rename_i hy
          obtain ⟨e1, h1⟩ := dblK_elim h
          obtain ⟨e2, h2⟩ := dblK_elim h1
          clear h h1
          subst e1; subst e2
          have hg : (eqGuard op t x y (ρ x) (ρ y)).run P w = .ok () w := by
            unfold eqGuard
            cases op <;> first | (simp [isArith] at hop; done) | simp
          unfold FRES at h2
          split at h2
          · rename_i r hr
            cases op <;> first | (simp [isArith] at hop; done) | (simp only [fArith, hid_eq, fArith0] at hr; simp [execOp, hx, hy] at hg ⊢; simp [hg, binOp, Op.floatArith, hr, Goes]; exact h2)
          · rename_i hr
            cases op <;> first | (simp [isArith] at hop; done) | (simp only [fArith, hid_eq, fArith0] at hr; simp [execOp, hx, hy] at hg ⊢; simp [hg, binOp, Op.floatArith, hr, Goes, Question.forced]; exact h2 _)
        · exact h.elim
      · exact h.elim
    · exact h.elim
  case h_14 c =>
    obtain ⟨callee, args, argTypes⟩ := c
    simp only at h
    split at h
    · simp [execOp, resolve, hρ, Deferred.ofValue, invoke]
      rcases hC _ _ _ _ _ h with ⟨h1, h2⟩ | ⟨v, w', h1, h2⟩
      · simpa [h1, Goes] using h2
      · simpa [h1, Goes] using h2
    · unfold DYN at h
      split at h
      · rename_i hf
        simp [execOp, resolve, hf, Deferred.ofValue, invoke]
        rcases hG _ _ _ _ _ h with ⟨h1, h2⟩ | ⟨v, w', h1, h2⟩
        · simp at h1 h2
          simp only [h1, Result.andThen_ok, Goes]
          refine h2.mono ?_
          intro e w' hE
          obtain ⟨v, rfl, hv⟩ := hE.val
          exact .inl ⟨v, rfl, exRes_elim hv⟩
        · simp at h1
          simp only [h1, Result.andThen_ok, Goes]
          exact exRes_elim h2
      · exact h.elim
    · split at h
      · rename_i ha hT
        have ha' : args = #[_, _] := Array.toList_inj.1 (by simpa using ha)
        have hT' : argTypes = #[_, _] := Array.toList_inj.1 (by simpa using hT)
        subst ha'
        subst hT'
        split at h
        · rename_i ht
          split at h
          · rename_i htx
            obtain ⟨z, h, hz0, _, hr⟩ := szK_elim h
            split at h
            · rename_i zv hz
              split at h
              · rename_i hs
                split at h
                · rename_i hx
                  obtain ⟨r, w', hK, hrun⟩ := APP_sound (ty := type) ht ⟨_, htx⟩ hr hz h
                  simpa [execOp, resolve, invoke, builtin, hs, hx, hrun, Goes] using hK
                · exact h.elim
              · exact h.elim
            · exact h.elim
          · exact h.elim
        · exact h.elim
      · exact h.elim
    · split at h
      · rename_i ha hT
        have ha' : args = #[_, _] := Array.toList_inj.1 (by simpa using ha)
        subst ha'
        split at h
        · rename_i ht
          obtain ⟨z, h, hz0, _, hr⟩ := szK_elim h
          split at h
          · rename_i hd
            split at h
            · rename_i hx
              have hts := congrArg (fun l : List TypeId => l[0]?) hT
              simp only [Array.getElem?_toList, List.getElem?_cons_zero] at hts
              obtain ⟨vs, hrow, h⟩ := h
              have hf := fun len cap => run_first (P := P) (w := w) (len := len) (cap := cap) hrow
              split at h
              · rename_i hb
                simp only at hb
                subst hb
                simp only at hf
                simpa [execOp, resolve, invoke, builtin, Builtin.copy_, hts, hd, hx, run_und ht, hr, Builtin.lenOf, hf, goInt, Goes] using h
              · rename_i a hb
                simp only at hb
                subst hb
                simp only at hf
                obtain ⟨w', hK, hst⟩ := stCells_elim (P := P) h
                simpa [execOp, resolve, invoke, builtin, Builtin.copy_, hts, hd, hx, run_und ht, hr, Builtin.lenOf, hf, hst, goInt, Goes] using hK
            · exact h.elim
          · exact h.elim
        · exact h.elim
      · exact h.elim
    · split at h
      · rename_i ha hT
        have ha' : args = #[_, _] := Array.toList_inj.1 (by simpa using ha)
        subst ha'
        split at h
        · rename_i ht
          split at h
          · rename_i hk
            split at h
            · rename_i hkey
              obtain ⟨rfl, h2⟩ := sameK_elim h
              split at h2
              · rename_i hm
                have hts := congrArg (fun l : List TypeId => l[0]?) hT
                simp only [Array.getElem?_toList, List.getElem?_cons_zero] at hts
                obtain ⟨w', hK, hr⟩ := run_delete (ty := type) hts ht hk h2
                simpa [execOp, resolve, invoke, builtin, hkey, hm, hr, Goes] using hK
              · exact h2.elim
            · exact h.elim
          · exact h.elim
        · exact h.elim
      · exact h.elim
    · split at h
      · rename_i ha hT
        have ha' : args = #[_] := Array.toList_inj.1 (by simpa using ha)
        have hT' : argTypes = #[_] := Array.toList_inj.1 (by simpa using hT)
        subst ha'
        subst hT'
        split at h
        · rename_i ht
          split at h
          · rename_i zv hz
            split at h
            · rename_i b n c hx
              unfold CLR at h
              split at h
              · simpa [execOp, resolve, invoke, builtin, Builtin.clear_, run_und ht, hx, Goes] using h
              · rename_i a
                cases n with
                | zero => 
                  have : (Builtin.zeroCells zv.cells 0).toList = [] := by simp [Builtin.zeroCells]
                  rw [this] at h
                  simpa [execOp, resolve, invoke, builtin, Builtin.clear_, run_und ht, hx, Goes, stCells] using h
                | succ n =>
                  obtain ⟨w', hK, hr⟩ := stCells_elim (P := P) h
                  simpa [execOp, resolve, invoke, builtin, Builtin.clear_, run_und ht, hx, run_zeroP hz, hr, Goes] using hK
            · exact h.elim
          · exact h.elim
        · exact h.elim
      · exact h.elim
    · split at h
      · rename_i ha
        have ha' : args = #[_] := Array.toList_inj.1 (by simpa using ha)
        subst ha'
        obtain ⟨⟨t, v, hx⟩, h⟩ := PAN_elim h
        rw [hx] at h
        simpa [execOp, resolve, invoke, builtin, Instr.panic, goPanic, hx, Goes] using h
      · exact h.elim
    · exact h.elim
  case h_15 =>
    obtain ⟨⟨t, v, hx⟩, h⟩ := PAN_elim h
    rw [hx] at h
    simpa [execOp, Instr.panic, goPanic, hx, Goes] using h
  case h_16 => exact h.elim
end Go.Sh

set_option linter.all false
namespace Go.Sh
inductive OpK where | pure | read | eff
def opK (P : Program) : Op -> OpK
  | .load .. | .lookup .. | .entry _ => .read
  | .range .. | .next .. | .alloc _ | .box .. | .buildSlice .. | .store .. | .makeMap .. | .makeSlice .. | .mapUpdate .. | .insert .. | .mapEntry .. | .entryStore .. | .panic _ => .eff
  | .call c => match c.callee with
    | .builtin .len => match (c.argTypes.toList.head?).bind P.underlying with
      | some (.map _ _) => .read
      | _ => .pure
    | .builtin .min | .builtin .max => .pure
    | _ => .eff
  | .binOp op t _ _ _ => match isArith op with
    | true => match P.underlying t with
      | some (.float _) => .eff
      | _ => .pure
    | false => .pure
  | _ => .pure
def isEff (P : Program) (o : Op) : Bool := match opK P o with | .eff => true | _ => false
def evOp (P : Program) (C G : Calling) (o : Op) (ty : TypeId) (ρ : Operand -> Value) (w : World) (K Kp : Value -> World -> Prop) : Prop :=
  match opK P o with
  | .pure => evPure P o ty ρ fun v => K v w
  | .read => evRead P o ρ w fun v _ => K v w
  | .eff => evEff P C G o ty ρ w K Kp
theorem evOp_sound {P : Program} {C G : Calling} (hC : Fits P C) (hG : Fits P G) {o : Oper} {ρ : Operand -> Value} {w : World} {K Kp : Value -> World -> Prop} (hρ : ∀ g, ρ (.func g) = .func (.func g) #[] #[]) (h : evOp P C G o.op o.type ρ w K Kp) :
    Goes P ((execOp ρ o).run P w) K Kp := by
  unfold evOp at h
  split at h
  · obtain ⟨v, hK, hr⟩ := evPure_sound h
    rw [hr w]; exact hK
  · obtain ⟨v, S, hK, hS, hr⟩ := evRead_sound h
    rw [hr w hS]; exact hK
  · exact evEff_sound hC hG hρ h
theorem wp_of_goes {P : Program} {o : Oper} {a : Act} {w : World} {K Kp : Value -> World -> Prop} {Q : Exit -> Act -> World -> Prop}
    {next : Act -> World -> Prop} (h : Goes P ((execOp a.eval o).run P w) K Kp) (hn : ∀ v w', K v w' -> next (a.put o.dst v) w')
    (hp : ∀ v w', Kp v w' -> Q (.panic [{ v := v, recovered := false }]) a w') : o.wp P a w next Q := by
  unfold Oper.wp
  unfold Goes at h
  split at h
  · rename_i hr; rw [hr, Oper.upon_value]; exact hn _ _ h
  · rename_i hr; rw [hr, Oper.upon_skip]; exact hn _ _ h
  · rename_i hr
    rw [hr, Oper.upon_enter]
    refine h.mono ?_
    rintro e w' (⟨v, rfl, hv⟩ | ⟨v, rfl, hv⟩)
    · exact hn _ _ hv
    · exact hp _ _ hv
  · rename_i hr; rw [hr, Oper.upon_panic]; exact hp _ _ h
  · exact h.elim
def yieldF (ops : Array Oper) (f : Fr) (j : Nat) : Option Bool := match (ops[j]?).bind (·.dst) with
  | some t => match f t with
    | .bool b => some b
    | _ => none
  | none => none
def wantF (ops : Array Oper) (f : Fr) : Option (Nat × Bool) -> Bool
  | none => true
  | some (j, want) => match yieldF ops f j with
    | some b => match b, want with
      | true, true => true
      | false, false => true
      | _, _ => false
    | none => false
theorem wantF_eq {ops : Array Oper} {a : Act} {o : Oper} : wantF ops (frOf a) o.guard = Region.wanted o (yielded ops a.tmps) := by
  have hy : ∀ j, yieldF ops (frOf a) j = yielded ops a.tmps j := by
    intro j
    unfold yieldF yielded
    cases (ops[j]?).bind (·.dst) with
    | none => rfl
    | some t =>
      simp only [frOf, Option.bind_some, Array.getD_eq_getD_getElem?]
      cases h : a.tmps[t]? with
      | none => simp [undef]
      | some v => cases v <;> simp
  unfold wantF Region.wanted
  cases o.guard with
  | none => rfl
  | some g =>
    obtain ⟨j, want⟩ := g
    simp only [hy]
    cases yielded ops a.tmps j with
    | none => rfl
    | some b => cases b <;> cases want <;> rfl
def isGuard : List Oper -> Nat -> Bool
  | [], _ => false
  | o :: r, i => match o.guard with
    | some (j, _) => bif Nat.beq j i then true else isGuard r i
    | none => isGuard r i
def part2 (b : Bool) (v : Value) (K : Value -> Prop) : Prop :=
  match b with
  | true => match v with
    | .bool x => CND x (K (.bool true)) (K (.bool false))
    | v => K v
  | false => K v
theorem part2_elim {b : Bool} {v : Value} {K : Value -> Prop} (h : part2 b v K) : K v := by
  unfold part2 at h
  split at h
  · split at h
    · rename_i x; cases x <;> exact h
    · exact h
  · exact h
def evOps (P : Program) (C G : Calling) (ops : Array Oper) (Q : Fr -> World -> Prop) (Qp : Fr -> Value -> World -> Prop) : Nat -> List Oper -> Fr -> World -> Prop
  | _, [], f, w => Q f w
  | i, o :: r, f, w => match wantF ops f o.guard with
    | true => evOp P C G o.op o.type f.ev w (fun v w' => part2 (isGuard ops.toList i) v fun v => evOps P C G ops Q Qp (i + 1) r (f.putO o.dst v) w') (Qp f)
    | false => evOps P C G ops Q Qp (i + 1) r (f.putO o.dst undef) w
def dsts : List Oper -> List Nat
  | [] => []
  | o :: r => match o.dst with
    | some d => d :: dsts r
    | none => dsts r
structure Agree (W : List Nat) (a a' : Act) : Prop where
  size : a'.tmps.size = a.tmps.size
  defers : a'.defers = a.defers
  out : ∀ t, t ∉ W -> frOf a' t = frOf a t
theorem Agree.refl (W : List Nat) (a : Act) : Agree W a a := ⟨rfl, rfl, fun _ _ => rfl⟩
theorem Agree.trans {W : List Nat} {a b c : Act} (h : Agree W a b) (k : Agree W b c) : Agree W a c :=
  ⟨k.size.trans h.size, k.defers.trans h.defers, fun t ht => (k.out t ht).trans (h.out t ht)⟩
theorem Agree.mono {W V : List Nat} {a b : Act} (h : Agree W a b) (hs : ∀ t, t ∈ W -> t ∈ V) : Agree V a b :=
  ⟨h.size, h.defers, fun t ht => h.out t fun hw => ht (hs t hw)⟩
theorem Agree.put {W : List Nat} {a : Act} {d : Option Nat} {v : Value} (hW : ∀ t, d = some t -> t ∈ W) : Agree W a (a.put d v) := by
  refine ⟨size_put a d v, defers_put a d v, fun t ht => ?_⟩
  cases d with
  | none => rfl
  | some d =>
    have hne : d ≠ t := fun e => ht (e ▸ hW d rfl)
    simp only [frOf, Act.put, Array.getD_eq_getD_getElem?, Array.getElem?_setIfInBounds_ne hne]
def within (n : Nat) (W : List Nat) : Prop := ∀ t, t ∈ W -> t < n
theorem evOps_sound {P : Program} {C G : Calling} (hC : Fits P C) (hG : Fits P G) {ops : Array Oper} {n : Nat} {W : List Nat} (hW : within n W) (Q : Fr -> World -> Prop) (Qp : Fr -> Value -> World -> Prop) (QQ : Exit -> Act -> World -> Prop) (a0 : Act)
    (hQ : ∀ a w, a.tmps.size = n -> Agree W a0 a -> Q (frOf a) w -> QQ .normal a w)
    (hP : ∀ a v w, a.tmps.size = n -> Agree W a0 a -> Qp (frOf a) v w -> QQ (.panic [{ v := v, recovered := false }]) a w) :
    ∀ (l : List Oper) (i : Nat) (a : Act) (w : World), (∀ o ∈ l, ∀ d, o.dst = some d -> d ∈ W) -> a.tmps.size = n -> Agree W a0 a -> evOps P C G ops Q Qp i l (frOf a) w -> wpList P ops QQ l a w
  | [], i, a, w, _, hn, ha, h => hQ a w hn ha h
  | o :: r, i, a, w, hd, hn, ha, h => by
    simp only [evOps] at h
    unfold wpList
    rw [wantF_eq] at h
    have hdo : ∀ t, o.dst = some t -> t ∈ W := fun t ht => hd o (by simp) t ht
    have hput : ∀ v, frOf (a.put o.dst v) = (frOf a).putO o.dst v := fun v => frOf_putO (fun t ht => by have := hW t (hdo t ht); omega) v
    split at h
    · rename_i hw
      rw [if_pos hw]
      refine .inl (wp_of_goes (K := fun v w' => part2 (isGuard ops.toList i) v fun v => evOps P C G ops Q Qp (i + 1) r ((frOf a).putO o.dst v) w') (Kp := Qp (frOf a)) ?_ (fun v w' hK => ?_) fun v w' hK => hP a v w' hn ha hK)
      · have := evOp_sound hC hG (fun _ => rfl) (o := o) h
        rwa [frOf_eval'] at this
      · refine evOps_sound hC hG hW Q Qp QQ a0 hQ hP r (i + 1) _ w' (fun o ho => hd o (by simp [ho])) (by rw [size_put]; exact hn) (ha.trans (Agree.put hdo)) ?_
        rw [hput]
        exact part2_elim hK
    · rename_i hw
      rw [if_neg (by simp [hw])]
      refine evOps_sound hC hG hW Q Qp QQ a0 hQ hP r (i + 1) _ w (fun o ho => hd o (by simp [ho])) (by rw [size_put]; exact hn) (ha.trans (Agree.put hdo)) ?_
      rw [hput]
      exact h
end Go.Sh

set_option linter.all false
namespace Go.Sh
abbrev Fam := List (Nat × (World -> Prop))
def waits : List Edge -> Nat -> Bool
  | [], _ => false
  | e :: r, k => match Region.binds .any e with
    | true => bif Nat.beq e.on k then true else waits r k
    | false => waits r k
theorem waits_false {l : List Edge} {k : Nat} (h : ∀ e ∈ l, Region.binds .any e = true -> e.on ≠ k) : waits l k = false := by
  induction l with
  | nil => rfl
  | cons e r ih =>
    have ihr := ih fun e he => h e (by simp [he])
    unfold waits
    split
    · rename_i hb
      have hne := h e (by simp) hb
      have : Nat.beq e.on k = false := by
        cases hh : Nat.beq e.on k
        · rfl
        · exact absurd (Nat.eq_of_beq_eq_true hh) hne
      simp [this, ihr]
    · exact ihr
def keepFam {α : Type} (after : List Edge) : List (Nat × α) -> List (Nat × α)
  | [] => []
  | p :: r => match waits after p.1 with
    | true => keepFam after r
    | false => p :: keepFam after r
theorem keepFam_sub {α : Type} (after : List Edge) : ∀ (l : List (Nat × α)) p, p ∈ keepFam after l -> p ∈ l
  | [], p, h => by simp [keepFam] at h
  | q :: r, p, h => by
    unfold keepFam at h
    split at h
    · exact List.mem_cons_of_mem _ (keepFam_sub after r p h)
    · rcases List.mem_cons.1 h with rfl | h
      · simp
      · exact List.mem_cons_of_mem _ (keepFam_sub after r p h)
theorem keepFam_mono {α : Type} (after : List Edge) : ∀ (l m : List (Nat × α)), (∀ p ∈ l, p ∈ m) -> ∀ p ∈ keepFam after l, p ∈ keepFam after m := by
  have key : ∀ (m : List (Nat × α)) p, p ∈ m -> waits after p.1 = false -> p ∈ keepFam after m := by
    intro m
    induction m with
    | nil => intro p h; cases h
    | cons q r ih =>
      intro p h hw
      unfold keepFam
      rcases List.mem_cons.1 h with rfl | h
      · simp [hw]
      · split
        · exact ih p h hw
        · exact List.mem_cons_of_mem _ (ih p h hw)
  have key2 : ∀ (l : List (Nat × α)) p, p ∈ keepFam after l -> waits after p.1 = false := by
    intro l
    induction l with
    | nil => intro p h; simp [keepFam] at h
    | cons q r ih =>
      intro p h
      unfold keepFam at h
      split at h
      · exact ih p h
      · rename_i hw
        rcases List.mem_cons.1 h with rfl | h
        · exact hw
        · exact ih p h
  intro l m hs p hp
  exact key m p (hs p (keepFam_sub after l p hp)) (key2 l p hp)
def afterOf (ops : Array Oper) (j : Nat) : List Edge := match ops[j]? with | some o => o.after.toList | none => []
def wpAnyF (P : Program) (ops : Array Oper) (Q : Exit -> Act -> World -> Prop) : Nat -> Fam -> Array Bool -> Act -> World -> Prop
  | 0, _, listed, a, w => Region.ready .any ops listed = [] /\ Q .normal a w
  | fuel + 1, fam, listed, a, w =>
    (Region.ready .any ops listed = [] -> Q .normal a w) /\
    ∀ j ∈ Region.ready .any ops listed, wpOp P ops Q j (fun a' w' => (∀ p ∈ keepFam (afterOf ops j) fam, p.2 w') /\
      wpAnyF P ops Q fuel (keepFam (afterOf ops j) fam) (listed.setIfInBounds j true) a' w') a w
section
variable {P : Program} {ops : Array Oper} {Q : Exit -> Act -> World -> Prop}
theorem wpAny_of_F : ∀ (fuel : Nat) (fam : Fam) (listed : Array Bool) (a : Act) (w : World), wpAnyF P ops Q fuel fam listed a w -> wpAny P .any ops Q fuel listed a w
  | 0, _, _, _, _, h => h
  | fuel + 1, _, _, _, _, h => ⟨h.1, fun i hi => wpOp_mono (fun a' w' h' => wpAny_of_F fuel _ _ a' w' h'.2) (h.2 i hi)⟩
theorem wpAnyF_mono : ∀ (fuel : Nat) (fam fam' : Fam) (listed : Array Bool) (a : Act) (w : World), (∀ p ∈ fam', p ∈ fam) -> wpAnyF P ops Q fuel fam listed a w -> wpAnyF P ops Q fuel fam' listed a w
  | 0, _, _, _, _, _, _, h => h
  | fuel + 1, fam, fam', _, _, _, hs, h => ⟨h.1, fun j hj => wpOp_mono (fun a' w' h' =>
      ⟨fun p hp => h'.1 p (keepFam_mono _ _ _ hs p hp), wpAnyF_mono fuel _ _ _ _ _ (keepFam_mono _ _ _ hs) h'.2⟩) (h.2 j hj)⟩
theorem wpAnyF_true (i : Nat) : ∀ (fuel : Nat) (fam : Fam) (listed : Array Bool) (a : Act) (w : World), wpAnyF P ops Q fuel fam listed a w -> wpAnyF P ops Q fuel ((i, fun _ => True) :: fam) listed a w
  | 0, _, _, _, _, h => h
  | fuel + 1, fam, listed, a, w, h => by
    refine ⟨h.1, fun j hj => wpOp_mono (fun a' w' h' => ?_) (h.2 j hj)⟩
    unfold keepFam
    split
    · exact h'
    · refine ⟨fun p hp => ?_, wpAnyF_true i fuel _ _ _ _ h'.2⟩
      rcases List.mem_cons.1 hp with rfl | hp
      · trivial
      · exact h'.1 p hp
theorem wpAnyF_take {i : Nat} {oi : Oper} {v : Value} {S : World -> Prop} (hi : ops[i]? = some oi) (hsel : ∀ (j : Nat) (o : Oper) cs b, ops[j]? = some o -> o.op ≠ .select cs b)
    (hQ : ∀ c a w, ¬ Q (.panic c) a w) :
    ∀ (fuel : Nat) (fam : Fam) (listed : Array Bool) (a : Act) (w : World),
      (∀ j oj, ops[j]? = some oj -> j ≠ i -> listed.getD j true = false -> (∀ e ∈ oj.after, Region.binds .any e = true -> e.on ≠ i) -> oi.apart ops oj = true) ->
      i ∈ Region.ready .any ops listed -> YieldsIf P ops S oi v a -> S w -> (∀ p ∈ fam, p.2 w) ->
      wpAnyF P ops Q fuel ((i, S) :: fam) (listed.setIfInBounds i true) (a.put oi.dst v) w -> wpAnyF P ops Q (fuel + 1) fam listed a w := by
  have own : ∀ (fuel : Nat) (fam : Fam) (listed : Array Bool) (a : Act) (w : World), YieldsIf P ops S oi v a -> S w -> (∀ p ∈ fam, p.2 w) ->
      wpAnyF P ops Q fuel ((i, S) :: fam) (listed.setIfInBounds i true) (a.put oi.dst v) w ->
      wpOp P ops Q i (fun a' w' => (∀ p ∈ keepFam (afterOf ops i) fam, p.2 w') /\ wpAnyF P ops Q fuel (keepFam (afterOf ops i) fam) (listed.setIfInBounds i true) a' w') a w := by
    intro fuel fam listed a w hy hS hfam H
    refine hy.wpOp hi hS ⟨fun p hp => hfam p (keepFam_sub _ _ _ hp), wpAnyF_mono _ _ _ _ _ _ (fun p hp => List.mem_cons_of_mem _ (keepFam_sub _ _ _ hp)) H⟩
  intro fuel
  induction fuel with
  | zero =>
    intro fam listed a w _ hr hy hS hfam H
    refine ⟨fun h => (by rw [h] at hr; cases hr), fun j hj => ?_⟩
    by_cases hji : j = i
    · subst hji; exact own 0 fam listed a w hy hS hfam H
    · have := ready_mono hj hji
      rw [H.1] at this
      cases this
  | succ fuel ih =>
    intro fam listed a w hfree hr hy hS hfam H
    refine ⟨fun h => (by rw [h] at hr; cases hr), fun j hj => ?_⟩
    by_cases hji : j = i
    · subst hji; exact own _ fam listed a w hy hS hfam H
    · have h1 := H.2 j (ready_mono hj hji)
      obtain ⟨hjun, oj, hoj, hall⟩ := mem_ready.1 hj
      have hnot : ∀ e ∈ oj.after, Region.binds .any e = true -> e.on ≠ i := fun e he hb heq => by
        have h1 := hall e he hb
        have h0 := (mem_ready.1 hr).1
        rw [heq] at h1
        rcases Nat.lt_or_ge i listed.size with h' | h'
        · simp [h'] at h0 h1; rw [h0] at h1; cases h1
        · simp [Array.getElem?_eq_none h'] at h1
      have hkeep : keepFam (afterOf ops j) ((i, S) :: fam) = (i, S) :: keepFam (afterOf ops j) fam := by
        have hwt : waits (afterOf ops j) i = false := waits_false fun e he hb => by
          simp only [afterOf, hoj] at he
          exact hnot e (by simpa using he) hb
        simp [keepFam, hwt]
      rw [hkeep] at h1
      have h2 := wpOp_putIf hoj (hfree j oj hoj hji hjun hnot) (fun cs b => hsel i oi cs b hi) (fun cs b => hsel j oj cs b hoj) (fun c a w h => (hQ _ _ _ h).elim) hy h1
      have hfree' : ∀ k ok, ops[k]? = some ok -> k ≠ i -> (listed.setIfInBounds j true).getD k true = false ->
          (∀ e ∈ ok.after, Region.binds .any e = true -> e.on ≠ i) -> oi.apart ops ok = true := fun k ok hk hki hun hno => by
        refine hfree k ok hk hki ?_ hno
        by_cases hjk : j = k
        · subst hjk; exact hjun
        · rw [getD_set_ne true hjk] at hun; exact hun
      refine wpOp_mono (fun a' w' h3 => ?_) h2
      obtain ⟨hy', hf', h4⟩ := h3
      have hS' : S w' := hf' (i, S) (by simp)
      have hfam' : ∀ p ∈ keepFam (afterOf ops j) fam, p.2 w' := fun p hp => hf' p (by simp [hp])
      refine ⟨hfam', ih _ (listed.setIfInBounds j true) a' w' hfree' (ready_mono hr (Ne.symm hji)) hy' hS' hfam' ?_⟩
      rw [Array.setIfInBounds_comm _ _ hji]
      exact h4
end
def pickEarly (P : Program) (ops : Array Oper) (listed : Array Bool) : List Nat -> Option Nat
  | [] => none
  | i :: r => match ops[i]? with
    | some o => match isEff P o.op with
      | true => pickEarly P ops listed r
      | false => match Region.free .any ops listed i with
        | true => some i
        | false => pickEarly P ops listed r
    | none => pickEarly P ops listed r
theorem pickEarly_mem {P : Program} {ops : Array Oper} {listed : Array Bool} : ∀ {l : List Nat} {i : Nat}, pickEarly P ops listed l = some i -> i ∈ l /\ Region.free .any ops listed i = true
  | [], i, h => by simp [pickEarly] at h
  | k :: r, i, h => by
    unfold pickEarly at h
    split at h
    · split at h
      · obtain ⟨h1, h2⟩ := pickEarly_mem h; exact ⟨List.mem_cons_of_mem _ h1, h2⟩
      · split at h
        · rename_i hf; cases h; exact ⟨by simp, hf⟩
        · obtain ⟨h1, h2⟩ := pickEarly_mem h; exact ⟨List.mem_cons_of_mem _ h1, h2⟩
    · obtain ⟨h1, h2⟩ := pickEarly_mem h; exact ⟨List.mem_cons_of_mem _ h1, h2⟩
def allKeep : List (Nat × Keep) -> World -> Prop -> Prop
  | [], _, X => X
  | p :: r, w, X => p.2 w /\ allKeep r w X
theorem allKeep_elim : ∀ {l : List (Nat × Keep)} {w : World} {X : Prop}, allKeep l w X -> (∀ p ∈ l, p.2 w) /\ X
  | [], _, _, h => ⟨by simp, h⟩
  | p :: r, w, X, h => by
    obtain ⟨h1, h2⟩ := h
    obtain ⟨h3, h4⟩ := allKeep_elim h2
    exact ⟨fun q hq => by rcases List.mem_cons.1 hq with rfl | hq; exact h1; exact h3 q hq, h4⟩
def allOf : List Nat -> (Nat -> Prop) -> Prop
  | [], _ => True
  | [j], K => K j
  | j :: r, K => K j /\ allOf r K
theorem allOf_elim : ∀ {l : List Nat} {K : Nat -> Prop}, allOf l K -> ∀ j ∈ l, K j
  | [], _, _, _, h => by cases h
  | [j], K, h, k, hk => by simp at hk; subst hk; exact h
  | j :: i :: r, K, h, k, hk => by
    rcases List.mem_cons.1 hk with rfl | hk
    · exact h.1
    · exact allOf_elim h.2 k hk
def evDraw (P : Program) (C G : Calling) (ops : Array Oper) (Q : Fr -> World -> Prop) : Nat -> List (Nat × Keep) -> Array Bool -> Fr -> World -> Prop
  | 0, _, listed, f, w => match Region.ready .any ops listed with
    | [] => Q f w
    | _ :: _ => False
  | fuel + 1, pend, listed, f, w => match Region.ready .any ops listed with
    | [] => Q f w
    | j :: rs => match pickEarly P ops listed (j :: rs) with
      | some i => match ops[i]? with
        | some o => match wantF ops f o.guard with
          | true => match opK P o.op with
            | .pure => evPure P o.op o.type f.ev fun v => part2 (isGuard ops.toList i) v fun v => evDraw P C G ops Q fuel pend (listed.setIfInBounds i true) (f.putO o.dst v) w
            | .read => evRead P o.op f.ev w fun v S => part2 (isGuard ops.toList i) v fun v => evDraw P C G ops Q fuel ((i, S) :: pend) (listed.setIfInBounds i true) (f.putO o.dst v) w
            | .eff => False
          | false => evDraw P C G ops Q fuel pend (listed.setIfInBounds i true) (f.putO o.dst undef) w
        | none => False
      | none => allOf (j :: rs) fun i => match ops[i]? with
        | some o => match wantF ops f o.guard with
          | true => evOp P C G o.op o.type f.ev w (fun v w' => allKeep (keepFam o.after.toList pend) w' (part2 (isGuard ops.toList i) v fun v =>
              evDraw P C G ops Q fuel (keepFam o.after.toList pend) (listed.setIfInBounds i true) (f.putO o.dst v) w')) noP
          | false => evDraw P C G ops Q fuel (keepFam o.after.toList pend) (listed.setIfInBounds i true) (f.putO o.dst undef) w
        | none => False
theorem evDraw_sound {P : Program} {C G : Calling} (hC : Fits P C) (hG : Fits P G) {ops : Array Oper} {n : Nat} {W : List Nat} (hW : within n W) (hd : ∀ (i : Nat) o, ops[i]? = some o -> ∀ d, o.dst = some d -> d ∈ W)
    (hsel : Region.noSelect ops = true) (Q : Fr -> World -> Prop) (QQ : Exit -> Act -> World -> Prop) (hP : ∀ c a w, ¬ QQ (.panic c) a w) (a0 : Act)
    (hQ : ∀ a w, a.tmps.size = n -> Agree W a0 a -> Q (frOf a) w -> QQ .normal a w) :
    ∀ (fuel : Nat) (pend : List (Nat × Keep)) (listed : Array Bool) (a : Act) (w : World), a.tmps.size = n -> Agree W a0 a -> (∀ p ∈ pend, p.2 w) ->
      evDraw P C G ops Q fuel pend listed (frOf a) w -> wpAnyF P ops QQ fuel pend listed a w := by
  have hput : ∀ (a : Act) (i : Nat) (o : Oper) v, a.tmps.size = n -> ops[i]? = some o -> frOf (a.put o.dst v) = (frOf a).putO o.dst v :=
    fun a i o v hn ho => frOf_putO (fun t ht => by have := hW t (hd i o ho t ht); omega) v
  intro fuel
  induction fuel with
  | zero =>
    intro pend listed a w hn ha _ h
    unfold evDraw at h
    split at h
    · rename_i hr; exact ⟨hr, hQ a w hn ha h⟩
    · exact h.elim
  | succ fuel ih =>
    intro pend listed a w hn ha hpend h
    unfold evDraw at h
    split at h
    · rename_i hr; exact ⟨fun _ => hQ a w hn ha h, fun j hj => by rw [hr] at hj; cases hj⟩
    · rename_i j rs hr
      split at h
      · rename_i i hpick
        obtain ⟨him, hfree⟩ := pickEarly_mem hpick
        split at h
        · rename_i o ho
          have hready : i ∈ Region.ready .any ops listed := by rw [hr]; exact him
          rw [wantF_eq] at h
          split at h
          · rename_i hw
            split at h
            · obtain ⟨v, hK, hrun⟩ := evPure_sound h
              have hK' := part2_elim hK
              rw [<- hput a i o v hn ho] at hK'
              refine wpAnyF_take (oi := o) (v := v) (S := fun _ => True) ho (Region.noSelect_spec hsel) hP fuel pend listed a w (Region.free_spec ho hfree) hready (.inl ⟨hw, fun w' _ => ?_⟩) trivial hpend ?_
              · have := hrun w'; rwa [frOf_eval'] at this
              · exact wpAnyF_true _ _ _ _ _ _ (ih _ _ _ w (by rw [size_put]; exact hn) (ha.trans (Agree.put (hd i o ho))) hpend hK')
            · obtain ⟨v, S, hK, hS, hrun⟩ := evRead_sound h
              have hK' := part2_elim hK
              rw [<- hput a i o v hn ho] at hK'
              refine wpAnyF_take (oi := o) (v := v) (S := S) ho (Region.noSelect_spec hsel) hP fuel pend listed a w (Region.free_spec ho hfree) hready (.inl ⟨hw, fun w' hS' => ?_⟩) hS hpend ?_
              · have := hrun w' hS'; rwa [frOf_eval'] at this
              · refine ih ((i, S) :: pend) _ _ w (by rw [size_put]; exact hn) (ha.trans (Agree.put (hd i o ho))) ?_ hK'
                intro p hp
                rcases List.mem_cons.1 hp with rfl | hp
                · exact hS
                · exact hpend p hp
            · exact h.elim
          · rename_i hw
            rw [<- hput a i o undef hn ho] at h
            have h1 := ih pend _ _ w (by rw [size_put]; exact hn) (ha.trans (Agree.put (hd i o ho))) hpend h
            refine wpAnyF_take (oi := o) (v := undef) (S := fun _ => True) ho (Region.noSelect_spec hsel) hP fuel pend listed a w (Region.free_spec ho hfree) hready (.inr ⟨by simpa using hw, rfl⟩) trivial hpend ?_
            exact wpAnyF_true _ _ _ _ _ _ h1
        · exact h.elim
      · refine ⟨fun h0 => (by rw [hr] at h0; cases h0), fun i hi => ?_⟩
        rw [hr] at hi
        have h1 := allOf_elim h i hi
        split at h1
        · rename_i o ho
          have haft : afterOf ops i = o.after.toList := by simp [afterOf, ho]
          suffices hgoal : wpOp P ops QQ i (fun a' w' => (∀ p ∈ keepFam o.after.toList pend, p.2 w') /\
              wpAnyF P ops QQ fuel (keepFam o.after.toList pend) (listed.setIfInBounds i true) a' w') a w by rw [haft]; exact hgoal
          unfold wpOp
          rw [ho]
          show (if _ then _ else _)
          rw [wantF_eq] at h1
          split at h1
          · rename_i hw
            rw [if_pos hw]
            have hg := evOp_sound hC hG (fun _ => rfl) (o := o) h1
            rw [frOf_eval'] at hg
            refine .inl (wp_of_goes hg (fun v w' hK => ?_) fun _ _ f => f.elim)
            obtain ⟨hk, h2⟩ := allKeep_elim hK
            have h3 := part2_elim h2
            rw [<- hput a i o v hn ho] at h3
            exact ⟨hk, ih _ _ _ w' (by rw [size_put]; exact hn) (ha.trans (Agree.put (hd i o ho))) hk h3⟩
          · rename_i hw
            rw [if_neg (by simp [hw])]
            rw [<- hput a i o undef hn ho] at h1
            have hk : ∀ p ∈ keepFam o.after.toList pend, p.2 w := fun p hp => hpend p (keepFam_sub _ _ _ hp)
            exact ⟨hk, ih _ _ _ w (by rw [size_put]; exact hn) (ha.trans (Agree.put (hd i o ho))) hk h1⟩
        · exact h1.elim
end Go.Sh

set_option linter.all false
namespace Go.Sh
structure Ann where
  loops : List (Nat × Sig)
  joins : List (Nat × Sig)
def look {α : Type} : List (Nat × α) -> Nat -> Option α
  | [], _ => none
  | (k, x) :: r, n => bif Nat.beq k n then some x else look r n
def orElse {α : Type} : Option α -> Option α -> Option α
  | some x, _ => some x
  | none, y => y
def firstR : Code -> Option Nat
  | .region id _ _ => some id
  | .seq a b => orElse (firstR a) (firstR b)
  | .cond _ a b => orElse (firstR a) (firstR b)
  | .block _ c => firstR c
  | .loop c => firstR c
  | .scope c => firstR c
  | _ => none
def written : Code -> List Nat
  | .region _ ops _ => dsts ops.toList
  | .seq a b => written a ++ written b
  | .cond _ a b => written a ++ written b
  | .block _ c => written c
  | .loop c => written c
  | .scope c => written c
  | _ => []
abbrev Post := Exit -> Fr -> World -> Prop
def Post.then (K : Fr -> World -> Prop) (Q : Post) : Post := fun e f w => match e with
  | .normal => K f w
  | e => Q e f w
def Post.inBlock (id : Nat) (Q : Post) : Post := fun e f w => match e with
  | .exit k => match Nat.beq k id with
    | true => Q .normal f w
    | false => Q (.exit k) f w
  | e => Q e f w
def Post.noGoto (Q : Post) : Post := fun e f w => match e with
  | .goto _ => False
  | e => Q e f w
def LOOP (σ : Type) (s0 : σ) (w0 : World) (body : σ -> (Nat -> Value) -> World -> (σ -> World -> Prop) -> Prop) : Prop :=
  ∃ (I : σ -> World -> Prop) (μ : σ -> World -> Nat), I s0 w0 /\ ∀ s j w, I s w -> body s j w fun s' w' => I s' w' /\ μ s' w' < μ s w
def JOIN (σ : Type) (first : (σ -> World -> Prop) -> Prop) (rest : σ -> (Nat -> Value) -> World -> Prop) : Prop :=
  ∃ J : σ -> World -> Prop, first J /\ ∀ s j w, J s w -> rest s j w
def ev (P : Program) (C G : Calling) (A : Ann) : Code -> Post -> Fr -> World -> Prop
  | .skip, Q, f, w => Q .normal f w
  | .ret, Q, f, w => Q .ret f w
  | .exit id, Q, f, w => Q (.exit id) f w
  | .region _ ops d, Q, f, w => match d with
    | false => evOps P C G ops (Q .normal) (fun f v w => Q (.panic [{ v := v, recovered := false }]) f w) 0 ops.toList f w
    | true => match Region.noSelect ops with
      | true => evDraw P C G ops (Q .normal) ops.size [] (Array.replicate ops.size false) f w.drew
      | false => False
  | .seq x y, Q, f, w => match (firstR y).bind (look A.joins) with
    | none => ev P C G A x (Post.then (ev P C G A y Q) Q) f w
    | some l => JOIN (St l) (fun J => ev P C G A x (Post.then (fun f' w' => Fr.get l f' fun s => J s w') Q) f w)
        fun s j w' => ev P C G A y Q (Fr.set l s (f.junk (written x) j)) w'
  | .cond c x y, Q, f, w => match f.ev c with
    | .bool b => CND b (ev P C G A x Q f w) (ev P C G A y Q f w)
    | _ => False
  | .block id c, Q, f, w => ev P C G A c (Post.inBlock id Q) f w
  | .scope c, Q, f, w => ev P C G A c (Post.noGoto Q) f w
  | .label _, Q, f, w => Q .normal f w
  | .loop c, Q, f, w => match (firstR c).bind (look A.loops) with
    | none => False
    | some l => Fr.get l f fun s => LOOP (St l) s w fun s j w' next =>
        ev P C G A c (Post.then (fun f' w'' => Fr.get l f' fun s' => next s' w'') Q) (Fr.set l s (f.junk (written c) j)) w'
  | _, _, _, _ => False
def lift (n : Nat) (W : List Nat) (a0 : Act) (Q : Post) : Exit -> Act -> World -> Prop
  | .outgrown, _, _ => False
  | e, a, w => a.tmps.size = n /\ Agree W a0 a /\ Q e (frOf a) w
def calmQ (Q : Post) : Post := fun e f w => match e with
  | .panic _ => False
  | e => Q e f w
theorem lift_mono {n : Nat} {W V : List Nat} {a0 : Act} {Q : Post} (h : ∀ t, t ∈ W -> t ∈ V) (e : Exit) (a : Act) (w : World) (hl : lift n W a0 Q e a w) : lift n V a0 Q e a w := by
  cases e <;> simp only [lift] at hl ⊢ <;> first
    | exact hl
    | exact ⟨hl.1, hl.2.1.mono h, hl.2.2⟩
theorem dsts_mem : ∀ {l : List Oper} {o : Oper} {d : Nat}, o ∈ l -> o.dst = some d -> d ∈ dsts l
  | [], o, d, h, _ => by cases h
  | p :: r, o, d, h, hd => by
    unfold dsts
    rcases List.mem_cons.1 h with rfl | h
    · rw [hd]; simp
    · have := dsts_mem h hd
      split
      · exact List.mem_cons_of_mem _ this
      · exact this
theorem ev_sound {P : Program} {C G : Calling} (hC : Fits P C) (hG : Fits P G) (hm : P.follows .mixedOrders = true) {A : Ann} {n : Nat} :
    ∀ (c : Code), within n (written c) -> ∀ (Q : Post) (a : Act) (w : World), a.tmps.size = n -> ev P C G A c Q (frOf a) w -> c.wp P (lift n (written c) a Q) a w
  | .skip, _, Q, a, w, hn, h => wp_skip ⟨hn, .refl _ _, h⟩
  | .ret, _, Q, a, w, hn, h => wp_ret ⟨hn, .refl _ _, h⟩
  | .exit id, _, Q, a, w, hn, h => wp_exit ⟨hn, .refl _ _, h⟩
  | .region id ops d, hW, Q, a, w, hn, h => by
    have hd : ∀ (i : Nat) o, ops[i]? = some o -> ∀ d, o.dst = some d -> d ∈ dsts ops.toList := fun i o ho d hd =>
      dsts_mem (Array.mem_toList_iff.2 (Array.mem_of_getElem? ho)) hd
    unfold ev at h
    split at h
    · refine wp_region_list ?_
      exact evOps_sound hC hG hW (Q .normal) (fun f v w => Q (.panic [{ v := v, recovered := false }]) f w) _ a (fun a' w' hn' ha hq => ⟨hn', ha, hq⟩) (fun a' v w' hn' ha hq => ⟨hn', ha, hq⟩) ops.toList 0 a w (fun o ho d hd => dsts_mem ho hd) hn (.refl _ _) h
    · split at h
      · rename_i hs
        refine Code.wp_mono (Q := lift n (dsts ops.toList) a (calmQ Q)) (fun e a' w' hl => ?_) (wp_region_any hm (wpAny_of_F _ [] _ _ _ ?_))
        · cases e <;> simp only [lift, calmQ] at hl ⊢ <;> first
            | exact hl
            | exact hl.2.2.elim
        exact evDraw_sound hC hG hW hd hs (Q .normal) (lift n (dsts ops.toList) a (calmQ Q)) (fun c a w h => h.2.2) a (fun a' w' hn' ha hq => ⟨hn', ha, hq⟩) ops.size [] _ a _ hn (.refl _ _) (by simp) h
      · exact h.elim
  | .seq x y, hW, Q, a, w, hn, h => by
    have hWx : within n (written x) := fun t ht => hW t (by simp [written, ht])
    have hWy : within n (written y) := fun t ht => hW t (by simp [written, ht])
    unfold ev at h
    split at h
    · refine wp_seq (Code.wp_mono (fun e a' w' hl => ?_) (ev_sound hC hG hm x hWx _ a w hn h))
      cases e <;> simp only [lift, Exit.then, Post.then] at hl ⊢ <;> first
        | exact hl.elim
        | exact ⟨hl.1, hl.2.1.mono (by simp [written]; intro t ht; exact .inl ht), hl.2.2⟩
        | (refine Code.wp_mono (fun e a'' w'' hl2 => ?_) (ev_sound hC hG hm y hWy Q a' w' hl.1 hl.2.2)
           have h1 := lift_mono (V := written (.seq x y)) (by simp [written]; intro t ht; exact .inr ht) e a'' w'' hl2
           have h2 : Agree (written (.seq x y)) a a' := hl.2.1.mono (by simp [written]; intro t ht; exact .inl ht)
           cases e <;> simp only [lift] at h1 ⊢ <;> first
             | exact h1
             | exact ⟨h1.1, h2.trans h1.2.1, h1.2.2⟩)
    · rename_i l hl0
      obtain ⟨J, h1, h2⟩ := h
      refine wp_seq (Code.wp_mono (fun e a' w' hl => ?_) (ev_sound hC hG hm x hWx _ a w hn h1))
      cases e <;> simp only [lift, Exit.then, Post.then] at hl ⊢ <;> first
        | exact hl.elim
        | exact ⟨hl.1, hl.2.1.mono (by simp [written]; intro t ht; exact .inl ht), hl.2.2⟩
        | (obtain ⟨s, hs, hJ⟩ := get_elim hl.2.2
           have h3 : ev P C G A y Q (Fr.set l s ((frOf a).junk (written x) (frOf a'))) w' := h2 s (frOf a') w' hJ
           rw [junk_set_eq hs (fun t ht => hl.2.1.out t ht)] at h3
           refine Code.wp_mono (fun e a'' w'' hl2 => ?_) (ev_sound hC hG hm y hWy Q a' w' hl.1 h3)
           have h1 := lift_mono (V := written (.seq x y)) (by simp [written]; intro t ht; exact .inr ht) e a'' w'' hl2
           have h2 : Agree (written (.seq x y)) a a' := hl.2.1.mono (by simp [written]; intro t ht; exact .inl ht)
           cases e <;> simp only [lift] at h1 ⊢ <;> first
             | exact h1
             | exact ⟨h1.1, h2.trans h1.2.1, h1.2.2⟩)
  | .cond c x y, hW, Q, a, w, hn, h => by
    have hWx : within n (written x) := fun t ht => hW t (by simp [written, ht])
    have hWy : within n (written y) := fun t ht => hW t (by simp [written, ht])
    unfold ev at h
    split at h
    · rename_i b hb
      rw [frOf_eval] at hb
      cases b
      · refine wp_cond_false hb (Code.wp_mono (fun e a' w' hl => ?_) (ev_sound hC hG hm y hWy _ a w hn h))
        exact lift_mono (by simp [written]; intro t ht; exact .inr ht) e a' w' hl
      · refine wp_cond_true hb (Code.wp_mono (fun e a' w' hl => ?_) (ev_sound hC hG hm x hWx _ a w hn h))
        exact lift_mono (by simp [written]; intro t ht; exact .inl ht) e a' w' hl
    · exact h.elim
  | .block id c, hW, Q, a, w, hn, h => by
    refine wp_block (Code.wp_mono (fun e a' w' hl => ?_) (ev_sound hC hG hm c hW _ a w hn h))
    cases e <;> simp only [lift, Exit.inBlock, Post.inBlock] at hl ⊢ <;> first
      | exact hl
      | skip
    rename_i k
    obtain ⟨h1, h2, h3⟩ := hl
    split at h3
    · rename_i e
      have := Nat.eq_of_beq_eq_true e
      subst this
      rw [if_pos rfl]
      exact ⟨h1, h2, h3⟩
    · rename_i e
      rw [if_neg (by intro e'; subst e'; simp at e)]
      exact ⟨h1, h2, h3⟩
  | .loop c, hW, Q, a, w, hn, h => by
    unfold ev at h
    split at h
    · exact h.elim
    · rename_i l hl0
      obtain ⟨s0, hs0, I, μ, h0, hround⟩ := get_elim h
      have key : (Code.loop c).wp P (lift n (written c) a Q) a w := by
        refine wp_loop (fun a' w' => a'.tmps.size = n /\ Agree (written c) a a' /\ ∃ s, Holds l s (frOf a') /\ I s w')
          (fun a' w' => @dite Nat (∃ s, Holds l s (frOf a') /\ I s w') (Classical.propDecidable _) (fun h => μ (Classical.choose h) w') (fun _ => 0)) ⟨hn, .refl _ _, s0, hs0, h0⟩ ?_
        intro a1 w1 hI
        obtain ⟨hn1, ha1, s, hs, hi⟩ := hI
        have hex : ∃ s, Holds l s (frOf a1) /\ I s w1 := ⟨s, hs, hi⟩
        have hc := Classical.choose_spec hex
        have hr : ev P C G A c (Post.then (fun f' w'' => Fr.get l f' fun s' => I s' w'' /\ μ s' w'' < μ (Classical.choose hex) w1) Q) (Fr.set l (Classical.choose hex) ((frOf a).junk (written c) (frOf a1))) w1 := hround (Classical.choose hex) (frOf a1) w1 hc.2
        rw [junk_set_eq hc.1 (fun t ht => ha1.out t ht)] at hr
        refine Code.wp_mono (fun e a2 w2 hl => ?_) (ev_sound hC hG hm c hW _ a1 w1 hn1 hr)
        cases e <;> simp only [lift, Exit.then, Post.then] at hl ⊢ <;> first
          | exact hl.elim
          | exact ⟨hl.1, ha1.trans hl.2.1, hl.2.2⟩
          | skip
        obtain ⟨hn2, ha2, h3⟩ := hl
        obtain ⟨s', hs', hi', hlt⟩ := get_elim h3
        have hex2 : ∃ s, Holds l s (frOf a2) /\ I s w2 := ⟨s', hs', hi'⟩
        refine ⟨⟨hn2, ha1.trans ha2, hex2⟩, ?_⟩
        rw [dif_pos hex2, dif_pos hex]
        rw [Holds_inj (Classical.choose_spec hex2).1 hs']
        exact hlt
      exact key
  | .rangeFunc _ _ _ _, _, _, _, _, _, h => by simp [ev] at h
  | .scope c, hW, Q, a, w, hn, h => by
    refine wp_scope_straight (Code.wp_mono (fun e a' w' hl => ?_) (ev_sound hC hG hm c hW _ a w hn h))
    cases e <;> simp only [lift, Exit.noGoto, Post.noGoto] at hl ⊢ <;> first
      | exact hl
      | exact hl.2.2
  | .label _, _, Q, a, w, hn, h => wp_label ⟨hn, .refl _ _, h⟩
  | .goto _, _, _, _, _, _, h => by simp [ev] at h
  | .refuse _, _, _, _, _, _, h => by simp [ev] at h
end Go.Sh

set_option linter.all false
namespace Go.Sh
def evRes (P : Program) : List ResultVar -> Fr -> World -> (List Value -> Prop) -> Prop
  | [], _, _, K => K []
  | .tmp t :: r, f, w, K => evRes P r f w fun l => K (f t :: l)
  | .cell a ty :: r, f, w, K => match f a with
    | .pointer p => NC p fun p => evLoad P ty p w fun v _ => evRes P r f w fun l => K (v :: l)
    | _ => False
def resV : List Value -> Value
  | [v] => v
  | l => .tuple ⟨l⟩
def nthV : List Value -> Nat -> Value
  | [], _ => undef
  | v :: _, 0 => v
  | _ :: r, n + 1 => nthV r n
def initF (args : List Value) : Fr := fun t => nthV args t
def finQ (P : Program) (fn : Func) (K Kp : Value -> World -> Prop) : Post := fun e f w => match e with
  | .normal => evRes P fn.results.toList f w fun l => K (resV l) w
  | .ret => evRes P fn.results.toList f w fun l => K (resV l) w
  | .panic [⟨v, false, false⟩] => Kp v w
  | _ => False
def withinB (n : Nat) : List Nat -> Bool
  | [] => true
  | t :: r => match Nat.ble (t + 1) n with
    | true => withinB n r
    | false => false
theorem withinB_spec {n : Nat} : {W : List Nat} -> withinB n W = true -> within n W
  | [], _ => by intro t ht; cases ht
  | t :: r, h => by
    unfold withinB at h
    split at h
    · rename_i hle
      intro u hu
      rcases List.mem_cons.1 hu with rfl | hu
      · have := Nat.le_of_ble_eq_true hle; omega
      · exact withinB_spec h u hu
    · cases h
theorem nthV_eq : ∀ (l : List Value) (t : Nat), nthV l t = (l[t]?).getD undef
  | [], t => by simp [nthV]
  | v :: r, 0 => by simp [nthV]
  | v :: r, n + 1 => by simp [nthV, nthV_eq r n]
def resOne (tmps : Array Value) : ResultVar -> Sem Value
  | .tmp t => pure (tmps.getD t undef)
  | .cell a t => do loadVar t (<- asAddr (tmps.getD a undef))
theorem evRes_elim {P : Program} {a : Act} {w : World} : {rs : List ResultVar} -> {K : List Value -> Prop} -> evRes P rs (frOf a) w K ->
    ∃ l, K l /\ (rs.mapM (resOne a.tmps)).run P w = .ok l w
  | [], K, h => ⟨[], h, by simp⟩
  | .tmp t :: r, K, h => by
    unfold evRes at h
    obtain ⟨l, hK, hr⟩ := evRes_elim h
    exact ⟨_, hK, by simp only [List.mapM_cons, Sem.run_bind, resOne, Sem.run_pure, Result.andThen_ok, hr]; rfl⟩
  | .cell p ty :: r, K, h => by
    unfold evRes at h
    split at h
    · rename_i q hq
      obtain ⟨p', rfl, h2⟩ := NC_elim h
      obtain ⟨v, S, h1, hS, hv⟩ := evLoad_elim h2
      obtain ⟨l, hK, hr⟩ := evRes_elim h1
      have hq' : a.tmps.getD p undef = .pointer (some p') := hq
      exact ⟨_, hK, by simp only [List.mapM_cons, Sem.run_bind, resOne, hq', asAddr, Sem.run_pure, Result.andThen_ok, hv w hS, hr]⟩
    · exact h.elim
theorem results_of {P : Program} {fn : Func} {a : Act} {w : World} {K : List Value -> Prop} (h : evRes P fn.results.toList (frOf a) w K) :
    ∃ l, K l /\ (results fn a.tmps).run P w = .ok (resV l) w := by
  obtain ⟨l, hK, hr⟩ := evRes_elim h
  refine ⟨l, hK, ?_⟩
  have he : results fn a.tmps = (do let vs <- fn.results.mapM (resOne a.tmps); pure (if h : vs.size = 1 then vs[0] else .tuple vs)) := by
    unfold results
    congr 2
  rw [he, Array.mapM_eq_mapM_toList]
  simp only [Sem.run_bind, Sem.run_map, hr, Result.andThen_ok, Sem.run_pure]
  congr 1
  match l with
  | [] => simp [resV]
  | [v] => simp [resV]
  | v :: u :: r => simp [resV]
theorem wp_of_ev {P : Program} {C G : Calling} {A : Ann} {fn : Func} {c : Code} {args : List Value} {w : World} {K Kp : Value -> World -> Prop}
    (hC : Fits P C) (hG : Fits P G) (hm : P.follows .mixedOrders = true) (hsz : Nat.ble args.length fn.ntmps = true)
    (hW : withinB fn.ntmps (written c) = true) (h : ev P C G A c (finQ P fn K Kp) (initF args) w) :
    c.wp P (bodyPost P fn (Ends K Kp)) { tmps := (⟨args⟩ : Array Value) ++ Array.replicate (fn.ntmps - (⟨args⟩ : Array Value).size) undef, defers := [] } w := by
  have hsz' := Nat.le_of_ble_eq_true hsz
  have h0 : frOf ⟨(⟨args⟩ : Array Value) ++ Array.replicate (fn.ntmps - args.length) undef, []⟩ = initF args := by
    funext t
    simp only [frOf, initF, nthV_eq, Array.getD_eq_getD_getElem?, Array.getElem?_append]
    by_cases ht : t < args.length
    · simp [ht]
    · simp only [List.size_toArray, ht, if_false]
      rw [List.getElem?_eq_none (by omega)]
      simp only [Array.getElem?_replicate]
      split <;> rfl
  have hn : ((⟨args⟩ : Array Value) ++ Array.replicate (fn.ntmps - args.length) undef).size = fn.ntmps := by simp; omega
  rw [<- h0] at h
  refine Code.wp_mono (fun e a' w' hl => ?_) (ev_sound hC hG hm c (withinB_spec hW) _ _ w hn h)
  cases e <;> simp only [lift, finQ, bodyPost] at hl ⊢ <;> first
    | exact hl.elim
    | exact hl.2.2.elim
    | (obtain ⟨_, ha, hq⟩ := hl
       obtain ⟨l, hK, hr⟩ := results_of hq
       exact ⟨ha.defers, _, hr, .inl ⟨_, rfl, hK⟩⟩)
    | (obtain ⟨_, ha, hq⟩ := hl
       split at hq
       · rename_i he; cases he
       · rename_i he; cases he
       · rename_i v he
         cases he
         exact ⟨ha.defers, .inr ⟨_, rfl, hq⟩⟩
       · exact hq.elim)
theorem calls_of_ev {P : Program} {C G : Calling} {A : Ann} {f : FuncId} {fn : Func} {c : Code} {args : List Value} {w : World} {K Kp : Value -> World -> Prop}
    (hC : Fits P C) (hG : Fits P G) (hm : P.follows .mixedOrders = true) (hf : P.funcs[f]? = some fn) (hb : fn.body = some c) (hsz : Nat.ble args.length fn.ntmps = true)
    (hW : withinB fn.ntmps (written c) = true) (h : ev P C G A c (finQ P fn K Kp) (initF args) w) :
    Calls P f ⟨args⟩ w (Ends K Kp) := calls_of_wp hf hb (wp_of_ev hC hG hm hsz hW h)
end Go.Sh

set_option linter.all false
namespace Go.Sh
def ArgsV : List VT -> Type
  | [] => Unit
  | t :: r => VTV t × ArgsV r
def mkArgs : (l : List VT) -> ArgsV l -> List Value
  | [], _ => []
  | t :: r, x => mkVT t x.1 :: mkArgs r x.2
def unArgs : (l : List VT) -> List Value -> (ArgsV l -> Prop) -> Prop
  | [], [], K => K ()
  | t :: r, v :: vs, K => unVT t v fun x => unArgs r vs fun y => K (x, y)
  | _, _, _ => False
theorem unArgs_elim : {l : List VT} -> {vs : List Value} -> {K : ArgsV l -> Prop} -> unArgs l vs K -> ∃ x, vs = mkArgs l x /\ K x
  | [], [], _, h => ⟨(), rfl, h⟩
  | [], _ :: _, _, h => h.elim
  | _ :: _, [], _, h => h.elim
  | t :: r, v :: vs, K, h => by
    simp only [unArgs] at h
    obtain ⟨x, rfl, h2⟩ := unVT_elim h
    obtain ⟨y, rfl, h3⟩ := unArgs_elim h2
    exact ⟨(x, y), rfl, h3⟩
theorem length_mkArgs : {l : List VT} -> {x : ArgsV l} -> (mkArgs l x).length = l.length
  | [], _ => rfl
  | t :: r, x => by simp [mkArgs, length_mkArgs]
abbrev Entry := Array Value -> World -> (Value -> World -> Prop) -> (Value -> World -> Prop) -> Prop
def FitsOne (P : Program) (g : FuncId) (c : Entry) : Prop := ∀ args w K Kp, c args w K Kp ->
  (∀ w, (callFunc g args).run P w = .ok (.enter g args) w) /\ Calls P g args w (Ends K Kp)
def FitsAny (P : Program) (g : FuncId) (c : Entry) : Prop := ∀ args w K Kp, c args w K Kp ->
  ((∀ w, (callFunc g args).run P w = .ok (.enter g args) w) /\ Calls P g args w (Ends K Kp)) ∨ ∃ v w', (callFunc g args).run P w = .ok (.value v) w' /\ K v w'
theorem FitsOne.any {P : Program} {g : FuncId} {c : Entry} (h : FitsOne P g c) : FitsAny P g c := fun args w K Kp hc => .inl (h args w K Kp hc)
def tabC (l : List (Nat × Entry)) : Calling := fun g args w K Kp => match look l g with
  | some c => c args w K Kp
  | none => False
theorem look_mem {α : Type} : {l : List (Nat × α)} -> {g : Nat} -> {c : α} -> look l g = some c -> (g, c) ∈ l
  | [], _, _, h => by simp [look] at h
  | (k, x) :: r, g, c, h => by
    simp only [look, cond_eq_ite] at h
    by_cases e : Nat.beq k g = true
    · rw [if_pos e] at h
      have := Nat.eq_of_beq_eq_true e
      subst this
      cases h
      simp
    · rw [if_neg e] at h
      exact List.mem_cons_of_mem _ (look_mem h)
theorem tabC_fits {P : Program} {l : List (Nat × Entry)} (h : ∀ p ∈ l, FitsAny P p.1 p.2) : Fits P (tabC l) := by
  intro g args w K Kp hc
  unfold tabC at hc
  split at hc
  · rename_i c hl
    exact h _ (look_mem hl) args w K Kp hc
  · exact hc.elim
theorem fits_nil {P : Program} : ∀ p ∈ ([] : List (Nat × Entry)), FitsAny P p.1 p.2 := by simp
theorem fits_consX {P : Program} {g : Nat} {c : Entry} {l : List (Nat × Entry)} (h : FitsAny P g c) (hl : ∀ p ∈ l, FitsAny P p.1 p.2) : ∀ p ∈ (g, c) :: l, FitsAny P p.1 p.2 := by
  intro p hp
  rcases List.mem_cons.1 hp with rfl | hp
  · exact h
  · exact hl p hp
theorem fits_cons {P : Program} {g : Nat} {c : Entry} {l : List (Nat × Entry)} (h : FitsOne P g c) (hl : ∀ p ∈ l, FitsAny P p.1 p.2) : ∀ p ∈ (g, c) :: l, FitsAny P p.1 p.2 := fits_consX h.any hl
def ground (P : Program) : Calling := fun g args w K Kp =>
  (∀ w, (callFunc g args).run P w = .ok (.enter g args) w) /\ Calls P g args w (Ends K Kp)
theorem ground_fits (P : Program) : Fits P (ground P) := fun _ _ _ _ _ h => .inl h
theorem fits_of_tie {P : Program} {T : List (Nat × Entry)} {A : Ann} {f : FuncId} {fn : Func} {c : Code} {l : List VT} {F : ArgsV l -> (Value -> World -> Prop) -> (Value -> World -> Prop) -> World -> Prop}
    (hT : ∀ p ∈ T, FitsAny P p.1 p.2) (hm : P.follows .mixedOrders = true) (hf : P.funcs[f]? = some fn) (hcall : ∀ args w, (callFunc f args).run P w = .ok (.enter f args) w)
    (hb : fn.body = some c) (hsz : Nat.ble l.length fn.ntmps = true) (hW : withinB fn.ntmps (written c) = true)
    (htie : ∀ x K Kp w, F x K Kp w = ev P (tabC T) (ground P) A c (finQ P fn K Kp) (initF (mkArgs l x)) w) :
    FitsOne P f fun args w K Kp => unArgs l args.toList fun x => F x K Kp w := by
  intro args w K Kp h
  obtain ⟨x, hx, h2⟩ := unArgs_elim h
  have ha : args = ⟨mkArgs l x⟩ := Array.toList_inj.1 (by simpa using hx)
  subst ha
  refine ⟨fun w => hcall _ w, ?_⟩
  rw [htie] at h2
  exact calls_of_ev (tabC_fits hT) (ground_fits P) hm hf hb (by rw [length_mkArgs]; exact hsz) hW h2
end Go.Sh

set_option linter.all false
namespace Go.Sh
abbrev CallingD := FuncId -> Array Value -> Option Value -> World -> (Bool -> World -> Prop) -> Prop
abbrev EntryD := Array Value -> Option Value -> World -> (Bool -> World -> Prop) -> Prop
def modeOf : Option Value -> FrameMode
  | none => .returning
  | some v => .panicking [{ v := v, recovered := false }]
def markOf : Option Value -> Bool -> FrameMode
  | none, _ => .returning
  | some v, b => .panicking [{ v := v, recovered := b }]
def FitsDOne (P : Program) (g : FuncId) (c : EntryD) : Prop := ∀ args pv w K, c args pv w K ->
  (∀ w, (callFunc g args).run P w = .ok (.enter g args) w) /\ CallsD P g args (modeOf pv) w fun e u' w' => ∃ v b, e = .returned v /\ K b w' /\ u' = markOf pv b
def FitsD (P : Program) (C : CallingD) : Prop := ∀ g args pv w K, C g args pv w K ->
  (∀ w, (callFunc g args).run P w = .ok (.enter g args) w) /\ CallsD P g args (modeOf pv) w fun e u' w' => ∃ v b, e = .returned v /\ K b w' /\ u' = markOf pv b
def tabD (l : List (Nat × EntryD)) : CallingD := fun g args pv w K => match look l g with
  | some c => c args pv w K
  | none => False
theorem tabD_fits {P : Program} {l : List (Nat × EntryD)} (h : ∀ p ∈ l, FitsDOne P p.1 p.2) : FitsD P (tabD l) := by
  intro g args pv w K hc
  unfold tabD at hc
  split at hc
  · rename_i c hl
    exact h _ (look_mem hl) args pv w K hc
  · exact hc.elim
theorem fitsD_nil {P : Program} : ∀ p ∈ ([] : List (Nat × EntryD)), FitsDOne P p.1 p.2 := by simp
theorem fitsD_cons {P : Program} {g : Nat} {c : EntryD} {l : List (Nat × EntryD)} (h : FitsDOne P g c) (hl : ∀ p ∈ l, FitsDOne P p.1 p.2) : ∀ p ∈ (g, c) :: l, FitsDOne P p.1 p.2 := by
  intro p hp
  rcases List.mem_cons.1 hp with rfl | hp
  · exact h
  · exact hl p hp
theorem fitsD_plain {P : Program} {T : List (Nat × Entry)} {A : Ann} {f : FuncId} {fn : Func} {c : Code} {l : List VT} {F : ArgsV l -> (World -> Prop) -> World -> Prop}
    (hT : ∀ p ∈ T, FitsAny P p.1 p.2) (hm : P.follows .mixedOrders = true) (hf : P.funcs[f]? = some fn) (hcall : ∀ args w, (callFunc f args).run P w = .ok (.enter f args) w)
    (hb : fn.body = some c) (hsz : Nat.ble l.length fn.ntmps = true) (hW : withinB fn.ntmps (written c) = true)
    (htie : ∀ x K w, F x K w = ev P (tabC T) (ground P) A c (finQ P fn (fun _ w' => K w') noP) (initF (mkArgs l x)) w) :
    FitsDOne P f fun args _ w K => unArgs l args.toList fun x => F x (K false) w := by
  intro args pv w K h
  obtain ⟨x, hx, h2⟩ := unArgs_elim h
  have ha : args = ⟨mkArgs l x⟩ := Array.toList_inj.1 (by simpa using hx)
  subst ha
  refine ⟨fun w => hcall _ w, ?_⟩
  rw [htie] at h2
  refine (callsD_of_wp hf hb (wp_of_ev (tabC_fits hT) (ground_fits P) hm (by rw [length_mkArgs]; exact hsz) hW h2)).mono ?_
  rintro e u' w' ⟨rfl, hE⟩
  obtain ⟨v, rfl, hK⟩ := hE.val
  refine ⟨v, false, rfl, hK, ?_⟩
  cases pv <;> rfl
theorem initF_eq {args : List Value} {n : Nat} : frOf ⟨(⟨args⟩ : Array Value) ++ Array.replicate (n - args.length) undef, []⟩ = initF args := by
  funext t
  simp only [frOf, initF, nthV_eq, Array.getD_eq_getD_getElem?, Array.getElem?_append]
  by_cases ht : t < args.length
  · simp [ht]
  · simp only [List.size_toArray, ht, if_false]
    rw [List.getElem?_eq_none (by omega)]
    simp only [Array.getElem?_replicate]
    split <;> rfl
def deferOf : Code -> Option Call
  | .region _ ops false => match ops.toList with
    | [o] => match o.op with
      | .defer c => match o.guard, o.dst with
        | none, none => some c
        | _, _ => none
      | _ => none
    | _ => none
  | _ => none
theorem deferOf_elim {x : Code} {c : Call} (h : deferOf x = some c) : ∃ id o, x = .region id #[o] false /\ o.op = .defer c /\ o.guard = none /\ o.dst = none := by
  unfold deferOf at h
  split at h
  · rename_i id ops
    split at h
    · rename_i o ho
      split at h
      · rename_i k hk
        split at h
        · rename_i hg hd
          cases h
          have : ops = #[o] := Array.toList_inj.1 (by simpa using ho)
          subst this
          exact ⟨id, o, rfl, hk, hg, hd⟩
        · cases h
      · cases h
    · cases h
  · cases h
def deferOf2 : Code -> Option (Oper × Call)
  | .region _ ops false => match ops.toList with
    | [o1, o] => match o.op with
      | .defer c => match o.guard, o.dst with
        | none, none => match o1.guard with
          | none => some (o1, c)
          | _ => none
        | _, _ => none
      | _ => none
    | _ => none
  | _ => none
theorem deferOf2_elim {x : Code} {o1 : Oper} {c : Call} (h : deferOf2 x = some (o1, c)) : ∃ id o, x = .region id #[o1, o] false /\ o.op = .defer c /\ o.guard = none /\ o.dst = none /\ o1.guard = none := by
  unfold deferOf2 at h
  split at h
  · rename_i id ops
    split at h
    · rename_i p o ho
      split at h
      · rename_i k hk
        split at h
        · rename_i hg hd
          split at h
          · rename_i hg1
            cases h
            have : ops = #[_, o] := Array.toList_inj.1 (by simpa using ho)
            subst this
            exact ⟨id, o, rfl, hk, hg, hd, hg1⟩
          · cases h
        · cases h
      · cases h
    · cases h
  · cases h
def evD (P : Program) (C G : Calling) (A : Ann) (Q0 : Post) (Q1 : FuncId -> Array Value -> Post) : Code -> Fr -> World -> Prop
  | .seq x y, f, w => match deferOf x with
    | some c => match c.callee with
      | .value v => match f.ev v with
        | .func (.func g) first cap => ev P C G A y (Q1 g ((first ++ c.args.map f.ev) ++ cap)) f w
        | _ => False
      | _ => False
    | none => match deferOf2 x with
      | some (o1, c) => evOp P C G o1.op o1.type f.ev w (fun u w' => match c.callee with
        | .value v => match (f.putO o1.dst u).ev v with
          | .func (.func g) first cap => ev P C G A y (Q1 g ((first ++ c.args.map (f.putO o1.dst u).ev) ++ cap)) (f.putO o1.dst u) w'
          | _ => False
        | _ => False) fun _ _ => False
      | none => match (firstR y).bind (look A.joins) with
        | none => ev P C G A x (Post.then (evD P C G A Q0 Q1 y) Q0) f w
        | some l => JOIN (St l) (fun J => ev P C G A x (Post.then (fun f' w' => Fr.get l f' fun s => J s w') Q0) f w)
            fun s j w' => evD P C G A Q0 Q1 y (Fr.set l s (f.junk (written x) j)) w'
  | c, f, w => ev P C G A c Q0 f w
def liftD (n : Nat) (Q0 : Post) (Q1 : FuncId -> Array Value -> Post) : Exit -> Act -> World -> Prop
  | .outgrown, _, _ => False
  | e, a, w => a.tmps.size = n /\ ((a.defers = [] /\ Q0 e (frOf a) w) ∨ ∃ g cap args, a.defers = [⟨.fn (.func g) cap, args⟩] /\ Q1 g (args ++ cap) e (frOf a) w)
theorem evD_sound {P : Program} {C G : Calling} (hC : Fits P C) (hG : Fits P G) (hm : P.follows .mixedOrders = true) {A : Ann} {n : Nat} {Q0 : Post} {Q1 : FuncId -> Array Value -> Post} :
    ∀ (c : Code), within n (written c) -> ∀ (a : Act) (w : World), a.tmps.size = n -> a.defers = [] -> evD P C G A Q0 Q1 c (frOf a) w -> c.wp P (liftD n Q0 Q1) a w := by
  have plain : ∀ (c : Code), within n (written c) -> ∀ (a : Act) (w : World), a.tmps.size = n -> a.defers = [] -> ev P C G A c Q0 (frOf a) w -> c.wp P (liftD n Q0 Q1) a w := by
    intro c hW a w hn hd h
    refine Code.wp_mono (fun e a' w' hl => ?_) (ev_sound hC hG hm c hW Q0 a w hn h)
    cases e <;> simp only [lift, liftD] at hl ⊢ <;> first
      | exact hl.elim
      | exact ⟨hl.1, .inl ⟨by rw [hl.2.1.defers, hd], hl.2.2⟩⟩
  intro c
  induction c with
  | seq x y _ ihy =>
    intro hW a w hn hd h
    have hWx : within n (written x) := fun t ht => hW t (by simp [written, ht])
    have hWy : within n (written y) := fun t ht => hW t (by simp [written, ht])
    unfold evD at h
    split at h
    · rename_i k hk
      obtain ⟨id, o, rfl, ho, hg, hdst⟩ := deferOf_elim hk
      split at h
      · rename_i v hv
        split at h
        · rename_i g first cap hf
          refine wp_seq (wp_region_list ?_)
          show wpList P #[o] _ [o] a w
          unfold wpList
          have hwant : Region.wanted o (yielded #[o] a.tmps) = true := by simp [Region.wanted, hg]
          rw [if_pos hwant]
          refine .inl ?_
          have hrun : (execOp a.eval o).run P w = .ok (.defer ⟨.fn (.func g) cap, first ++ k.args.map (frOf a).ev⟩) w := by
            obtain ⟨dst, op, type, pos, after, guard⟩ := o
            obtain ⟨callee, cargs, cts⟩ := k
            simp only at ho hv
            subst ho; subst hv
            rw [frOf_eval] at hf
            simp [execOp, resolve, hf, Deferred.ofValue, frOf_eval']
          unfold Oper.wp
          rw [hrun, Oper.upon_defer, hdst]
          show (Exit.then _ _ _ _ _ : Prop)
          have h2 := ev_sound hC hG hm y hWy (Q1 g ((first ++ k.args.map (frOf a).ev) ++ cap)) { a with defers := ⟨.fn (.func g) cap, first ++ k.args.map (frOf a).ev⟩ :: a.defers } w hn h
          refine Code.wp_mono (fun e a' w' hl => ?_) h2
          cases e <;> simp only [lift, liftD] at hl ⊢ <;> first
            | exact hl.elim
            | exact ⟨hl.1, .inr ⟨g, cap, _, by rw [hl.2.1.defers, hd], hl.2.2⟩⟩
        · exact h.elim
      · exact h.elim
    · split at h
      · rename_i o1 k hk
        obtain ⟨id, o, rfl, ho, hg, hdst, hg1⟩ := deferOf2_elim hk
        refine wp_seq (wp_region_list ?_)
        show wpList P #[o1, o] _ [o1, o] a w
        unfold wpList
        have hwant1 : Region.wanted o1 (yielded #[o1, o] a.tmps) = true := by simp [Region.wanted, hg1]
        rw [if_pos hwant1]
        have hput : ∀ v, frOf (a.put o1.dst v) = (frOf a).putO o1.dst v := fun v => frOf_putO (fun t ht => by have := hWx t (by simp [written, dsts, ht]); omega) v
        refine .inl (wp_of_goes (Kp := fun _ _ => False) (by have := evOp_sound hC hG (fun _ => rfl) (o := o1) h; rwa [frOf_eval'] at this) (fun u w' hK => ?_) fun v w' hK => hK.elim)
        split at hK
        · rename_i v hv
          rw [<- hput] at hK
          split at hK
          · rename_i g first cap hf
            unfold wpList
            have hwant : Region.wanted o (yielded #[o1, o] (a.put o1.dst u).tmps) = true := by simp [Region.wanted, hg]
            rw [if_pos hwant]
            refine .inl ?_
            have hrun : (execOp (a.put o1.dst u).eval o).run P w' = .ok (.defer ⟨.fn (.func g) cap, first ++ k.args.map (frOf (a.put o1.dst u)).ev⟩) w' := by
              obtain ⟨dst, op, type, pos, after, guard⟩ := o
              obtain ⟨callee, cargs, cts⟩ := k
              simp only at ho hv
              subst ho; subst hv
              rw [frOf_eval] at hf
              simp [execOp, resolve, hf, Deferred.ofValue, frOf_eval']
            unfold Oper.wp
            rw [hrun, Oper.upon_defer, hdst]
            show (Exit.then _ _ _ _ _ : Prop)
            have h2 := ev_sound hC hG hm y hWy (Q1 g ((first ++ k.args.map (frOf (a.put o1.dst u)).ev) ++ cap)) { (a.put o1.dst u) with defers := ⟨.fn (.func g) cap, first ++ k.args.map (frOf (a.put o1.dst u)).ev⟩ :: (a.put o1.dst u).defers } w' (by rw [<- hn]; exact size_put _ _ _) hK
            refine Code.wp_mono (fun e a' w' hl => ?_) h2
            cases e <;> simp only [lift, liftD] at hl ⊢ <;> first
              | exact hl.elim
              | exact ⟨hl.1, .inr ⟨g, cap, _, by rw [hl.2.1.defers, defers_put, hd], hl.2.2⟩⟩
          · exact hK.elim
        · exact hK.elim
      split at h
      · refine wp_seq (Code.wp_mono (fun e a' w' hl => ?_) (ev_sound hC hG hm x hWx _ a w hn h))
        cases e <;> simp only [lift, Exit.then, Post.then, liftD] at hl ⊢ <;> first
          | exact hl.elim
          | exact ⟨hl.1, .inl ⟨by rw [hl.2.1.defers, hd], hl.2.2⟩⟩
          | exact ihy hWy a' w' hl.1 (by rw [hl.2.1.defers, hd]) hl.2.2
      · rename_i l hl0
        obtain ⟨J, h1, h2⟩ := h
        refine wp_seq (Code.wp_mono (fun e a' w' hl => ?_) (ev_sound hC hG hm x hWx _ a w hn h1))
        cases e <;> simp only [lift, Exit.then, Post.then, liftD] at hl ⊢ <;> first
          | exact hl.elim
          | exact ⟨hl.1, .inl ⟨by rw [hl.2.1.defers, hd], hl.2.2⟩⟩
          | (obtain ⟨s, hs, hJ⟩ := get_elim hl.2.2
             have h3 : evD P C G A Q0 Q1 y (Fr.set l s ((frOf a).junk (written x) (frOf a'))) w' := h2 s (frOf a') w' hJ
             rw [junk_set_eq hs (fun t ht => hl.2.1.out t ht)] at h3
             exact ihy hWy a' w' hl.1 (by rw [hl.2.1.defers, hd]) h3)
  | _ => intro hW a w hn hd h; exact plain _ hW a w hn hd (by unfold evD at h; exact h)
def finD (P : Program) (fn : Func) (D : CallingD) (K Kp : Value -> World -> Prop) (g : FuncId) (args : Array Value) : Post := fun e f w => match e with
  | .normal => D g args none w fun _ w' => evRes P fn.results.toList f w' fun l => K (resV l) w'
  | .ret => D g args none w fun _ w' => evRes P fn.results.toList f w' fun l => K (resV l) w'
  | .panic [⟨v, false, false⟩] => D g args (some v) w fun b w' => match b with
    | true => evRes P fn.results.toList f w' fun l => K (resV l) w'
    | false => Kp v w'
  | _ => False
theorem calls_of_evD {P : Program} {C G : Calling} {D : CallingD} {A : Ann} {f : FuncId} {fn : Func} {c : Code} {args : List Value} {w : World} {K Kp : Value -> World -> Prop}
    (hC : Fits P C) (hG : Fits P G) (hD : FitsD P D) (hm : P.follows .mixedOrders = true) (hf : P.funcs[f]? = some fn) (hb : fn.body = some c) (hsz : Nat.ble args.length fn.ntmps = true)
    (hW : withinB fn.ntmps (written c) = true) (h : evD P C G A (finQ P fn K Kp) (finD P fn D K Kp) c (initF args) w) :
    Calls P f ⟨args⟩ w (Ends K Kp) := by
  have hsz' := Nat.le_of_ble_eq_true hsz
  have hn : ((⟨args⟩ : Array Value) ++ Array.replicate (fn.ntmps - args.length) undef).size = fn.ntmps := by simp; omega
  rw [<- initF_eq (n := fn.ntmps)] at h
  refine calls_of_wp_defers hf hb (Code.wp_mono (fun e a' w' hl => ?_) (evD_sound hC hG hm c (withinB_spec hW) _ w hn rfl h))
  have leave : ∀ (pv : Option Value) (g : FuncId) (cap dargs : Array Value), D g (dargs ++ cap) pv w' (fun b w'' => match pv, b with
        | some v, false => Kp v w''
        | _, _ => evRes P fn.results.toList (frOf a') w'' fun l => K (resV l) w'') ->
      Leaves P fn a'.tmps (Ends K Kp) [⟨.fn (.func g) cap, dargs⟩] (modeOf pv) w' := by
    intro pv g cap dargs hd
    obtain ⟨h1, h2⟩ := hD _ _ _ _ _ hd
    refine leaves_cons (by cases pv <;> simp [modeOf]) (f := g) (args := dargs ++ cap) (by simp [invoke, h1]) (h2.mono ?_)
    rintro e u' w'' ⟨v, b, rfl, hk, rfl⟩
    cases pv with
    | none =>
      obtain ⟨r, hK, hr⟩ := results_of hk
      exact ⟨_, hr, .inl ⟨_, rfl, hK⟩⟩
    | some p =>
      cases b with
      | true =>
        obtain ⟨r, hK, hr⟩ := results_of hk
        exact ⟨_, hr, .inl ⟨_, rfl, hK⟩⟩
      | false => exact .inr ⟨_, rfl, hk⟩
  cases e <;> simp only [liftD, bodyPostD] at hl ⊢ <;> first
    | exact hl.elim
    | skip
  · obtain ⟨_, ⟨hd, hq⟩ | ⟨g, cap, dargs, hd, hq⟩⟩ := hl
    · rw [hd]
      obtain ⟨r, hK, hr⟩ := results_of hq
      exact ⟨_, hr, .inl ⟨_, rfl, hK⟩⟩
    · rw [hd]; exact leave none g cap dargs hq
  · obtain ⟨_, ⟨_, hq⟩ | ⟨_, _, _, _, hq⟩⟩ := hl <;> exact hq.elim
  · obtain ⟨_, ⟨_, hq⟩ | ⟨_, _, _, _, hq⟩⟩ := hl <;> exact hq.elim
  · obtain ⟨_, ⟨hd, hq⟩ | ⟨g, cap, dargs, hd, hq⟩⟩ := hl
    · rw [hd]
      obtain ⟨r, hK, hr⟩ := results_of hq
      exact ⟨_, hr, .inl ⟨_, rfl, hK⟩⟩
    · rw [hd]; exact leave none g cap dargs hq
  · obtain ⟨_, ⟨hd, hq⟩ | ⟨g, cap, dargs, hd, hq⟩⟩ := hl
    · rw [hd]
      unfold finQ at hq
      split at hq
      · rename_i he; cases he
      · rename_i he; cases he
      · rename_i v he
        cases he
        exact .inr ⟨_, rfl, hq⟩
      · exact hq.elim
    · rw [hd]
      unfold finD at hq
      split at hq
      · rename_i he; cases he
      · rename_i he; cases he
      · rename_i v he
        cases he
        refine leave (some v) g cap dargs ?_
        have : (fun (b : Bool) (w'' : World) => match b with
          | true => evRes P fn.results.toList (frOf a') w'' fun l => K (resV l) w''
          | false => Kp v w'') = fun (b : Bool) (w'' : World) => match some v, b with
          | some v, false => Kp v w''
          | _, _ => evRes P fn.results.toList (frOf a') w'' fun l => K (resV l) w'' := by
            funext b w''; cases b <;> rfl
        rw [this] at hq
        exact hq
      · exact hq.elim
theorem Ends.mono {K Kp Kp' : Value -> World -> Prop} {e : Ending} {w : World} (h : Ends K Kp e w) (hp : ∀ v w, Kp v w -> Kp' v w) : Ends K Kp' e w := by
  rcases h with h | ⟨v, h1, h2⟩
  · exact .inl h
  · exact .inr ⟨v, h1, hp _ _ h2⟩
theorem fits_of_tieD {P : Program} {T : List (Nat × Entry)} {TD : List (Nat × EntryD)} {A : Ann} {f : FuncId} {fn : Func} {c : Code} {l : List VT} {F : ArgsV l -> (Value -> World -> Prop) -> World -> Prop}
    (hT : ∀ p ∈ T, FitsAny P p.1 p.2) (hTD : ∀ p ∈ TD, FitsDOne P p.1 p.2) (hm : P.follows .mixedOrders = true) (hf : P.funcs[f]? = some fn) (hcall : ∀ args w, (callFunc f args).run P w = .ok (.enter f args) w)
    (hb : fn.body = some c) (hsz : Nat.ble l.length fn.ntmps = true) (hW : withinB fn.ntmps (written c) = true)
    (htie : ∀ x K w, F x K w = evD P (tabC T) (ground P) A (finQ P fn K noP) (finD P fn (tabD TD) K noP) c (initF (mkArgs l x)) w) :
    FitsOne P f fun args w K _ => unArgs l args.toList fun x => F x K w := by
  intro args w K Kp h
  obtain ⟨x, hx, h2⟩ := unArgs_elim h
  have ha : args = ⟨mkArgs l x⟩ := Array.toList_inj.1 (by simpa using hx)
  subst ha
  refine ⟨fun w => hcall _ w, ?_⟩
  rw [htie] at h2
  exact (calls_of_evD (tabC_fits hT) (ground_fits P) (tabD_fits hTD) hm hf hb (by rw [length_mkArgs]; exact hsz) hW h2).mono fun e w' hE => hE.mono fun _ _ f => f.elim
theorem fits_some {P : Program} {f : FuncId} {C : Nat -> Entry} (h : ∀ n, FitsOne P f (C n)) : FitsOne P f fun args w K Kp => ∃ n, C n args w K Kp :=
  fun args w K Kp ⟨n, hc⟩ => h n args w K Kp hc
end Go.Sh

set_option linter.all false
namespace Go.Sh
def bitK (k : IntKind) (op : Nat) (a b : Int) : Int :=
  k.wrap (match op with
    | 0 => BitVec.ofInt k.bits a &&& BitVec.ofInt k.bits b
    | 1 => BitVec.ofInt k.bits a ||| BitVec.ofInt k.bits b
    | 2 => BitVec.ofInt k.bits a ^^^ BitVec.ofInt k.bits b
    | _ => BitVec.ofInt k.bits a &&& ~~~BitVec.ofInt k.bits b).toNat
end Go.Sh
