/- The sweeper does what its sets, its heap and its records say. No further condition. -/
import Derived.Test.YtnkkjmcimhjnhaaGreatDoorC
import Derived.Test.YtnkkjmcimhjnhaaGreatDoorF
import Derived.Test.YtnkkjmcimhjnhaaGreatDoorL
import Derived.Test.YtnkkjmcimhjnhaaGreatDoorQ
import Derived.Test.YtnkkjmcimhjnhaaGreatDoorM
set_option linter.all false
set_option maxRecDepth 4000
set_option maxHeartbeats 1000000
namespace Go.Sh
structure Rc where
  blk : Nat
  addr : Int
  kind : Int
  data : Int
def Rc.key (x : Rc) : Int := 4 * x.addr + x.kind
def rcptr (x : Rc) : Option Addr := some ⟨x.blk, 0, none⟩
def headP : List Rc -> Option Addr -> Option Addr
  | [], p => p
  | x :: _, _ => rcptr x
def rcC (E : Env) (x : Rc) (p : Option Addr) : Pr := Cells x.blk E.t_special_record [.int .u64 x.addr, .int .i64 x.kind, .int .u64 x.data, .pointer p]
def chainT (E : Env) : List Rc -> Option Addr -> List Pr
  | [], _ => []
  | x :: r, p => rcC E x (headP r p) :: chainT E r p
structure RcInv (R : List Rc) : Prop where
  srt : Srt Rc.key R
  kd : ∀ x ∈ R, 1 <= x.kind ∧ x.kind <= 3 ∧ 0 <= x.addr ∧ x.addr < 18446744073709551616
  few : R.length <= 1099511627776
def spcres (E : Env) (b : Nat) (A : List Rc) (p : Option Addr) (n : Int) : List Pr := Cells b E.t_special_Specials [.pointer (headP A p), .int .i64 n] :: chainT E A p
def SpecP (E : Env) (b : Nat) (R : List Rc) : Pr := Where (RcInv R) (Star (spcres E b R none R.length))
section
variable {E : Env} {w : World} {Z : List Pr} {b : Nat} {R : List Rc}
theorem Sat.spec : Sat (SpecP E b R :: Z) w ↔ RcInv R ∧ Sat (spcres E b R none R.length ++ Z) w := by
  unfold SpecP
  rw [Sat.where, Sat.star]
theorem spcnew_spec (H : Sat Z w) {K : Option Addr -> World -> Prop} (hK : ∀ b w', Sat (SpecP E b [] :: Z) w' -> K (some ⟨b, 0, none⟩) w') : F.special_New E K w := by
  unfold F.special_New
  refine AL_cells (vs := [.pointer none, .int .i64 0]) H fun b w' H' _ => hK b w' (Sat.spec.2 ⟨⟨.nil, fun x hx => (by cases hx), by decide⟩, H'⟩)
end
end Go.Sh

set_option linter.all false
set_option maxRecDepth 4000
set_option maxHeartbeats 2000000
namespace Go.Sh
def sp3 (x : Rc) : List Value := [.int .u64 x.addr, .int .i64 x.kind, .int .u64 x.data]
section
variable {E : Env} {w : World} {Z : List Pr} {b : Nat} {R : List Rc}
end
end Go.Sh

set_option linter.all false
set_option maxRecDepth 8000
set_option maxHeartbeats 2000000
namespace Go.Sh
structure SW where
  S : HS
  L : List Itm
  R : List Rc
  em : List Rc
  freed : Int
  rate : Int
  charged : Int
  repaid : Int
def swcells (h s r : Nat) (em : SlV) (W : SW) : List Value := [.pointer (some ⟨h, 0, none⟩), .pointer (some ⟨s, 0, none⟩), .pointer (some ⟨r, 0, none⟩), slV em, .int .u64 W.freed, .int .u64 W.rate, .int .u64 W.charged, .int .u64 W.repaid]
def swres (E : Env) (b h s r : Nat) (W : SW) (em : SlV) : List Pr := [Cells b E.t_sweep_Sweeper (swcells h s r em W), HeapP E h W.S, SetsP E s W.L, SpecP E r W.R, Row E.t_api_Special 3 em (recs sp3 W.em)]
def SweepP (E : Env) (b h s r : Nat) (W : SW) : Pr := Ex fun em : SlV => Star (swres E b h s r W em)
structure SpOk (x : SI) : Prop where
  st : x.state = 1
  cls : 0 <= x.cls ∧ x.cls < 68
  el : x.elem = if x.cls = 0 then x.pages * 8192 else (clsAt x.cls).1
  slo : x.slots = if x.cls = 0 then 1 else (clsAt x.cls).2.2.1
  mg : x.magic = (clsAt x.cls).2.2.2
  pg : 1 <= x.pages ∧ x.pages <= 134217728 ∧ (0 < x.cls -> x.pages = (clsAt x.cls).2.1)
  ba : 0 <= x.base ∧ x.base % 8192 = 0 ∧ x.base + x.pages * 8192 <= 281474976710656
abbrev Bits := Int -> Nat -> Bool
def Bits.set (U : Bits) (id : Int) (u : Nat -> Bool) : Bits := fun i => if i = id then u else U i
structure SwInv (W : SW) (U M : Bits) : Prop where
  hI : HInv W.S no
  sp : ∀ id x, W.S.sp id = some x -> SpOk x.2 ∧ SpG x.2 (U id) (M id)
  it : ∀ x ∈ W.L, ∃ y, W.S.sp x.id = some y ∧ y.2.base = x.base
theorem cls_facts : (clsT.all fun c => decide (0 <= c.1) && (decide (0 <= c.2.2.1) && (decide (c.2.2.1 <= 1024) && (decide (c.1 * c.2.2.1 <= c.2.1 * 8192) && (decide (0 <= c.2.2.2) && (decide (c.2.2.2 < 4294967296) && (decide (c.2.2.2 = 0) || (decide (8 <= c.1) && (decide (c.1 <= 32768) && (decide (4294967296 <= c.2.2.2 * c.1) && (decide ((c.2.2.2 * c.1 - 4294967296) * c.2.2.1 < c.2.2.2) && (decide (1 <= c.2.2.1) && decide (1 <= c.2.1))))))))))))) = true := by decide +kernel
theorem cls_pos : ((clsT.drop 1).all fun c => decide (8 <= c.1) && (decide (c.1 <= 32768) && (decide (1 <= c.2.2.1) && (decide (1 <= c.2.1) && (decide (c.1 % 8 = 0) && decide (0 < c.2.2.2)))))) = true := by decide +kernel
theorem cls_at_pos {c : Int} (h0 : 0 < c) (h1 : c < 68) : 8 <= (clsAt c).1 ∧ (clsAt c).1 <= 32768 ∧ 1 <= (clsAt c).2.2.1 ∧ 1 <= (clsAt c).2.1 ∧ (clsAt c).1 % 8 = 0 ∧ 0 < (clsAt c).2.2.2 := by
  have h := cls_at (c := c) (by omega) h1
  have h2 : (clsT.drop 1)[c.toNat - 1]? = some (clsAt c) := by rw [List.getElem?_drop, show 1 + (c.toNat - 1) = c.toNat by omega]; exact h
  have := List.all_eq_true.1 cls_pos _ (List.mem_of_getElem? h2)
  simpa using this
theorem cls_at_all {c : Int} (h0 : 0 <= c) (h1 : c < 68) : 0 <= (clsAt c).1 ∧ 0 <= (clsAt c).2.2.1 ∧ (clsAt c).2.2.1 <= 1024 ∧ (clsAt c).1 * (clsAt c).2.2.1 <= (clsAt c).2.1 * 8192 ∧ 0 <= (clsAt c).2.2.2 ∧ (clsAt c).2.2.2 < 4294967296 ∧
    ((clsAt c).2.2.2 = 0 ∨ (8 <= (clsAt c).1 ∧ (clsAt c).1 <= 32768 ∧ 4294967296 <= (clsAt c).2.2.2 * (clsAt c).1 ∧ ((clsAt c).2.2.2 * (clsAt c).1 - 4294967296) * (clsAt c).2.2.1 < (clsAt c).2.2.2 ∧ 1 <= (clsAt c).2.2.1 ∧ 1 <= (clsAt c).2.1)) := by
  have := List.all_eq_true.1 cls_facts _ (List.mem_of_getElem? (cls_at h0 h1))
  simpa using this
theorem SpOk.size {x : SI} (h : SpOk x) : 0 < x.elem ∧ x.elem <= 1099511627776 ∧ 1 <= x.slots ∧ x.slots <= 1024 ∧ x.elem * x.slots <= x.pages * 8192 := by
  have hc := h.cls
  have hp := h.pg
  by_cases e : x.cls = 0
  · have h1 := h.el; have h2 := h.slo
    rw [if_pos e] at h1 h2
    rw [h1, h2]; omega
  · have h1 := h.el; have h2 := h.slo
    rw [if_neg e] at h1 h2
    have h3 := cls_at_pos (c := x.cls) (by omega) hc.2
    have h4 := cls_at_all hc.1 hc.2
    have h5 := hp.2.2 (by omega)
    rw [h1, h2, h5]; omega
theorem SpOk.upd {x y : SI} (h : SpOk x) (h1 : y.base = x.base) (h2 : y.pages = x.pages) (h3 : y.state = x.state) (h4 : y.cls = x.cls) (h5 : y.elem = x.elem) (h6 : y.slots = x.slots) (h7 : y.magic = x.magic) : SpOk y := by
  refine ⟨by rw [h3]; exact h.st, by rw [h4]; exact h.cls, by rw [h5, h4, h2]; exact h.el, by rw [h6, h4]; exact h.slo, by rw [h7, h4]; exact h.mg, by rw [h2, h4]; exact h.pg, by rw [h1, h2]; exact h.ba⟩
theorem spOf_ok {page n c : Int} {np : Bool} (h0 : 0 <= page) (h1 : page + n <= 34359738368) (hb : ¬ spBad 0 n c) (hn : 0 <= n) : SpOk (spOf page n c np) := by
  unfold spBad at hb
  have hc : 0 <= c ∧ c < 68 := by omega
  have hcb := cls_bnd hc.1 hc.2
  have hp : 0 < c -> n = (clsAt c).2.1 := fun h => Classical.byContradiction fun g => hb (.inr (.inr (.inr (.inr (.inr (.inr ⟨h, g⟩))))))
  have hn2 : n <= 134217728 := by
    by_cases e : c = 0
    · omega
    · have := hp (by omega); omega
  refine ⟨rfl, hc, rfl, rfl, rfl, ⟨by show 1 <= n; omega, by show n <= _; omega, hp⟩, by show 0 <= page * 8192 ∧ page * 8192 % 8192 = 0 ∧ page * 8192 + n * 8192 <= _; omega⟩
theorem spOf_g {page n c : Int} {np : Bool} (h : SpOk (spOf page n c np)) : SpG (spOf page n c np) (fun _ => false) fun _ => false := by
  have hs := h.size
  refine ⟨rowBt_nil fun _ => rfl, rowBt_nil fun _ => rfl, by show ((0 : Nat) : Int) * 64 <= _; omega, by show ((0 : Nat) : Int) * 64 <= _; omega, fun i hi => (by cases hi), fun i hi => (by cases hi), by omega, ?_, ⟨Int.le_refl 0, by show (0 : Int) <= _; omega, fun i hi => ?_⟩⟩
  · show (0 : Int) = _
    have : cN (fun _ => false) (spOf page n c np).slots.toNat = 0 := by
      generalize (spOf page n c np).slots.toNat = m
      induction m with
      | zero => rfl
      | succ m ih => show cN _ m + 0 = 0; rw [ih]
    rw [this]; rfl
  · have hi : (i : Int) < 0 := hi
    omega
section
variable {E : Env} {w : World} {Z : List Pr} {b h s r : Nat} {W : SW} {U M : Bits}
theorem Sat.sweep : Sat (SweepP E b h s r W :: Z) w ↔ ∃ em, Sat (swres E b h s r W em ++ Z) w := by
  unfold SweepP
  rw [Sat.ex]
  exact ⟨fun ⟨g, h⟩ => ⟨g, Sat.star.1 h⟩, fun ⟨g, h⟩ => ⟨g, Sat.star.2 h⟩⟩
theorem swcell {em : SlV} (H : Sat (swres E b h s r W em ++ Z) w) : w.cell? (Addr.mk b 0 none) = some (.pointer (some ⟨h, 0, none⟩)) ∧ w.cell? ((Addr.mk b 0 none).add 1) = some (.pointer (some ⟨s, 0, none⟩)) ∧ w.cell? ((Addr.mk b 0 none).add 2) = some (.pointer (some ⟨r, 0, none⟩)) ∧
    w.cell? ((Addr.mk b 0 none).add 3) = some (.slice em.base em.len em.cap) ∧ w.cell? ((Addr.mk b 0 none).add 4) = some (.int .u64 W.freed) ∧ w.cell? ((Addr.mk b 0 none).add 5) = some (.int .u64 W.rate) ∧ w.cell? ((Addr.mk b 0 none).add 6) = some (.int .u64 W.charged) ∧ w.cell? ((Addr.mk b 0 none).add 7) = some (.int .u64 W.repaid) :=
  have H : Sat (Cells b E.t_sweep_Sweeper (swcells h s r em W) :: _) w := H
  ⟨H.cell0 rfl, H.cell rfl, H.cell rfl, H.cell rfl, H.cell rfl, H.cell rfl, H.cell rfl, H.cell rfl⟩
theorem Sat.swHeap (H : Sat (SweepP E b h s r W :: Z) w) : ∃ R, Sat (HeapP E h W.S :: R) w ∧ (∀ {w'}, Sat R w' -> Sat Z w') ∧ ∀ {S' w'}, Sat (HeapP E h S' :: R) w' -> Sat (SweepP E b h s r { W with S := S' } :: Z) w' := by
  obtain ⟨em, H⟩ := Sat.sweep.1 H
  exact ⟨_, H.front 1 rfl, fun h => h.tail.tail.tail.tail, fun {S' w'} h' => Sat.sweep.2 ⟨em, Sat.back (Ps := swres E b h s r W em ++ Z) 1 h' (by simp [swres])⟩⟩
theorem Sat.swSets (H : Sat (SweepP E b h s r W :: Z) w) : ∃ R, Sat (SetsP E s W.L :: R) w ∧ (∀ {w'}, Sat R w' -> Sat Z w') ∧ ∀ {L' w'}, Sat (SetsP E s L' :: R) w' -> Sat (SweepP E b h s r { W with L := L' } :: Z) w' := by
  obtain ⟨em, H⟩ := Sat.sweep.1 H
  exact ⟨_, H.front 2 rfl, fun h => h.tail.tail.tail.tail, fun {S' w'} h' => Sat.sweep.2 ⟨em, Sat.back (Ps := swres E b h s r W em ++ Z) 2 h' (by simp [swres])⟩⟩
theorem Sat.swPtr (H : Sat (SweepP E b h s r W :: Z) w) : w.cell? (Addr.mk b 0 none) = some (.pointer (some ⟨h, 0, none⟩)) ∧ w.cell? ((Addr.mk b 0 none).add 1) = some (.pointer (some ⟨s, 0, none⟩)) ∧ w.cell? ((Addr.mk b 0 none).add 2) = some (.pointer (some ⟨r, 0, none⟩)) := by
  obtain ⟨em, H⟩ := Sat.sweep.1 H
  exact ⟨(swcell H).1, (swcell H).2.1, (swcell H).2.2.1⟩
def SW.new (S : HS) : SW := ⟨S, [], [], [], 0, 0, 0, 0⟩
theorem swnew_spec {S : HS} (H : Sat (SpecP E r [] :: SetsP E s [] :: HeapP E h S :: Z) w) {K : Option Addr -> World -> Prop} (hK : ∀ b w', Sat (SweepP E b h s r (SW.new S) :: Z) w' -> K (some ⟨b, 0, none⟩) w') : F.sweep_New E (some ⟨h, 0, none⟩) (some ⟨s, 0, none⟩) (some ⟨r, 0, none⟩) K w := by
  unfold F.sweep_New
  refine AL_cells (vs := swcells h s r ⟨none, 0, 0⟩ (SW.new S)) H fun b1 w2 H2 _ => hK b1 w2 (Sat.sweep.2 ⟨⟨none, 0, 0⟩, ?_⟩)
  have h1 := H2.nil E.t_api_Special 3
  exact ((((h1.front 0 rfl).front 2 rfl).front 3 rfl).front 4 rfl).front 4 rfl
theorem swheap_spec (H : Sat (SweepP E b h s r W :: Z) w) {K : Option Addr -> World -> Prop} (hK : K (some ⟨h, 0, none⟩) w) : F.sweep_Sweeper_Heap E (some ⟨b, 0, none⟩) K w := by
  unfold F.sweep_Sweeper_Heap
  exact NC_in ⟨_, H.swPtr.1, hK⟩
theorem swsets_spec (H : Sat (SweepP E b h s r W :: Z) w) {K : Option Addr -> World -> Prop} (hK : K (some ⟨s, 0, none⟩) w) : F.sweep_Sweeper_Sets E (some ⟨b, 0, none⟩) K w := by
  unfold F.sweep_Sweeper_Sets
  exact NC_in ⟨_, H.swPtr.2.1, hK⟩
def zinfo : List Value := [.int .u64 0, .int .i64 0, .int .i64 0, .int .i64 0, .bool false, .int .i64 0, .int .i64 0, .int .i64 0, .bool false, .bool false]
def infoL (x : SI) : List Value := [.int .u64 x.base, .int .i64 x.pages, .int .i64 x.state, .int .i64 x.cls, .bool x.noptr, .int .i64 x.elem, .int .i64 x.slots, .int .i64 x.used, .bool x.f8, .bool x.f9]
theorem swuse_spec (H : Sat (SweepP E b h s r W :: Z) w) (hI : SwInv W U M) {id : Int} {K : Option Addr -> Int -> Int -> Int -> Int -> Bool -> Int -> Int -> Int -> Bool -> Bool -> Int -> World -> Prop}
    (hk0 : W.S.sp id = none -> ∀ w', Sat (SweepP E b h s r W :: Z) w' -> K none 0 0 0 0 false 0 0 0 false false 35 w')
    (hk1 : ∀ x, W.S.sp id = some x -> SpOk x.2 -> SpG x.2 (U id) (M id) -> ∀ w', Sat (SweepP E b h s r W :: Z) w' -> K (some ⟨x.1, 0, none⟩) x.2.base x.2.pages x.2.state x.2.cls x.2.noptr x.2.elem x.2.slots x.2.used x.2.f8 x.2.f9 0 w') :
    F.sweep_Sweeper_use E (some ⟨b, 0, none⟩) id K w := by
  unfold F.sweep_Sweeper_use T0.sweep_Sweeper_use
  refine AL_cells (vs := zinfo) H fun b1 w2 H2 _ => NC_in ⟨_, (H2.front 1 rfl).swPtr.1, ?_⟩
  obtain ⟨R, HH, _, hb⟩ := (H2.front 1 rfl : Sat (SweepP E b h s r W :: Cells b1 E.t_api_Info zinfo :: Z) w2).swHeap
  refine hspan_spec HH (fun hn => ?_) fun x hx => ?_
  · refine CND_t rfl ?_
    refine st_all (news := zinfo) H2 rfl (by simp [zinfo, Value.oneCell']) fun w8 H8 => ?_
    exact ⟨0, H8.cell rfl, 0, H8.cell rfl, 0, H8.cell rfl, 0, H8.cell rfl, false, H8.cell rfl, 0, H8.cell rfl, 0, H8.cell rfl, 0, H8.cell rfl, false, H8.cell rfl, false, H8.cell rfl, hk0 hn w8 H8.tail⟩
  · obtain ⟨hok, hg⟩ := hI.sp id x hx
    obtain ⟨R2, hs2, hb2⟩ := HH.heapSpan hx
    refine CND_f rfl (spinfo_spec hs2 fun w29 H29 => ?_)
    have H30 : Sat (SweepP E b h s r W :: Cells b1 E.t_api_Info zinfo :: Z) w29 := hb (hb2 H29)
    refine AL_cells (vs := zinfo) H30 fun b30 w31 H31 _ => ?_
    refine st_all (news := infoL x.2) H31 rfl (by simp [infoL, Value.oneCell']) fun w32 H32 => ⟨x.2.state, H32.cell rfl, ?_⟩
    rw [hok.st]
    refine CND_f rfl ?_
    have H33 := H32.drew
    refine ⟨_, H33.cell rfl, _, H33.cell rfl, _, H33.cell rfl, _, H33.cell rfl, _, H33.cell rfl, _, H33.cell rfl, _, H33.cell rfl, _, H33.cell rfl, _, H33.cell rfl, _, H33.cell rfl, ?_⟩
    refine st_all (news := infoL x.2) (H33.front 2 rfl) rfl (by simp [infoL, Value.oneCell']) fun w55 H55 => ?_
    exact ⟨_, H55.cell rfl, _, H55.cell rfl, _, H55.cell rfl, _, H55.cell rfl, _, H55.cell rfl, _, H55.cell rfl, _, H55.cell rfl, _, H55.cell rfl, _, H55.cell rfl, _, H55.cell rfl, hk1 x hx hok hg w55 H55.tail.tail⟩
end
end Go.Sh

set_option linter.all false
set_option maxRecDepth 8000
set_option maxHeartbeats 2000000
namespace Go.Sh
theorem own_base {S : HS} {fl : Int -> Bool} (hI : HInv S fl) {id : Int} {x : Nat × SI} (hx : S.sp id = some x) {p : Int} (h1 : x.2.base / 8192 <= p) (h2 : p < x.2.base / 8192 + x.2.pages) : S.own p = id := (hI.sp id x hx).2.2.2.2 p h1 h2
theorem base_inj {S : HS} {fl : Int -> Bool} (hI : HInv S fl) {i j : Int} {x y : Nat × SI} (hx : S.sp i = some x) (hy : S.sp j = some y) (h : x.2.base = y.2.base) : i = j := by
  have h1 := (hI.sp i x hx).2.2.1
  have h2 := (hI.sp j y hy).2.2.1
  rw [<- own_base hI hx (Int.le_refl _) (by omega), <- own_base hI hy (p := x.2.base / 8192) (by rw [h]; exact Int.le_refl _) (by rw [h]; omega)]
section
variable {E : Env} {w : World} {Z : List Pr} {b h s r : Nat} {W : SW} {U M : Bits}
theorem SwInv.ofL (hI : SwInv W U M) {L : List Itm} (hL : ∀ x ∈ L, ∃ y, W.S.sp x.id = some y ∧ y.2.base = x.base) : SwInv { W with L := L } U M := ⟨hI.hI, hI.sp, hL⟩
variable (hE : EnvW E)
include hE
theorem swput_spec (H : Sat (SweepP E b h s r W :: Z) w) (hI : SwInv W U M) {id : Int} {sw : Bool} (hf : W.L.length < 1099511627776) {K : Int -> World -> Prop}
    (hk0 : W.S.sp id = none -> ∀ w', Sat (SweepP E b h s r W :: Z) w' -> K 35 w') (hk1 : W.S.sp id ≠ none -> (∃ x ∈ W.L, x.id = id) -> ∀ w', Sat (SweepP E b h s r W :: Z) w' -> K 34 w')
    (hk2 : ∀ x, W.S.sp id = some x -> (∀ y ∈ W.L, y.id ≠ id) -> ∀ blk, SwInv { W with L := insB W.L ⟨blk, id, x.2.base, (x.2.cls, x.2.noptr, x.2.used == x.2.slots, sw)⟩ } U M -> ∀ w',
      Sat (SweepP E b h s r { W with L := insB W.L ⟨blk, id, x.2.base, (x.2.cls, x.2.noptr, x.2.used == x.2.slots, sw)⟩ } :: Z) w' -> K 0 w') : F.sweep_Sweeper_Put E (some ⟨b, 0, none⟩) id sw K w := by
  unfold F.sweep_Sweeper_Put T0.sweep_Sweeper_Put
  refine swuse_spec H hI (fun hn w' H' => ?_) fun x hx hok hg w' H' => ?_
  · refine AL_cells (vs := zinfo) H' fun b14 w15 H15 _ => ?_
    refine st_all (news := zinfo) H15 rfl (by simp [zinfo, Value.oneCell']) fun w16 H16 => CND_t rfl (hk0 hn w16 H16.tail)
  · refine AL_cells (vs := zinfo) H' fun b14 w15 H15 _ => ?_
    refine st_all (news := infoL x.2) H15 rfl (by simp [infoL, Value.oneCell']) fun w16 H16 => CND_f rfl (NC_in ?_)
    have H17 := H16.drew
    have H18 := H17.front 1 rfl
    refine ⟨_, H18.swPtr.2.1, _, H17.cell0 rfl, _, H17.cell rfl, _, H17.cell rfl, _, H17.cell rfl, _, H17.cell rfl, ?_⟩
    obtain ⟨R, HH, hz, hb⟩ := H18.swSets
    have hpos := (hI.hI.sp id x hx).1
    have hc := hok.cls
    refine seput_spec hE HH hf (fun hb => ?_) (fun _ hex => ?_) fun _ hno blk w25 H25 => ?_
    · unfold seBad at hb; omega
    · refine ⟨H17.cell rfl, H17.cell rfl, hk1 (by rw [hx]; exact fun h => by cases h) ?_ _ H17.tail⟩
      obtain ⟨y, hy, e⟩ := hex
      refine ⟨y, hy, ?_⟩
      rcases e with e | e
      · exact e
      · obtain ⟨z, hz1, hz2⟩ := hI.it y hy
        exact base_inj hI.hI hz1 hx (by rw [hz2, e])
    · have hz25 := hz H25.tail
      refine ⟨hz25.cell rfl, hz25.cell rfl, hk2 x hx (fun y hy => (hno y hy).1) blk (hI.ofL fun y hy => ?_) w25 ?_⟩
      · rcases mem_insB.1 hy with rfl | hy
        · exact ⟨x, hx, rfl⟩
        · exact hI.it y hy
      · exact ((hb H25).front 1 rfl).tail
end
section
variable {E : Env} {w : World} {Z : List Pr} {b h s r : Nat} {W : SW} {U M : Bits} (hE : EnvW E)
include hE
end
section
variable {E : Env} {w : World} {Z : List Pr} {b h s r : Nat} {W : SW} {U M : Bits} (hE : EnvW E)
include hE
end
end Go.Sh

set_option linter.all false
set_option maxRecDepth 8000
set_option maxHeartbeats 2000000
namespace Go.Sh
theorem HS.put_self {S : HS} {id : Int} {x : Nat × SI} (hx : S.sp id = some x) : S.put id x = S := by
  unfold HS.put
  have : (fun i => if i = id then some x else S.sp i) = S.sp := by
    funext i; split
    · rename_i e; rw [e, hx]
    · rfl
  rw [this]
section
variable {E : Env} {w : World} {Z : List Pr} {b h s r : Nat} {W : SW} {U M : Bits}
end
end Go.Sh

set_option linter.all false
set_option maxRecDepth 8000
set_option maxHeartbeats 4000000
namespace Go.Sh
section
variable {E : Env} {h : Nat} {S : HS} {Z : List Pr} {w : World}
theorem Sat.heapPut2 (H : Sat (HeapP E h S :: Z) w) {id : Int} {x : Nat × SI} (hx : S.sp id = some x) : ∃ R : List Pr, Sat (SpanP E x.1 x.2 :: R) w ∧ (∀ {w'}, Sat R w' -> Sat Z w') ∧ ∀ {I : SI} {w'}, Sat (SpanP E x.1 I :: R) w' -> Sat (HeapP E h (S.put id (x.1, I)) :: Z) w' := by
  obtain ⟨g, hI, H⟩ := Sat.heap.1 H
  have hm : id ∈ g.ids := (hI.mem id).2 (by rw [hx]; exact fun h => by cases h)
  obtain ⟨i, hi⟩ := List.mem_iff_getElem?.1 hm
  have H1 := (H.front 6 rfl).manyGet hi
  have e : spR E S.sp id = SpanP E x.1 x.2 := by unfold spR; rw [hx]
  rw [e] at H1
  refine ⟨_, H1, fun h => h.tail.tail.tail.tail.tail.tail.tail.tail, fun {I w'} h' => Sat.heap.2 ⟨g, ⟨hI.nd, fun j => ?_⟩, ?_⟩⟩
  · rw [hI.mem]
    show _ ↔ (if j = id then some (x.1, I) else S.sp j) ≠ none
    by_cases e : j = id
    · rw [if_pos e, e, hx]; simp
    · rw [if_neg e]
  · have e1 : spR E (S.put id (x.1, I)).sp id = SpanP E x.1 I := by unfold spR; rw [HS.put_sp]
    have e2 : Many (spR E S.sp) (g.ids.eraseIdx i) = Many (spR E (S.put id (x.1, I)).sp) (g.ids.eraseIdx i) := Many.congr fun j hj => by
      have : j ≠ id := fun e => nodup_erase hI.nd hi (e ▸ hj)
      unfold spR; rw [HS.put_ne this]
    rw [<- e1, e2] at h'
    have h2 := Sat.manyBack h' hi
    have h3 := Sat.back (Ps := hres E h S g ++ Z) 6 h2 (by simp [hres])
    have e3 : spMap S.sp = spMap (S.put id (x.1, I)).sp := by
      funext j
      unfold spMap
      by_cases e : j = id
      · rw [e, HS.put_sp, hx]; rfl
      · rw [HS.put_ne e]
    have e4 : (hres E h S g ++ Z).set 6 (Many (spR E (S.put id (x.1, I)).sp) g.ids) = hres E h (S.put id (x.1, I)) g ++ Z := by
      show [Cells h E.t_mheap_Heap (hcells g S.hint S.pages), VmemP E g.m S.V, TreeV E g.t S.T, ArenaP E g.a S.ks S.own, FixP E g.f S.fx, MapF g.sm .i64 (spMap S.sp), _, _] ++ Z = _
      rw [e3]; rfl
    rw [e4] at h3
    exact h3
end
def none1 : Nat -> Bool := fun _ => false
section
variable {E : Env} {w : World} {Z : List Pr} {b h s r : Nat} {W : SW} {U M : Bits}
theorem Bits.set_at (U : Bits) (id : Int) (u : Nat -> Bool) : (U.set id u) id = u := if_pos rfl
theorem Bits.set_self (U : Bits) (id : Int) : U.set id (U id) = U := by
  funext i
  unfold Bits.set
  split
  · rename_i e; rw [e]
  · rfl
theorem SwInv.putS {W : SW} {U M : Bits} (hI : SwInv W U M) {id : Int} {x : Nat × SI} (hx : W.S.sp id = some x) {I : SI} {u m : Nat -> Bool} (h1 : I.base = x.2.base) (h2 : I.pages = x.2.pages) (h3 : I.state = x.2.state) (h4 : I.cls = x.2.cls) (h5 : I.elem = x.2.elem) (h6 : I.slots = x.2.slots) (h7 : I.magic = x.2.magic) (hg : SpG I u m) :
    SwInv { W with S := W.S.put id (x.1, I) } (U.set id u) (M.set id m) := by
  obtain ⟨hok, _⟩ := hI.sp id x hx
  refine ⟨hI.hI.put hx h1 h2 (by rw [h3, hok.st]; decide), fun j y hy => ?_, fun it hit => ?_⟩
  · by_cases e : j = id
    · subst e
      have hy : (W.S.put j (x.1, I)).sp j = some y := hy
      rw [HS.put_sp] at hy
      cases hy
      rw [Bits.set_at, Bits.set_at]
      exact ⟨hok.upd h1 h2 h3 h4 h5 h6 h7, hg⟩
    · have hy : (W.S.put id (x.1, I)).sp j = some y := hy
      rw [HS.put_ne e] at hy
      have e1 : U.set id u j = U j := if_neg e
      have e2 : M.set id m j = M j := if_neg e
      rw [e1, e2]; exact hI.sp j y hy
  · obtain ⟨y, g1, g2⟩ := hI.it it hit
    by_cases e : it.id = id
    · rw [e, hx] at g1
      cases g1
      exact ⟨(x.1, I), by rw [e]; exact HS.put_sp, h1.trans g2⟩
    · exact ⟨y, (HS.put_ne e).trans g1, g2⟩
variable (hE : EnvW E)
include hE
end
end Go.Sh

set_option linter.all false
set_option maxRecDepth 8000
set_option maxHeartbeats 4000000
namespace Go.Sh
section
variable {E : Env} {w : World} {Rs Z : List Pr}
theorem times_spec (H : Sat Z w) {n r : Int} {K : Int -> World -> Prop} (hK : ∀ w', Sat Z w' -> K (timesV n r) w') : F.ratio_Times E n r K w := by
  unfold F.ratio_Times T0.ratio_Times F.math_Float64frombits
  have main : ∀ (x : Nat) w', Sat Z w' -> (bif (fOrd x 4895412794951729152 == some .gt || fOrd x 4895412794951729152 == some .eq) then (18446744073709551615 : Int) else bif (fOrd x 4607182418800017408 == some .gt || fOrd x 4607182418800017408 == some .eq) then (fInt x).getD 0 else 0) = timesV n r ->
      CND ((fOrd x 4895412794951729152 == some .gt || fOrd x 4895412794951729152 == some .eq)) (K 18446744073709551615 w')
        (CND ((fOrd x 4607182418800017408 == some .gt || fOrd x 4607182418800017408 == some .eq)) (∃ n5 : Int, fInt x = some n5 ∧ (IntKind.min .u64 <= n5 ∧ n5 <= IntKind.max .u64) ∧ K n5 w') (K 0 w')) := by
    intro x w' H' e
    have hk := hK w' H'
    refine CND_intro (fun h2 => ?_) fun h2 => CND_intro (fun h1 => ?_) fun h1 => ?_
    · rw [h2] at e
      rw [<- e] at hk; exact hk
    · obtain ⟨k, hk1, hk2⟩ := fint_ok h1 (by rw [h2]; decide)
      refine ⟨k, hk1, ⟨by show (0 : Int) <= k; omega, by show (k : Int) <= 18446744073709551615; omega⟩, ?_⟩
      rw [h2, h1, cond_false, cond_true, hk1] at e
      rw [<- e] at hk; exact hk
    · rw [h2, h1, cond_false, cond_false] at e
      rw [<- e] at hk; exact hk
  have key : FRES (fArith .mul (fNear n) r.toNat) w fun x3 w4 =>
      CND ((fOrd x3 4895412794951729152 == some .gt || fOrd x3 4895412794951729152 == some .eq)) (K 18446744073709551615 w4)
        (CND ((fOrd x3 4607182418800017408 == some .gt || fOrd x3 4607182418800017408 == some .eq)) (∃ n5 : Int, fInt x3 = some n5 ∧ (IntKind.min .u64 <= n5 ∧ n5 <= IntKind.max .u64) ∧ K n5 w4) (K 0 w4)) := by
    cases hx : fArith .mul (fNear n) r.toNat with
    | some x =>
      refine main x w H ?_
      unfold timesV; rw [hx]
    | none =>
      intro t
      refine main (nanP t) w.drew H.drew ?_
      rw [nan_ord, nan_ord, timesV_none hx]; rfl
  exact key
end
end Go.Sh

set_option linter.all false
set_option maxRecDepth 8000
set_option maxHeartbeats 4000000
namespace Go.Sh
section
variable {W : SW} {U M : Bits}
theorem SwInv.keep (hI : SwInv W U M) {S2 : HS} {p n c page id : Int} {np : Bool} {bl : Nat} {X : FX} (hf : Found W.S p n page S2) (hX : Next S2 id X) (h0 : 0 <= page) (h1 : page + n <= 34359738368) (hb : ¬ spBad 0 n c) (hn : 0 <= n) (h3 : HInv (S2.keep id (bl, spOf page n c np) page n X) no) :
    SwInv { W with S := S2.keep id (bl, spOf page n c np) page n X } (U.set id none1) (M.set id none1) ∧ W.S.sp id = none := by
  have es := hf.same
  have hnone : W.S.sp id = none := by
    refine Classical.byContradiction fun g => ?_
    obtain ⟨a, ha, h2, h3⟩ := (hI.hI.sf id).1 g
    rcases hX with ⟨q1, q2, _⟩ | ⟨b', r', q1, q2, _⟩
    · rw [es.fx] at q2; omega
    · rw [es.fx] at q1
      have : a = b' := by omega
      subst this
      exact h3 (by rw [q1]; exact List.mem_cons_self)
  have hok := spOf_ok (np := np) h0 h1 hb hn
  refine ⟨⟨h3, fun j y hy => ?_, fun it hit => ?_⟩, hnone⟩
  · have hy : (if j = id then some (bl, spOf page n c np) else S2.sp j) = some y := hy
    by_cases e : j = id
    · rw [if_pos e] at hy
      cases hy
      subst e
      rw [Bits.set_at, Bits.set_at]
      exact ⟨hok, spOf_g hok⟩
    · rw [if_neg e, es.sp] at hy
      have e1 : U.set id none1 j = U j := if_neg e
      have e2 : M.set id none1 j = M j := if_neg e
      rw [e1, e2]; exact hI.sp j y hy
  · obtain ⟨y, g1, g2⟩ := hI.it it hit
    have : it.id ≠ id := fun e => by rw [e, hnone] at g1; cases g1
    refine ⟨y, ?_, g2⟩
    show (if it.id = id then _ else S2.sp it.id) = _
    rw [if_neg this, es.sp]; exact g1
theorem SwInv.new (pl : List Int) (rf : List Bool) (fl : List Int) : SwInv (SW.new (HS.new (newV pl rf fl))) (fun _ => none1) (fun _ => none1) :=
  ⟨HInv.newV pl rf fl, fun id x hx => (by cases hx), fun x hx => (by cases hx)⟩
end
section
variable {E : Env} {w : World} {Z : List Pr} {b h s r : Nat} {W : SW} {U M : Bits}
def chargedV (c n : Int) : Int := if 18446744073709551616 <= c + n then 18446744073709551615 else c + n
theorem swcharge_spec (H : Sat (SweepP E b h s r W :: Z) w) {n : Int} (hc : 0 <= W.charged ∧ W.charged < 18446744073709551616) (hn : 0 <= n ∧ n < 18446744073709551616) {K : World -> Prop} (hK : ∀ w', Sat (SweepP E b h s r { W with charged := chargedV W.charged n } :: Z) w' -> K w') : F.sweep_Sweeper_Charge E (some ⟨b, 0, none⟩) n K w := by
  unfold F.sweep_Sweeper_Charge T0.sweep_Sweeper_Charge F.math_bits_Add64
  obtain ⟨em, H1⟩ := Sat.sweep.1 H
  refine NC_in ⟨_, (swcell H1).2.2.2.2.2.2.1, ⟨hc.1, hn.1, by decide, by decide⟩, ?_⟩
  have fin : ∀ v : Int, v = chargedV W.charged n -> stCells ((Addr.mk b 0 none).add 6) 0 [.int .u64 v] w K := fun v hv => by
    rw [hv]
    exact st_cell (show Sat (Cells b E.t_sweep_Sweeper _ :: _) _ from H1) (o := 0) (m := 6) rfl (by simp [swcells]) fun w2 H2 => hK w2 (Sat.sweep.2 ⟨em, H2⟩)
  rw [show W.charged + n + 0 = W.charged + n by omega]
  unfold chargedV at fin
  refine JOIN_in (CND_dec (fun g j => NC_in (fin _ ?_)) fun g j => NC_in (fin _ ?_))
  · rw [if_pos (by omega)]
  · rw [if_neg (by omega), Int.emod_eq_of_lt (by omega) (by omega)]
noncomputable def SW.debt (W : SW) : Int := if timesV W.charged W.rate < W.repaid then 0 else timesV W.charged W.rate - W.repaid
theorem swdebt_spec (H : Sat (SweepP E b h s r W :: Z) w) (hr : 0 <= W.repaid) {K : Int -> World -> Prop} (hK : ∀ w', Sat (SweepP E b h s r W :: Z) w' -> K W.debt w') : F.sweep_Sweeper_Debt E (some ⟨b, 0, none⟩) K w := by
  unfold F.sweep_Sweeper_Debt T0.sweep_Sweeper_Debt
  have Hd := H.drew
  obtain ⟨em, H1⟩ := Sat.sweep.1 Hd
  have c1 := swcell H1
  refine NC_in ⟨_, c1.2.2.2.2.2.2.1, NC_in ⟨_, c1.2.2.2.2.2.1, times_spec Hd fun w6 H6 => ?_⟩⟩
  obtain ⟨em2, H7⟩ := Sat.sweep.1 H6
  have c7 := swcell H7
  have hb := times_bnd W.charged W.rate
  have hKd := hK w6 H6
  unfold SW.debt at hKd
  refine NC_in ⟨_, c7.2.2.2.2.2.2.2, CND_dec (fun g => ?_) fun g => NC_in ⟨_, c7.2.2.2.2.2.2.2, ?_⟩⟩
  · rw [if_pos g] at hKd; exact hKd
  · rw [if_neg g] at hKd; rw [u64_id (by omega) (by omega)]; exact hKd
end
end Go.Sh

set_option linter.all false
set_option maxRecDepth 8000
set_option maxHeartbeats 4000000
namespace Go.Sh
theorem first_found2 {p n : Int} {S2 : HS} {page : Int} (hk : HOk (HS.new (newV [] [] []))) (hn : 1 <= n) (hn2 : n <= 1000000) (h : Found (HS.new (newV [] [] [])) p n page S2) : page = 512 ∧ FrR S2 (512 + n) (512 + upN n) ∧ LaidB S2 (512 + upN n) ∧ ∀ j, S2.ca j = CS.nil := by
  have hu := upN_le n
  have hfr : ∀ q, (HS.new (newV [] [] [])).T.fr q = false := fun _ => rfl
  obtain ⟨b', h1, h2, h3, h4, h5, h6, _⟩ := h.row (LaidB.new []) hk (FrR.new _) (Int.le_refl _) hn (by omega) (fun S0 ht => tried_nofree hfr hn ht) fun S0 pg ht => got_nofree hfr (fun _ _ _ => rfl) hn ht
  have e : b' = 512 + upN n := by omega
  subst e
  exact ⟨h2, h5, h4, fun j => by rw [h6]; rfl⟩
section
variable {E : Env} {w : World} {Z : List Pr} {b h s r : Nat} {W : SW} {U M : Bits}
variable (hE : EnvW E)
include hE
end
def u2 : Nat -> Bool := fun i => ((none1 i || i == 0) || i == 1)
theorem cls5f : clsAt 5 = (48, 1, 170, 89478486) := by decide +kernel
section
variable {E : Env} {w : World} {Z : List Pr} (hE : EnvW E)
include hE
end
end Go.Sh

set_option linter.all false
set_option maxRecDepth 8000
set_option maxHeartbeats 4000000
namespace Go.Sh
section
variable {E : Env} {w : World} {Z : List Pr} {b h s r : Nat} {W : SW} {U M : Bits}
theorem swslot_spec (hT : ∀ w', Sat Z w' -> TabAt E.g_math_bits_deBruijn64tab w') (H : Sat (SweepP E b h s r W :: Z) w) (hI : SwInv W U M) {id : Int} {x : Nat × SI} (hx : W.S.sp id = some x) {K : Int -> Int -> World -> Prop}
    (hk0 : (∀ i : Nat, (i : Int) < x.2.slots -> U id i = true) -> ∀ w', Sat (SweepP E b h s r W :: Z) w' -> K 0 30 w')
    (hk1 : ∀ (n : Nat) uw', (n : Int) < x.2.slots -> U id n = false -> (∀ i, i < n -> U id i = true) -> SwInv { W with S := W.S.put id (x.1, { x.2 with uw := uw', used := x.2.used + 1, look := (n : Int) + 1 }) } (U.set id fun i => U id i || i == n) M ->
      ∀ w', Sat (SweepP E b h s r { W with S := W.S.put id (x.1, { x.2 with uw := uw', used := x.2.used + 1, look := (n : Int) + 1 }) } :: Z) w' -> K n 0 w') : F.span_Span_Next E (some ⟨x.1, 0, none⟩) K w := by
  obtain ⟨hok, hg⟩ := hI.sp id x hx
  obtain ⟨R, HH, hz, hb⟩ := H.swHeap
  obtain ⟨R2, hs2, hz2, hb2⟩ := HH.heapPut2 hx
  refine spnextG_spec (hT _ (hz (hz2 hs2.tail))) hs2 hg (by rw [hok.st]; decide) (fun hall w' H' => ?_) fun n uw' hn hu hl hg' w' H' => ?_
  · have := hb (hb2 H')
    rw [show W.S.put id (x.1, x.2) = W.S from HS.put_self hx] at this
    exact hk0 hall w' this
  · refine hk1 n uw' hn hu hl ?_ w' (hb (hb2 H'))
    have := hI.putS hx (I := { x.2 with uw := uw', used := x.2.used + 1, look := (n : Int) + 1 }) rfl rfl rfl rfl rfl rfl rfl hg'
    rwa [Bits.set_self] at this
theorem swspan_spec (H : Sat (SweepP E b h s r W :: Z) w) {id : Int} {K : Option Addr -> Int -> World -> Prop} (hk0 : W.S.sp id = none -> K none 35 w) (hk1 : ∀ x, W.S.sp id = some x -> K (some ⟨x.1, 0, none⟩) 0 w) : F.mheap_Heap_Span E (some ⟨h, 0, none⟩) id K w := by
  obtain ⟨R, HH, hz, hb⟩ := H.swHeap
  exact hspan_spec HH hk0 hk1
theorem swslotaddr_spec (H : Sat (SweepP E b h s r W :: Z) w) (hI : SwInv W U M) {id : Int} {x : Nat × SI} (hx : W.S.sp id = some x) {i : Int} (h0 : 0 <= i) (h1 : i < x.2.slots) {K : Int -> Int -> World -> Prop} (hK : ∀ w', Sat (SweepP E b h s r W :: Z) w' -> K (x.2.base + i * x.2.elem) 0 w') : F.span_Span_Slot E (some ⟨x.1, 0, none⟩) i K w := by
  obtain ⟨hok, hg⟩ := hI.sp id x hx
  have hsz := hok.size
  have hba := hok.ba
  have hpg := hok.pg
  obtain ⟨R, HH, hz, hb⟩ := H.swHeap
  obtain ⟨R2, hs2, hb2⟩ := HH.heapSpan hx
  have h2 : 0 <= i * x.2.elem := Int.mul_nonneg h0 (by omega)
  have h3 : i * x.2.elem <= x.2.slots * x.2.elem := Int.mul_le_mul_of_nonneg_right (by omega) (by omega)
  have h4 := hsz.2.2.2.2
  rw [Int.mul_comm x.2.elem] at h4
  refine spslot_spec hs2 h0 h1 fun w' H' => ?_
  rw [u64_id (n := i) (by omega) (by omega), u64_id (n := x.2.elem) (by omega) (by omega), u64_id (n := i * x.2.elem) (by omega) (by omega), u64_id (n := x.2.base + i * x.2.elem) (by omega) (by omega)]
  exact hK w' (hb (hb2 H'))
end
end Go.Sh
