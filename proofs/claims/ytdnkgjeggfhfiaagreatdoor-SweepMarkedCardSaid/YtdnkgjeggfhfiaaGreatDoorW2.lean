/- The sweeper does what its sets, its heap and its records say. No further condition. -/
import Derived.Test.YtdnkgjeggfhfiaaGreatDoorC
import Derived.Test.YtdnkgjeggfhfiaaGreatDoorF
import Derived.Test.YtdnkgjeggfhfiaaGreatDoorL
import Derived.Test.YtdnkgjeggfhfiaaGreatDoorQ
import Derived.Test.YtdnkgjeggfhfiaaGreatDoorM
set_option linter.all false
set_option maxRecDepth 4000
set_option maxHeartbeats 1000000
namespace Go.Sh
theorem least_ex {p : Nat -> Prop} (h : ∃ n, p n) : ∃ n, p n /\ ∀ m, p m -> n <= m := by
 obtain ⟨n, hn⟩ := h
 induction n using Nat.strongRecOn with
 | _ n ih =>
  by_cases g : ∃ m, m < n /\ p m
  ·obtain ⟨m, h1, h2⟩ := g
   exact ih m h1 h2
  ·exact ⟨n, hn, fun m hm => Nat.le_of_not_lt fun h => g ⟨m, h, hm⟩⟩
theorem LOOP_ix {σ : Type} {s0 : σ} {w0 : World} {body : σ -> (Nat -> Value) -> World -> (σ -> World -> Prop) -> Prop} (I : Nat -> σ -> World -> Prop) (n0 : Nat) (h0 : I n0 s0 w0)
  (h : ∀ n s j w, I n s w -> body s j w fun s' w' => ∃ n', n' < n /\ I n' s' w') : LOOP σ s0 w0 body := by
 classical
 let m : σ -> World -> Nat := fun s w => if g : ∃ n, I n s w then (least_ex g).choose else 0
 refine LOOP_intro (fun s w => ∃ n, I n s w) m ⟨n0, h0⟩ fun s j w g => ?_
 have hm : I (m s w) s w := by
  show I (if g : ∃ n, I n s w then (least_ex g).choose else 0) s w
  rw [dif_pos g]; exact (least_ex g).choose_spec.1
 have hb := h (m s w) s j w hm
 have e : (fun s' w' => ∃ n', n' < m s w /\ I n' s' w') = fun s' w' => (∃ n, I n s' w') /\ m s' w' < m s w := by
  funext s' w'
  refine propext ⟨fun ⟨n', h1, h2⟩ => ⟨⟨n', h2⟩, ?_⟩, fun ⟨h1, h2⟩ => ⟨m s' w', h2, ?_⟩⟩
  ·show (if g : ∃ n, I n s' w' then (least_ex g).choose else 0) < _
   rw [dif_pos ⟨n', h2⟩]
   exact Nat.lt_of_le_of_lt ((least_ex ⟨n', h2⟩).choose_spec.2 _ h2) h1
  ·show I (if g : ∃ n, I n s' w' then (least_ex g).choose else 0) s' w'
   rw [dif_pos h1]; exact (least_ex h1).choose_spec.1
 rw [e] at hb
 exact hb
structure Rc where
 blk : Nat
 addr : Int
 kind : Int
 data : Int
def Rc.key (x : Rc) : Int := 4 * x.addr + x.kind
def rcptr (x : Rc) : Option Addr := some ⟨x.blk, 0, none⟩
def headP : List Rc -> Option Addr -> Option Addr
 | [], p => p
 | x :: _, _ => rcptr x
def rcC (E : Env) (x : Rc) (p : Option Addr) : Pr := Cells x.blk E.t_special_record [.int .u64 x.addr, .int .i64 x.kind, .int .u64 x.data, .pointer p]
def chainT (E : Env) : List Rc -> Option Addr -> List Pr
 | [], _ => []
 | x :: r, p => rcC E x (headP r p) :: chainT E r p
def slotOf (b : Nat) (A : List Rc) : Addr := match A.getLast? with
 | none => ⟨b, 0, none⟩
 | some x => (Addr.mk x.blk 0 none).add 3
theorem headP_app (A B : List Rc) (p : Option Addr) : headP (A ++ B) p = headP A (headP B p) := by cases A <;> rfl
theorem chainT_app (E : Env) : ∀ (A B : List Rc) (p : Option Addr), chainT E (A ++ B) p = chainT E A (headP B p) ++ chainT E B p
 | [], B, p => rfl
 | x :: A, B, p => by
  show rcC E x (headP (A ++ B) p) :: chainT E (A ++ B) p = rcC E x (headP A (headP B p)) :: (chainT E A (headP B p) ++ chainT E B p)
  rw [headP_app, chainT_app E A B p]
theorem NC_in' {a : Addr} {K : Addr -> Prop} (h : K a) : NC (some a) K := by rw [NC_some]; exact h
structure RcInv (R : List Rc) : Prop where
 srt : Srt Rc.key R
 kd : ∀ x ∈ R, 1 <= x.kind /\ x.kind <= 3 /\ 0 <= x.addr /\ x.addr < 18446744073709551616
 few : R.length <= 1099511627776
def spcres (E : Env) (b : Nat) (A : List Rc) (p : Option Addr) (n : Int) : List Pr := Cells b E.t_special_Specials [.pointer (headP A p), .int .i64 n] :: chainT E A p
def SpecP (E : Env) (b : Nat) (R : List Rc) : Pr := Where (RcInv R) (Star (spcres E b R none R.length))
section
variable {E : Env} {w : World} {Z : List Pr} {b : Nat} {R : List Rc}
theorem Sat.spec : Sat (SpecP E b R :: Z) w ↔ RcInv R /\ Sat (spcres E b R none R.length ++ Z) w := by
 unfold SpecP
 rw [Sat.where, Sat.star]
theorem spcnew_spec (H : Sat Z w) {K : Option Addr -> World -> Prop} (hK : ∀ b w', Sat (SpecP E b [] :: Z) w' -> K (some ⟨b, 0, none⟩) w') : F.special_New E K w := by
 unfold F.special_New
 refine AL_cells (vs := [.pointer none, .int .i64 0]) H fun b w' H' _ => hK b w' (Sat.spec.2 ⟨⟨.nil, fun x hx => (by cases hx), by decide⟩, H'⟩)
theorem slotOf_snoc (A : List Rc) (x : Rc) : slotOf b (A ++ [x]) = (Addr.mk x.blk 0 none).add 3 := by
 unfold slotOf
 rw [List.getLast?_append]; rfl
theorem chainT_snoc (A : List Rc) (x : Rc) (p : Option Addr) : chainT E (A ++ [x]) p = chainT E A (rcptr x) ++ [rcC E x p] := by rw [chainT_app]; rfl
theorem headP_snoc (A : List Rc) (x : Rc) (p : Option Addr) : headP (A ++ [x]) p = headP A (rcptr x) := by rw [headP_app]; rfl
theorem snoc_cases {α : Type} (A : List α) : A = [] ∨ ∃ A' x, A = A' ++ [x] := by
 rcases List.eq_nil_or_concat A with h | ⟨A', x, h⟩
 ·exact .inl h
 ·exact .inr ⟨A', x, by simpa using h⟩
theorem Sat.spcLast {A : List Rc} {x : Rc} {p : Option Addr} {n : Int} : Sat (spcres E b (A ++ [x]) p n ++ Z) w ↔ Sat (rcC E x p :: (spcres E b A (rcptr x) n ++ Z)) w := by
 unfold spcres
 rw [chainT_snoc, headP_snoc]
 have hp : (Cells b E.t_special_Specials [.pointer (headP A (rcptr x)), .int .i64 n] :: (chainT E A (rcptr x) ++ [rcC E x p]) ++ Z).Perm (rcC E x p :: (Cells b E.t_special_Specials [.pointer (headP A (rcptr x)), .int .i64 n] :: chainT E A (rcptr x) ++ Z)) := by
  rw [List.cons_append, List.cons_append, List.append_assoc]
  exact (List.Perm.cons _ List.perm_middle).trans (.swap _ _ _)
 exact ⟨fun h => h.perm hp, fun h => h.perm hp.symm⟩
theorem spc_slot {A : List Rc} {p : Option Addr} {n : Int} (H : Sat (spcres E b A p n ++ Z) w) : w.cell? (slotOf b A) = some (.pointer p) := by
 rcases snoc_cases A with rfl | ⟨A', x, rfl⟩
 ·exact H.cell0 rfl
 ·rw [slotOf_snoc]
  exact (Sat.spcLast.1 H).cell rfl
theorem spc_st {A : List Rc} {p q : Option Addr} {n : Int} (H : Sat (spcres E b A p n ++ Z) w) {K : World -> Prop} (hK : ∀ w', Sat (spcres E b A q n ++ Z) w' -> K w') : stCells (slotOf b A) 0 [.pointer q] w K := by
 rcases snoc_cases A with rfl | ⟨A', x, rfl⟩
 ·exact st_cell0 H (o := 0) rfl (by simp) fun w' H' => hK w' H'
 ·rw [slotOf_snoc]
  exact st_cell (Sat.spcLast.1 H) (o := 0) (m := 3) rfl (by simp) fun w' H' => hK w' (Sat.spcLast.2 H')
theorem Sat.spcMid {A B : List Rc} {y : Rc} {p : Option Addr} {n : Int} : Sat (spcres E b (A ++ y :: B) p n ++ Z) w ↔ Sat (rcC E y (headP B p) :: (spcres E b A (rcptr y) n ++ (chainT E B p ++ Z))) w := by
 unfold spcres
 rw [chainT_app, headP_app]
 show Sat (Cells b E.t_special_Specials [.pointer (headP A (rcptr y)), .int .i64 n] :: (chainT E A (rcptr y) ++ rcC E y (headP B p) :: chainT E B p) ++ Z) w ↔ _
 have hp : (Cells b E.t_special_Specials [.pointer (headP A (rcptr y)), .int .i64 n] :: (chainT E A (rcptr y) ++ rcC E y (headP B p) :: chainT E B p) ++ Z).Perm (rcC E y (headP B p) :: (Cells b E.t_special_Specials [.pointer (headP A (rcptr y)), .int .i64 n] :: chainT E A (rcptr y) ++ (chainT E B p ++ Z))) := by
  rw [List.cons_append, List.cons_append, List.append_assoc, List.cons_append]
  exact (List.Perm.cons _ List.perm_middle).trans (.swap _ _ _)
 exact ⟨fun h => h.perm hp, fun h => h.perm hp.symm⟩
theorem spc_split {A B : List Rc} {p : Option Addr} {n : Int} : Sat (spcres E b (A ++ B) p n ++ Z) w ↔ Sat (spcres E b A (headP B p) n ++ (chainT E B p ++ Z)) w := by
 unfold spcres
 rw [chainT_app, headP_app, List.cons_append, List.cons_append, List.append_assoc]
theorem spcat_spec (H : Sat (SpecP E b R :: Z) w) {a k : Int} (hk : 0 <= k /\ k <= 3) {K : Option Addr -> World -> Prop}
  (hK : ∀ A B, R = A ++ B -> (∀ x ∈ A, x.key < 4 * a + k) -> (∀ x ∈ B, 4 * a + k <= x.key) -> K (some (slotOf b A)) w) : F.special_Specials_at E (some ⟨b, 0, none⟩) a k K w := by
 obtain ⟨hI, H⟩ := Sat.spec.1 H
 unfold F.special_Specials_at
 simp only [NC_some]
 refine LOOP_ix (fun n st w' => w' = w /\ ∃ A B, st.1 = some (slotOf b A) /\ R = A ++ B /\ (∀ x ∈ A, x.key < 4 * a + k) /\ n = B.length) R.length ⟨rfl, [], R, rfl, rfl, fun x hx => (by cases hx), rfl⟩ ?_
 rintro n ⟨p, u⟩ _ w3 ⟨rfl, A, B, hp, hR, hA, hn⟩
 dsimp only at hp ⊢
 subst hp
 subst hR
 have hs := spc_split.1 H
 have hc := spc_slot hs
 have done : (∀ x ∈ B, 4 * a + k <= x.key) -> K (some (slotOf b A)) w3 := fun hB => hK A B rfl hA hB
 refine JOIN_in ?_
 simp only [NC_some]
 cases B with
 | nil => exact ⟨none, hc, CND_f rfl (done fun x hx => by cases hx)⟩
 | cons y B =>
  have hy := Sat.spcMid.1 H
  have y0 : w3.cell? (Addr.mk y.blk 0 none) = some (.int .u64 y.addr) := hy.cell0 rfl
  have y1 : w3.cell? ((Addr.mk y.blk 0 none).add 1) = some (.int .i64 y.kind) := hy.cell rfl
  have hyk := hI.kd y (by simp)
  have hsrt := (List.pairwise_append.1 hI.srt).2.1
  have hB : 4 * a + k <= y.key -> ∀ x ∈ y :: B, 4 * a + k <= x.key := fun h x hx => by
   rcases List.mem_cons.1 hx with rfl | hx
   ·exact h
   ·have := (List.pairwise_cons.1 hsrt).1 x hx; omega
  have go : y.key < 4 * a + k -> ∃ n', n' < n /\ True /\ ∃ A' B', some ((Addr.mk y.blk 0 none).add 3) = some (slotOf b A') /\ A ++ y :: B = A' ++ B' /\ (∀ x ∈ A', x.key < 4 * a + k) /\ n' = B'.length := fun h => by
   refine ⟨B.length, by rw [hn]; exact Nat.lt_succ_self _, trivial, A ++ [y], B, by rw [slotOf_snoc], by simp, fun x hx => ?_, rfl⟩
   rcases List.mem_append.1 hx with hx | hx
   ·exact hA x hx
   ·simp at hx; subst hx; exact h
  have hkey : y.key = 4 * y.addr + y.kind := rfl
  refine ⟨rcptr y, hc, CND_t rfl ⟨rcptr y, hc, NC_in' ⟨y.addr, y0, CND_dec (fun g => ?_) fun g => ⟨rcptr y, hc, NC_in' ⟨y.addr, y0, CND_eq (fun e => ⟨rcptr y, hc, NC_in' ⟨y.kind, y1, CND_dec (fun g2 => ?_) fun g2 => done (hB (by omega))⟩⟩) fun e => done (hB (by omega))⟩⟩⟩⟩⟩
  ·exact fun j => ⟨rcptr y, hc, NC_in' (go (by omega))⟩
  ·exact fun j => ⟨rcptr y, hc, NC_in' (go (by omega))⟩
end
end Go.Sh

set_option linter.all false
set_option maxRecDepth 4000
set_option maxHeartbeats 2000000
namespace Go.Sh
def sp3 (x : Rc) : List Value := [.int .u64 x.addr, .int .i64 x.kind, .int .u64 x.data]
theorem sp3_len (x : Rc) : (sp3 x).length = 3 := rfl
theorem sp3_one (x : Rc) : ∀ v ∈ sp3 x, v.oneCell' = true := by intro v hv; simp [sp3] at hv; rcases hv with rfl | rfl | rfl <;> rfl
theorem rc_split {A B : List Rc} {a : Int} (hI : RcInv (A ++ B)) (hA : ∀ x ∈ A, x.key < 4 * a + 0) (hB : ∀ x ∈ B, 4 * a + 0 <= x.key) : (∀ x ∈ A, x.addr < a) /\ ∀ x ∈ B, a <= x.addr := by
 refine ⟨fun x hx => ?_, fun x hx => ?_⟩
 ·have := hA x hx; have := hI.kd x (by simp [hx]); unfold Rc.key at *; omega
 ·have := hB x hx; have := hI.kd x (by simp [hx]); unfold Rc.key at *; omega
theorem addr_srt {y : Rc} {B : List Rc} (hk : ∀ x ∈ y :: B, 1 <= x.kind /\ x.kind <= 3) (hs : Srt Rc.key (y :: B)) : ∀ x ∈ B, y.addr <= x.addr := fun x hx => by
 have := (List.pairwise_cons.1 hs).1 x hx
 have h1 := hk y (by simp)
 have h2 := hk x (by simp [hx])
 unfold Rc.key at this
 omega
theorem of_filter {a : Int} : ∀ {B : List Rc}, Srt Rc.key B -> (∀ x ∈ B, 1 <= x.kind /\ x.kind <= 3) -> (∀ x ∈ B, a <= x.addr) -> B.takeWhile (fun y => y.addr == a) = B.filter (fun y => y.addr == a) /\ B.dropWhile (fun y => y.addr == a) = B.filter fun y => !(y.addr == a)
 | [], _, _, _ => ⟨rfl, rfl⟩
 | y :: B, hs, hk, ha => by
  have ih := of_filter (a := a) (List.pairwise_cons.1 hs).2 (fun x hx => hk x (by simp [hx])) fun x hx => ha x (by simp [hx])
  by_cases e : y.addr = a
  ·have e1 : (y.addr == a) = true := by simpa using e
   rw [List.takeWhile_cons_of_pos (by simpa using e), List.filter_cons_of_pos (by simpa using e), List.dropWhile_cons_of_pos (by simpa using e), List.filter_cons_of_neg (by simp [e]), ih.1, ih.2]
   exact ⟨rfl, rfl⟩
  ·have h1 := addr_srt hk hs
   have h2 := ha y (by simp)
   have hno : ∀ x ∈ y :: B, x.addr ≠ a := fun x hx => by
    rcases List.mem_cons.1 hx with rfl | hx
    ·exact e
    ·have := h1 x hx; omega
   rw [List.takeWhile_cons_of_neg (by simpa using e), List.dropWhile_cons_of_neg (by simpa using e)]
   refine ⟨(List.filter_eq_nil_iff.2 fun x hx => ?_).symm, (List.filter_eq_self.2 fun x hx => ?_).symm⟩
   ·simpa using hno x hx
   ·simpa using hno x hx
section
variable {E : Env} {w : World} {Z : List Pr} {b : Nat} {R : List Rc}
theorem spcis_spec {A B : List Rc} {n : Int} (H : Sat (spcres E b (A ++ B) none n ++ Z) w) {a k : Int} {K : Bool -> World -> Prop} (h1 : ∀ y B', B = y :: B' -> y.addr = a -> y.kind = k -> K true w) (h0 : (∀ y B', B = y :: B' -> ¬ (y.addr = a /\ y.kind = k)) -> K false w) :
  F.special_is E (some (slotOf b A)) a k K w := by
 unfold F.special_is
 have hc := spc_slot (spc_split.1 H)
 simp only [NC_some]
 cases B with
 | nil => exact ⟨none, hc, CND_f rfl (h0 fun y B' h => by cases h)⟩
 | cons y B =>
  have hy := Sat.spcMid.1 H
  have y0 : w.cell? (Addr.mk y.blk 0 none) = some (.int .u64 y.addr) := hy.cell0 rfl
  have y1 : w.cell? ((Addr.mk y.blk 0 none).add 1) = some (.int .i64 y.kind) := hy.cell rfl
  have no : ¬ (y.addr = a /\ y.kind = k) -> K false w := fun h => h0 fun y' B' e => by cases e; exact h
  refine ⟨rcptr y, hc, CND_t rfl ⟨rcptr y, hc, NC_in' ⟨y.addr, y0, CND_eq (fun e => ⟨rcptr y, hc, NC_in' ⟨y.kind, y1, ?_⟩⟩) fun e => no fun h => e h.1⟩⟩⟩
  by_cases g : y.kind = k
  ·rw [show (y.kind == k) = true by simpa using g]; exact h1 y B rfl e g
  ·rw [show (y.kind == k) = false by simpa using g]; exact no fun h => g h.2
theorem spc_count {A : List Rc} {p : Option Addr} {n m : Int} (H : Sat (spcres E b A p n ++ Z) w) {K : World -> Prop} (hK : ∀ w', Sat (spcres E b A p m ++ Z) w' -> K w') : stCells ((Addr.mk b 0 none).add 1) 0 [.int .i64 m] w K :=
 st_cell H (o := 0) (m := 1) rfl (by simp) fun w' H' => hK w' H'
theorem rc_here {A B : List Rc} {a k : Int} (hI : RcInv (A ++ B)) (hk : 1 <= k /\ k <= 3) (hA : ∀ x ∈ A, x.key < 4 * a + k) (hB : ∀ x ∈ B, 4 * a + k <= x.key) (h : ∀ y B', B = y :: B' -> ¬ (y.addr = a /\ y.kind = k)) : ∀ x ∈ A ++ B, ¬ (x.addr = a /\ x.kind = k) := by
 rintro x hx ⟨e1, e2⟩
 have hkey : x.key = 4 * a + k := by unfold Rc.key; rw [e1, e2]
 rcases List.mem_append.1 hx with hx | hx
 ·have := hA x hx; omega
 ·cases B with
  | nil => cases hx
  | cons y B =>
   rcases List.mem_cons.1 hx with rfl | hx
   ·exact h _ _ rfl ⟨e1, e2⟩
   ·have := (List.pairwise_cons.1 (List.pairwise_append.1 hI.srt).2.1).1 x hx
    have := hB y (by simp)
    omega
theorem spcadd_spec (H : Sat (SpecP E b R :: Z) w) {a k d : Int} (ha : 0 <= a /\ a < 18446744073709551616) (hf : R.length < 1099511627776) {K : Int -> World -> Prop} (hk1 : ¬ (1 <= k /\ k <= 3) -> K 1 w)
  (hk2 : 1 <= k /\ k <= 3 -> ∀ x ∈ R, x.addr = a -> x.kind = k -> K 34 w) (hk0 : 1 <= k /\ k <= 3 -> (∀ x ∈ R, ¬ (x.addr = a /\ x.kind = k)) -> ∀ A B blk w', R = A ++ B -> Sat (SpecP E b (A ++ ⟨blk, a, k, d⟩ :: B) :: Z) w' -> K 0 w') :
  F.special_Specials_Add E (some ⟨b, 0, none⟩) a k d K w := by
 have HS := H
 unfold F.special_Specials_Add T0.special_Specials_Add
 refine JOIN_in (CND_dec (fun g j => CND_t rfl (hk1 (by omega))) fun g1 j => CND_dec (fun g => hk1 (by omega)) fun g2 => ?_)
 have hk : 1 <= k /\ k <= 3 := by omega
 refine spcat_spec HS (by omega) fun A B hR hA hB => ?_
 obtain ⟨hI, H⟩ := Sat.spec.1 H
 subst hR
 refine spcis_spec H (fun y B' e e1 e2 => CND_t rfl (hk2 hk y (by rw [e]; simp) e1 e2)) fun hno => CND_f rfl ?_
 have hnone := rc_here hI hk hA hB hno
 have hs := spc_split.1 H
 simp only [NC_some]
 refine ⟨headP B none, spc_slot hs, ?_⟩
 refine AL_cells (vs := [.int .u64 a, .int .i64 k, .int .u64 d, .pointer (headP B none)]) hs fun b10 w11 H11 _ => ?_
 have H12 : Sat (spcres E b A (headP B none) ((A ++ B).length : Int) ++ (rcC E ⟨b10, a, k, d⟩ (headP B none) :: (chainT E B none ++ Z))) w11 := H11.perm List.perm_middle.symm
 refine spc_st H12 fun w13 H13 => ⟨_, (show Sat (Cells b _ _ :: _) w13 from H13).cell rfl, spc_count H13 fun w17 H17 => hk0 hk hnone A B b10 w17 rfl (Sat.spec.2 ⟨⟨?_, ?_, ?_⟩, ?_⟩)⟩
 ·have h1 := List.pairwise_append.1 hI.srt
  unfold Srt
  refine List.pairwise_append.2 ⟨h1.1, List.pairwise_cons.2 ⟨fun x hx => ?_, h1.2.1⟩, fun x hx y hy => ?_⟩
  ·have h2 := hB x hx
   have h3 := hnone x (by simp [hx])
   have h4 := hI.kd x (by simp [hx])
   have e : Rc.key ⟨b10, a, k, d⟩ = 4 * a + k := rfl
   rw [e]
   unfold Rc.key at h2 ⊢
   have : ¬ (x.addr = a /\ x.kind = k) := h3
   omega
  ·rcases List.mem_cons.1 hy with rfl | hy
   ·have := hA x hx; show x.key < 4 * a + k; omega
   ·exact h1.2.2 x hx y hy
 ·intro x hx
  rcases List.mem_append.1 hx with hx | hx
  ·exact hI.kd x (by simp [hx])
  ·rcases List.mem_cons.1 hx with rfl | hx
   ·exact ⟨hk.1, hk.2, ha⟩
   ·exact hI.kd x (by simp [hx])
 ·simp only [List.length_append, List.length_cons] at hf ⊢; omega
 ·have e : i64 (((A ++ B).length : Int) + 1) = ((A ++ (⟨b10, a, k, d⟩ : Rc) :: B).length : Int) := by
   rw [i64_id (by omega) (by omega)]
   simp only [List.length_append, List.length_cons]; omega
  rw [e] at H17
  exact (Sat.spcMid (y := ⟨b10, a, k, d⟩)).2 (H17.perm List.perm_middle)
theorem spcrem_spec (H : Sat (SpecP E b R :: Z) w) {a k : Int} (hk : 1 <= k /\ k <= 3) {K : Int -> Int -> World -> Prop} (hk0 : (∀ x ∈ R, ¬ (x.addr = a /\ x.kind = k)) -> K 0 35 w)
  (hk1 : ∀ A B y, R = A ++ y :: B -> y.addr = a -> y.kind = k -> ∀ w', Sat (SpecP E b (A ++ B) :: Z) w' -> K y.data 0 w') : F.special_Specials_Remove E (some ⟨b, 0, none⟩) a k K w := by
 have HS := H
 unfold F.special_Specials_Remove T0.special_Specials_Remove
 refine spcat_spec HS (by omega) fun A B hR hA hB => ?_
 obtain ⟨hI, H⟩ := Sat.spec.1 H
 subst hR
 refine spcis_spec H (fun y B' e e1 e2 => CND_f rfl ?_) fun hno => CND_t rfl (hk0 (rc_here hI hk hA hB hno))
 subst e
 have hm := Sat.spcMid.1 H
 have hs := spc_split.1 H
 simp only [NC_some]
 refine ⟨rcptr y, spc_slot hs, NC_in' ⟨headP B' none, hm.cell rfl, ?_⟩⟩
 have hm2 : Sat (spcres E b A (rcptr y) ((A ++ y :: B').length : Int) ++ (rcC E y (headP B' none) :: (chainT E B' none ++ Z))) w := hm.perm List.perm_middle.symm
 refine spc_st hm2 fun w10 H10 => ⟨_, (show Sat (Cells b _ _ :: _) w10 from H10).cell rfl, spc_count H10 fun w14 H14 => NC_in' ⟨y.data, ?_, ?_⟩⟩
 ·exact (show Sat (rcC E y (headP B' none) :: _) w14 from H14.perm List.perm_middle).cell rfl
 ·refine hk1 A B' y rfl e1 e2 w14 (Sat.spec.2 ⟨⟨hI.srt.sublist (by simp), fun x hx => hI.kd x ?_, ?_⟩, ?_⟩)
  ·rcases List.mem_append.1 hx with hx | hx
   ·simp [hx]
   ·simp [hx]
  ·have := hI.few; simp only [List.length_append, List.length_cons] at this ⊢; omega
  ·have hf := hI.few
   have e : i64 (((A ++ y :: B').length : Int) - 1) = ((A ++ B').length : Int) := by
    rw [i64_id (by omega) (by omega)]
    simp only [List.length_append, List.length_cons]; omega
   rw [e] at H14
   exact spc_split.2 (H14.perm List.perm_middle).tail
theorem spcwalk_spec {A B : List Rc} {n : Int} (t : Int -> Bool) (H : Sat (spcres E b (A ++ B) none n ++ Z) w) (hf : (A ++ B).length <= 1099511627776) {K : SlV -> World -> Prop}
  (hK : ∀ s w', s.len = (B.takeWhile fun y => t y.addr).length -> Sat (Row E.t_api_Special 3 s (recs sp3 (B.takeWhile fun y => t y.addr)) :: (spcres E b (A ++ B) none n ++ Z)) w' -> K s w') :
  LOOP (SlV × (Option Addr) × Unit) (⟨none, 0, 0⟩, headP B none, ()) w fun s5 _ w6 next7 =>
  CND (!s5.2.1.isNone) (
   NC s5.2.1 fun p8 =>
   ∃ x9 : Int, w6.cell? p8 = some (.int .u64 x9) /\
   CND (t x9) (
    NC s5.2.1 fun p10 =>
    ∃ c11 : Int, w6.cell? (p10.add 0) = some (.int .u64 c11) /\
    ∃ c12 : Int, w6.cell? (p10.add 1) = some (.int .i64 c12) /\
    ∃ c13 : Int, w6.cell? (p10.add 2) = some (.int .u64 c13) /\
    AL (.cells ⟨[.int .u64 c11, .int .i64 c12, .int .u64 c13]⟩ E.t_api_Special) w6 fun b14 w15 =>
    APP E.t_api_Special 3 24 #[.int .u64 0, .int .i64 0, .int .u64 0] s5.1 ⟨(some (Addr.mk b14 0 none)), 1, 1⟩ w15 fun s16 w17 =>
    NC s5.2.1 fun p18 =>
    ∃ x19 : (Option Addr), w17.cell? (p18.add 3) = some (.pointer x19) /\
    next7 (s16, x19, ()) w17
   ) (
    K s5.1 w6
   )
  ) (
   K s5.1 w6
  ) := by
 refine LOOP_ix (fun n' st w' => ∃ C D, st.2.1 = headP D none /\ B = C ++ D /\ (∀ x ∈ C, t x.addr = true) /\ n' = D.length /\ Sat (Row E.t_api_Special 3 st.1 (recs sp3 C) :: (spcres E b (A ++ B) none n ++ Z)) w') B.length ⟨[], B, rfl, rfl, fun x hx => (by cases hx), rfl, H.nil E.t_api_Special 3⟩ ?_
 rintro n' ⟨s, p, u⟩ _ w6 ⟨C, D, hp, hB, hC, hn, H6⟩
 dsimp only at hp H6 ⊢
 subst hp
 have hl := H6.recLen (by decide) sp3_len
 have fin : (∀ y D', D = y :: D' -> t y.addr = false) -> K s w6 := fun h => by
  have : B.takeWhile (fun y => t y.addr) = C := by
   rw [hB, List.takeWhile_append_of_pos fun x hx => hC x hx]
   cases D with
   | nil => simp
   | cons y D => rw [List.takeWhile_cons_of_neg (by rw [h y D rfl]; decide), List.append_nil]
  refine hK s w6 (by rw [this]; exact hl.1.symm) ?_
  rw [this]; exact H6
 cases D with
 | nil => exact CND_f rfl (fin fun y D' h => by cases h)
 | cons y D =>
  have eR : A ++ B = (A ++ C) ++ y :: D := by rw [hB]; simp
  have hm : ∀ {w' : World} {v : List Value} {s' : SlV}, Sat (Row E.t_api_Special 3 s' v :: (spcres E b (A ++ B) none n ++ Z)) w' -> w'.cell? ((Addr.mk y.blk 0 none).add 0) = some (.int .u64 y.addr) /\ w'.cell? ((Addr.mk y.blk 0 none).add 1) = some (.int .i64 y.kind) /\ w'.cell? ((Addr.mk y.blk 0 none).add 2) = some (.int .u64 y.data) /\ w'.cell? ((Addr.mk y.blk 0 none).add 3) = some (.pointer (headP D none)) := fun h => by
   have h := h.tail
   rw [eR] at h
   have h := Sat.spcMid.1 h
   exact ⟨h.cell rfl, h.cell rfl, h.cell rfl, h.cell rfl⟩
  obtain ⟨m0, m1, m2, _⟩ := hm H6
  have hlen : C.length + 1 <= 1099511627776 := by rw [eR] at hf; simp only [List.length_append, List.length_cons] at hf; omega
  refine CND_t rfl (NC_in' ⟨y.addr, by have := m0; rwa [add_zero] at this, CND_intro (fun ht => NC_in' ⟨_, m0, _, m1, _, m2, ?_⟩) fun ht => fin fun y' D' e => by cases e; exact ht⟩)
  refine AL_cells (vs := sp3 y) H6 fun b14 w15 H15 _ => ?_
  refine APP_one (news := sp3 y) (zs := #[.int .u64 0, .int .i64 0, .int .u64 0]) (bytes := 24) H15 rfl rfl (sp3_one y) (by omega) (by omega) fun s16 w17 H17 _ => NC_in' ⟨_, (hm H17).2.2.2, ?_⟩
  refine ⟨D.length, by rw [hn]; exact Nat.lt_succ_self _, C ++ [y], D, rfl, by rw [hB]; simp, fun x hx => ?_, rfl, ?_⟩
  ·rcases List.mem_append.1 hx with hx | hx
   ·exact hC x hx
   ·simp at hx; subst hx; exact ht
  ·rw [show recs sp3 C ++ sp3 y = recs sp3 (C ++ [y]) by rw [recs_app]; simp [recs]] at H17
   exact H17
theorem spcbetween_spec (H : Sat (SpecP E b R :: Z) w) {x y : Int} {K : SlV -> World -> Prop} (hK : ∀ s l w', l.length = s.len -> (s.len = 0 ↔ ∀ z ∈ R, ¬ (x <= z.addr /\ z.addr < y)) -> Sat (Row E.t_api_Special 3 s (recs sp3 l) :: SpecP E b R :: Z) w' -> K s w') :
  F.special_Specials_Between E (some ⟨b, 0, none⟩) x y K w := by
 have HS := H
 unfold F.special_Specials_Between T0.special_Specials_Between
 refine spcat_spec HS (by omega) fun A B hR hA hB => ?_
 obtain ⟨hI, H⟩ := Sat.spec.1 H
 subst hR
 refine NC_in' ⟨headP B none, spc_slot (spc_split.1 H), ?_⟩
 refine spcwalk_spec (fun z => decide (z < y)) H hI.few fun s w' hl H' => hK s _ w' hl.symm ?_ (((Sat.spec.2 ⟨hI, H'.perm List.perm_middle.symm⟩)).perm (.swap _ _ _))
 obtain ⟨h1, h2⟩ := rc_split hI hA hB
 have hsB := (List.pairwise_append.1 hI.srt).2.1
 rw [hl]
 cases B with
 | nil => exact ⟨fun _ z hz h => by have := h1 z (by simpa using hz); omega, fun _ => rfl⟩
 | cons q B =>
  have h3 := addr_srt (fun z hz => (hI.kd z (by simp; right; simpa using hz)).imp id fun h => h.1) hsB
  have h4 := h2 q (by simp)
  by_cases e : q.addr < y
  ·rw [List.takeWhile_cons_of_pos (by simpa using e)]
   exact ⟨fun h => by simp at h, fun h => absurd ⟨h4, e⟩ (h q (by simp))⟩
  ·rw [List.takeWhile_cons_of_neg (by simpa using e)]
   refine ⟨fun _ z hz h => ?_, fun _ => rfl⟩
   rcases List.mem_append.1 hz with hz | hz
   ·have := h1 z hz; omega
   ·rcases List.mem_cons.1 hz with rfl | hz
    ·exact e h.2
    ·have := h3 z hz; omega
def ofA (R : List Rc) (a : Int) : List Rc := R.filter fun y => y.addr == a
def notA (R : List Rc) (a : Int) : List Rc := R.filter fun y => !(y.addr == a)
theorem rc_of {A B : List Rc} {a : Int} (hI : RcInv (A ++ B)) (hA : ∀ x ∈ A, x.key < 4 * a + 0) (hB : ∀ x ∈ B, 4 * a + 0 <= x.key) : B.takeWhile (fun y => y.addr == a) = ofA (A ++ B) a /\ A ++ B.dropWhile (fun y => y.addr == a) = notA (A ++ B) a := by
 obtain ⟨h1, h2⟩ := rc_split hI hA hB
 obtain ⟨h3, h4⟩ := of_filter (a := a) (List.pairwise_append.1 hI.srt).2.1 (fun x hx => (hI.kd x (by simp [hx])).imp id fun h => h.1) h2
 unfold ofA notA
 rw [List.filter_append, List.filter_append, h3, h4]
 have e1 : A.filter (fun y => y.addr == a) = [] := List.filter_eq_nil_iff.2 fun x hx => by have := h1 x hx; simp; omega
 have e2 : A.filter (fun y => !(y.addr == a)) = A := List.filter_eq_self.2 fun x hx => by have := h1 x hx; simp; omega
 rw [e1, e2]; exact ⟨rfl, rfl⟩
theorem spcof_spec (H : Sat (SpecP E b R :: Z) w) {a : Int} {K : SlV -> World -> Prop} (hK : ∀ s w', s.len = (ofA R a).length -> Sat (Row E.t_api_Special 3 s (recs sp3 (ofA R a)) :: SpecP E b R :: Z) w' -> K s w') :
  F.special_Specials_Of E (some ⟨b, 0, none⟩) a K w := by
 have HS := H
 unfold F.special_Specials_Of T0.special_Specials_Of
 refine spcat_spec HS (by omega) fun A B hR hA hB => ?_
 obtain ⟨hI, H⟩ := Sat.spec.1 H
 subst hR
 refine NC_in' ⟨headP B none, spc_slot (spc_split.1 H), ?_⟩
 have e := (rc_of hI hA hB).1
 refine spcwalk_spec (fun z => z == a) H hI.few fun s w' hl H' => ?_
 rw [e] at hl H'
 exact hK s w' hl (((Sat.spec.2 ⟨hI, H'.perm List.perm_middle.symm⟩)).perm (.swap _ _ _))
theorem spctake_spec (H : Sat (SpecP E b R :: Z) w) {a : Int} {K : SlV -> World -> Prop} (hK : ∀ s w', s.len = (ofA R a).length -> Sat (Row E.t_api_Special 3 s (recs sp3 (ofA R a)) :: SpecP E b (notA R a) :: Z) w' -> K s w') :
  F.special_Specials_Take E (some ⟨b, 0, none⟩) a K w := by
 unfold F.special_Specials_Take T0.special_Specials_Take
 refine spcof_spec H fun s w2 hs H2 => ?_
 have H3 := H2.front 1 rfl
 refine spcat_spec H3 (by omega) fun A B hR hA hB => ?_
 obtain ⟨hI, H3⟩ := Sat.spec.1 H3
 subst hR
 obtain ⟨e1, e2⟩ := rc_of hI hA hB
 have hsp : B = ofA (A ++ B) a ++ B.dropWhile (fun y => y.addr == a) := by rw [<- e1, List.takeWhile_append_dropWhile]
 generalize hT : ofA (A ++ B) a = T at *
 generalize hD : B.dropWhile (fun y => y.addr == a) = D at *
 have hfew := hI.few
 have H4 : Sat (spcres E b A (headP B none) ((A ++ B).length : Int) ++ (chainT E B none ++ (Row E.t_api_Special 3 s (recs sp3 T) :: Z))) w2 := spc_split.1 H3
 have hBl : B.length = T.length + D.length := by rw [hsp, List.length_append]
 simp only [List.length_append] at hfew
 refine LOOP_intro (fun st w' => ∃ i : Nat, st.1 = (i : Int) /\ i <= T.length /\ Sat (spcres E b A (headP (B.drop i) none) ((A ++ B).length : Int) ++ (chainT E (B.drop i) none ++ (Row E.t_api_Special 3 s (recs sp3 T) :: Z))) w') (fun st _ => ((T.length : Int) - st.1).toNat) ⟨0, rfl, Nat.zero_le _, H4⟩ ?_
 rintro ⟨i', u⟩ _ w6 ⟨i, hi, hil, H6⟩
 dsimp only at hi ⊢
 subst hi
 rw [hs]
 refine CND_dec (fun g => ?_) fun g => ?_
 ·obtain ⟨y, hy⟩ : ∃ y, B.drop i = y :: B.drop (i + 1) := ⟨B[i]'(by omega), List.drop_eq_getElem_cons (by omega)⟩
  rw [hy] at H6
  have hc : w6.cell? ((Addr.mk y.blk 0 none).add 3) = some (.pointer (headP (B.drop (i + 1)) none)) :=
   (show Sat (rcC E y (headP (B.drop (i + 1)) none) :: _) w6 from H6.perm List.perm_middle).cell rfl
  have H7 : Sat (spcres E b A (rcptr y) ((A ++ B).length : Int) ++ (chainT E (B.drop (i + 1)) none ++ (Row E.t_api_Special 3 s (recs sp3 T) :: Z))) w6 := (show Sat (rcC E y (headP (B.drop (i + 1)) none) :: _) w6 from H6.perm List.perm_middle).tail
  simp only [NC_some]
  refine ⟨rcptr y, spc_slot H7, NC_in' ⟨_, hc, spc_st H7 fun w13 H13 => ⟨⟨i + 1, by rw [i64_id (by omega) (by omega)]; rfl, by omega, H13⟩, ?_⟩⟩⟩
  rw [i64_id (by omega) (by omega)]; omega
 ·have hii : i = T.length := by omega
  have hdr : B.drop i = D := by rw [hsp, hii, List.drop_left]
  rw [hdr] at H6
  simp only [NC_some]
  refine ⟨_, (show Sat (Cells b _ _ :: _) w6 from H6).cell rfl, spc_count H6 fun w17 H17 => hK s w17 hs ?_⟩
  have en : i64 (((A ++ B).length : Int) - ((T.length : Nat) : Int)) = ((A ++ D).length : Int) := by
   rw [i64_id (by simp only [List.length_append]; omega) (by simp only [List.length_append]; omega)]
   simp only [List.length_append]; omega
  rw [en] at H17
  rw [<- e2]
  have hIn : RcInv (A ++ D) := ⟨hI.srt.sublist (by rw [hsp]; exact (List.sublist_append_right _ _).append_left A |> fun h => h), fun x hx => hI.kd x ?_, by simp only [List.length_append]; omega⟩
  ·exact (Sat.spec.2 ⟨hIn, spc_split.2 H17⟩).perm (.swap _ _ _)
  ·rcases List.mem_append.1 hx with hx | hx
   ·simp [hx]
   ·rw [hsp]; simp [hx]
end
theorem spccount_spec {E : Env} {w : World} {Z : List Pr} {b : Nat} {R : List Rc} (H : Sat (SpecP E b R :: Z) w) {K : Int -> World -> Prop} (hK : K R.length w) : F.special_Specials_Count E (some ⟨b, 0, none⟩) K w := by
 obtain ⟨hI, H⟩ := Sat.spec.1 H
 unfold F.special_Specials_Count
 exact NC_in' ⟨_, H.cell rfl, hK⟩
end Go.Sh

set_option linter.all false
set_option maxRecDepth 8000
set_option maxHeartbeats 2000000
namespace Go.Sh
structure SW where
 S : HS
 L : List Itm
 R : List Rc
 em : List Rc
 freed : Int
 rate : Int
 charged : Int
 repaid : Int
def swcells (h s r : Nat) (em : SlV) (W : SW) : List Value := [.pointer (some ⟨h, 0, none⟩), .pointer (some ⟨s, 0, none⟩), .pointer (some ⟨r, 0, none⟩), slV em, .int .u64 W.freed, .int .u64 W.rate, .int .u64 W.charged, .int .u64 W.repaid]
def swres (E : Env) (b h s r : Nat) (W : SW) (em : SlV) : List Pr := [Cells b E.t_sweep_Sweeper (swcells h s r em W), HeapP E h W.S, SetsP E s W.L, SpecP E r W.R, Row E.t_api_Special 3 em (recs sp3 W.em)]
def SweepP (E : Env) (b h s r : Nat) (W : SW) : Pr := Ex fun em : SlV => Star (swres E b h s r W em)
structure SpOk (x : SI) : Prop where
 st : x.state = 1
 cls : 0 <= x.cls /\ x.cls < 68
 el : x.elem = if x.cls = 0 then x.pages * 8192 else (clsAt x.cls).1
 slo : x.slots = if x.cls = 0 then 1 else (clsAt x.cls).2.2.1
 mg : x.magic = (clsAt x.cls).2.2.2
 pg : 1 <= x.pages /\ x.pages <= 134217728 /\ (0 < x.cls -> x.pages = (clsAt x.cls).2.1)
 ba : 0 <= x.base /\ x.base % 8192 = 0 /\ x.base + x.pages * 8192 <= 281474976710656
abbrev Bits := Int -> Nat -> Bool
def Bits.set (U : Bits) (id : Int) (u : Nat -> Bool) : Bits := fun i => if i = id then u else U i
structure SwInv (W : SW) (U M : Bits) : Prop where
 hI : HInv W.S no
 sp : ∀ id x, W.S.sp id = some x -> SpOk x.2 /\ SpG x.2 (U id) (M id)
 it : ∀ x ∈ W.L, ∃ y, W.S.sp x.id = some y /\ y.2.base = x.base
theorem cls_facts : (clsT.all fun c => decide (0 <= c.1) && (decide (0 <= c.2.2.1) && (decide (c.2.2.1 <= 1024) && (decide (c.1 * c.2.2.1 <= c.2.1 * 8192) && (decide (0 <= c.2.2.2) && (decide (c.2.2.2 < 4294967296) && (decide (c.2.2.2 = 0) || (decide (8 <= c.1) && (decide (c.1 <= 32768) && (decide (4294967296 <= c.2.2.2 * c.1) && (decide ((c.2.2.2 * c.1 - 4294967296) * c.2.2.1 < c.2.2.2) && (decide (1 <= c.2.2.1) && decide (1 <= c.2.1))))))))))))) = true := by decide +kernel
theorem cls_pos : ((clsT.drop 1).all fun c => decide (8 <= c.1) && (decide (c.1 <= 32768) && (decide (1 <= c.2.2.1) && (decide (1 <= c.2.1) && (decide (c.1 % 8 = 0) && decide (0 < c.2.2.2)))))) = true := by decide +kernel
theorem cls0 : clsAt 0 = (0, 0, 0, 0) := by decide +kernel
theorem cls_at_pos {c : Int} (h0 : 0 < c) (h1 : c < 68) : 8 <= (clsAt c).1 /\ (clsAt c).1 <= 32768 /\ 1 <= (clsAt c).2.2.1 /\ 1 <= (clsAt c).2.1 /\ (clsAt c).1 % 8 = 0 /\ 0 < (clsAt c).2.2.2 := by
 have h := cls_at (c := c) (by omega) h1
 have h2 : (clsT.drop 1)[c.toNat - 1]? = some (clsAt c) := by rw [List.getElem?_drop, show 1 + (c.toNat - 1) = c.toNat by omega]; exact h
 have := List.all_eq_true.1 cls_pos _ (List.mem_of_getElem? h2)
 simpa using this
theorem cls_at_all {c : Int} (h0 : 0 <= c) (h1 : c < 68) : 0 <= (clsAt c).1 /\ 0 <= (clsAt c).2.2.1 /\ (clsAt c).2.2.1 <= 1024 /\ (clsAt c).1 * (clsAt c).2.2.1 <= (clsAt c).2.1 * 8192 /\ 0 <= (clsAt c).2.2.2 /\ (clsAt c).2.2.2 < 4294967296 /\
  ((clsAt c).2.2.2 = 0 ∨ (8 <= (clsAt c).1 /\ (clsAt c).1 <= 32768 /\ 4294967296 <= (clsAt c).2.2.2 * (clsAt c).1 /\ ((clsAt c).2.2.2 * (clsAt c).1 - 4294967296) * (clsAt c).2.2.1 < (clsAt c).2.2.2 /\ 1 <= (clsAt c).2.2.1 /\ 1 <= (clsAt c).2.1)) := by
 have := List.all_eq_true.1 cls_facts _ (List.mem_of_getElem? (cls_at h0 h1))
 simpa using this
theorem SpOk.size {x : SI} (h : SpOk x) : 0 < x.elem /\ x.elem <= 1099511627776 /\ 1 <= x.slots /\ x.slots <= 1024 /\ x.elem * x.slots <= x.pages * 8192 := by
 have hc := h.cls
 have hp := h.pg
 by_cases e : x.cls = 0
 ·have h1 := h.el; have h2 := h.slo
  rw [if_pos e] at h1 h2
  rw [h1, h2]; omega
 ·have h1 := h.el; have h2 := h.slo
  rw [if_neg e] at h1 h2
  have h3 := cls_at_pos (c := x.cls) (by omega) hc.2
  have h4 := cls_at_all hc.1 hc.2
  have h5 := hp.2.2 (by omega)
  rw [h1, h2, h5]; omega
theorem SpOk.magOk {x : SI} (h : SpOk x) : magOk x := by
 have hc := h.cls
 have hm := h.mg
 have h4 := cls_at_all hc.1 hc.2
 have hs := h.size
 refine ⟨by omega, by omega, fun g => ?_⟩
 have hne : x.cls ≠ 0 := fun e => by rw [e, cls0] at hm; simp at hm; omega
 have h1 := h.el; have h2 := h.slo
 rw [if_neg hne] at h1 h2
 rcases h4.2.2.2.2.2.2 with q | ⟨q1, q2, q3, q4, q5, q6⟩
 ·omega
 ·rw [hm, h1, h2]
  generalize (clsAt x.cls).1 = s at *
  generalize (clsAt x.cls).2.2.1 = n at *
  generalize (clsAt x.cls).2.2.2 = m at *
  have hn : n <= 1024 := h4.2.2.1
  have hns : n * s <= 1024 * 32768 := Int.mul_le_mul hn q2 (by omega) (by decide)
  refine ⟨by omega, fun off o0 o1 => ?_⟩
  have hr := Int.emod_nonneg off (show s ≠ 0 by omega)
  have hr2 := Int.emod_lt_of_pos off (show 0 < s by omega)
  have hdv := Int.mul_ediv_add_emod off s
  have hq0 : 0 <= off / s := Int.ediv_nonneg o0 (by omega)
  have hqn : off / s < n := Int.ediv_lt_of_lt_mul (by omega) o1
  generalize off / s = q at *
  generalize off % s = r at *
  have hoff : off = s * q + r := hdv.symm
  obtain ⟨e, he⟩ : ∃ e, e = m * s - 4294967296 := ⟨_, rfl⟩
  have he0 : 0 <= e := by omega
  have hms : m * s = 4294967296 + e := by omega
  have e1 : off * m = q * 4294967296 + (q * e + r * m) := by
   rw [hoff, Int.add_mul, Int.mul_comm s q, Int.mul_assoc, Int.mul_comm s m, hms, Int.mul_add]; omega
  have h6 : 0 <= q * e := Int.mul_nonneg hq0 he0
  have h7 : 0 <= r * m := Int.mul_nonneg hr (by omega)
  have h8 : r * m <= (s - 1) * m := Int.mul_le_mul_of_nonneg_right (by omega) (by omega)
  have h9 : (s - 1) * m = m * s - m := by rw [Int.sub_mul, Int.one_mul, Int.mul_comm]
  have h10 : (q + 1) * e <= n * e := Int.mul_le_mul_of_nonneg_right (by omega) he0
  have h11 : (q + 1) * e = q * e + e := by rw [Int.add_mul, Int.one_mul]
  have h12 : e * n < m := by rw [he]; exact q4
  rw [Int.mul_comm n e] at h10
  rw [e1]
  have : q * 4294967296 + (q * e + r * m) = (q * e + r * m) + q * 4294967296 := by omega
  rw [this, Int.add_mul_ediv_right _ _ (by decide), Int.ediv_eq_zero_of_lt (by omega) (by omega)]; omega
theorem SpOk.upd {x y : SI} (h : SpOk x) (h1 : y.base = x.base) (h2 : y.pages = x.pages) (h3 : y.state = x.state) (h4 : y.cls = x.cls) (h5 : y.elem = x.elem) (h6 : y.slots = x.slots) (h7 : y.magic = x.magic) : SpOk y := by
 refine ⟨by rw [h3]; exact h.st, by rw [h4]; exact h.cls, by rw [h5, h4, h2]; exact h.el, by rw [h6, h4]; exact h.slo, by rw [h7, h4]; exact h.mg, by rw [h2, h4]; exact h.pg, by rw [h1, h2]; exact h.ba⟩
theorem spOf_ok {page n c : Int} {np : Bool} (h0 : 0 <= page) (h1 : page + n <= 34359738368) (hb : ¬ spBad 0 n c) (hn : 0 <= n) : SpOk (spOf page n c np) := by
 unfold spBad at hb
 have hc : 0 <= c /\ c < 68 := by omega
 have hcb := cls_bnd hc.1 hc.2
 have hp : 0 < c -> n = (clsAt c).2.1 := fun h => Classical.byContradiction fun g => hb (.inr (.inr (.inr (.inr (.inr (.inr ⟨h, g⟩))))))
 have hn2 : n <= 134217728 := by
  by_cases e : c = 0
  ·omega
  ·have := hp (by omega); omega
 refine ⟨rfl, hc, rfl, rfl, rfl, ⟨by show 1 <= n; omega, by show n <= _; omega, hp⟩, by show 0 <= page * 8192 /\ page * 8192 % 8192 = 0 /\ page * 8192 + n * 8192 <= _; omega⟩
theorem spOf_g {page n c : Int} {np : Bool} (h : SpOk (spOf page n c np)) : SpG (spOf page n c np) (fun _ => false) fun _ => false := by
 have hs := h.size
 refine ⟨rowBt_nil fun _ => rfl, rowBt_nil fun _ => rfl, by show ((0 : Nat) : Int) * 64 <= _; omega, by show ((0 : Nat) : Int) * 64 <= _; omega, fun i hi => (by cases hi), fun i hi => (by cases hi), by omega, ?_, ⟨Int.le_refl 0, by show (0 : Int) <= _; omega, fun i hi => ?_⟩⟩
 ·show (0 : Int) = _
  have : cN (fun _ => false) (spOf page n c np).slots.toNat = 0 := by
   generalize (spOf page n c np).slots.toNat = m
   induction m with
   | zero => rfl
   | succ m ih => show cN _ m + 0 = 0; rw [ih]
  rw [this]; rfl
 ·have hi : (i : Int) < 0 := hi
  omega
section
variable {E : Env} {w : World} {Z : List Pr} {b h s r : Nat} {W : SW} {U M : Bits}
theorem Sat.sweep : Sat (SweepP E b h s r W :: Z) w ↔ ∃ em, Sat (swres E b h s r W em ++ Z) w := by
 unfold SweepP
 rw [Sat.ex]
 exact ⟨fun ⟨g, h⟩ => ⟨g, Sat.star.1 h⟩, fun ⟨g, h⟩ => ⟨g, Sat.star.2 h⟩⟩
theorem swcell {em : SlV} (H : Sat (swres E b h s r W em ++ Z) w) : w.cell? (Addr.mk b 0 none) = some (.pointer (some ⟨h, 0, none⟩)) /\ w.cell? ((Addr.mk b 0 none).add 1) = some (.pointer (some ⟨s, 0, none⟩)) /\ w.cell? ((Addr.mk b 0 none).add 2) = some (.pointer (some ⟨r, 0, none⟩)) /\
  w.cell? ((Addr.mk b 0 none).add 3) = some (.slice em.base em.len em.cap) /\ w.cell? ((Addr.mk b 0 none).add 4) = some (.int .u64 W.freed) /\ w.cell? ((Addr.mk b 0 none).add 5) = some (.int .u64 W.rate) /\ w.cell? ((Addr.mk b 0 none).add 6) = some (.int .u64 W.charged) /\ w.cell? ((Addr.mk b 0 none).add 7) = some (.int .u64 W.repaid) :=
 have H : Sat (Cells b E.t_sweep_Sweeper (swcells h s r em W) :: _) w := H
 ⟨H.cell0 rfl, H.cell rfl, H.cell rfl, H.cell rfl, H.cell rfl, H.cell rfl, H.cell rfl, H.cell rfl⟩
theorem Sat.swHeap (H : Sat (SweepP E b h s r W :: Z) w) : ∃ R, Sat (HeapP E h W.S :: R) w /\ (∀ {w'}, Sat R w' -> Sat Z w') /\ ∀ {S' w'}, Sat (HeapP E h S' :: R) w' -> Sat (SweepP E b h s r { W with S := S' } :: Z) w' := by
 obtain ⟨em, H⟩ := Sat.sweep.1 H
 exact ⟨_, H.front 1 rfl, fun h => h.tail.tail.tail.tail, fun {S' w'} h' => Sat.sweep.2 ⟨em, Sat.back (Ps := swres E b h s r W em ++ Z) 1 h' (by simp [swres])⟩⟩
theorem Sat.swSets (H : Sat (SweepP E b h s r W :: Z) w) : ∃ R, Sat (SetsP E s W.L :: R) w /\ (∀ {w'}, Sat R w' -> Sat Z w') /\ ∀ {L' w'}, Sat (SetsP E s L' :: R) w' -> Sat (SweepP E b h s r { W with L := L' } :: Z) w' := by
 obtain ⟨em, H⟩ := Sat.sweep.1 H
 exact ⟨_, H.front 2 rfl, fun h => h.tail.tail.tail.tail, fun {S' w'} h' => Sat.sweep.2 ⟨em, Sat.back (Ps := swres E b h s r W em ++ Z) 2 h' (by simp [swres])⟩⟩
theorem Sat.swSpec (H : Sat (SweepP E b h s r W :: Z) w) : ∃ Q, Sat (SpecP E r W.R :: Q) w /\ (∀ {w'}, Sat Q w' -> Sat Z w') /\ ∀ {R' w'}, Sat (SpecP E r R' :: Q) w' -> Sat (SweepP E b h s r { W with R := R' } :: Z) w' := by
 obtain ⟨em, H⟩ := Sat.sweep.1 H
 exact ⟨_, H.front 3 rfl, fun h => h.tail.tail.tail.tail, fun {S' w'} h' => Sat.sweep.2 ⟨em, Sat.back (Ps := swres E b h s r W em ++ Z) 3 h' (by simp [swres])⟩⟩
theorem Sat.swPtr (H : Sat (SweepP E b h s r W :: Z) w) : w.cell? (Addr.mk b 0 none) = some (.pointer (some ⟨h, 0, none⟩)) /\ w.cell? ((Addr.mk b 0 none).add 1) = some (.pointer (some ⟨s, 0, none⟩)) /\ w.cell? ((Addr.mk b 0 none).add 2) = some (.pointer (some ⟨r, 0, none⟩)) := by
 obtain ⟨em, H⟩ := Sat.sweep.1 H
 exact ⟨(swcell H).1, (swcell H).2.1, (swcell H).2.2.1⟩
def SW.new (S : HS) : SW := ⟨S, [], [], [], 0, 0, 0, 0⟩
theorem swnew_spec {S : HS} (H : Sat (SpecP E r [] :: SetsP E s [] :: HeapP E h S :: Z) w) {K : Option Addr -> World -> Prop} (hK : ∀ b w', Sat (SweepP E b h s r (SW.new S) :: Z) w' -> K (some ⟨b, 0, none⟩) w') : F.sweep_New E (some ⟨h, 0, none⟩) (some ⟨s, 0, none⟩) (some ⟨r, 0, none⟩) K w := by
 unfold F.sweep_New
 refine AL_cells (vs := swcells h s r ⟨none, 0, 0⟩ (SW.new S)) H fun b1 w2 H2 _ => hK b1 w2 (Sat.sweep.2 ⟨⟨none, 0, 0⟩, ?_⟩)
 have h1 := H2.nil E.t_api_Special 3
 exact ((((h1.front 0 rfl).front 2 rfl).front 3 rfl).front 4 rfl).front 4 rfl
theorem swheap_spec (H : Sat (SweepP E b h s r W :: Z) w) {K : Option Addr -> World -> Prop} (hK : K (some ⟨h, 0, none⟩) w) : F.sweep_Sweeper_Heap E (some ⟨b, 0, none⟩) K w := by
 unfold F.sweep_Sweeper_Heap
 exact NC_in ⟨_, H.swPtr.1, hK⟩
theorem swsets_spec (H : Sat (SweepP E b h s r W :: Z) w) {K : Option Addr -> World -> Prop} (hK : K (some ⟨s, 0, none⟩) w) : F.sweep_Sweeper_Sets E (some ⟨b, 0, none⟩) K w := by
 unfold F.sweep_Sweeper_Sets
 exact NC_in ⟨_, H.swPtr.2.1, hK⟩
def zinfo : List Value := [.int .u64 0, .int .i64 0, .int .i64 0, .int .i64 0, .bool false, .int .i64 0, .int .i64 0, .int .i64 0, .bool false, .bool false]
def infoL (x : SI) : List Value := [.int .u64 x.base, .int .i64 x.pages, .int .i64 x.state, .int .i64 x.cls, .bool x.noptr, .int .i64 x.elem, .int .i64 x.slots, .int .i64 x.used, .bool x.f8, .bool x.f9]
theorem swuse_spec (H : Sat (SweepP E b h s r W :: Z) w) (hI : SwInv W U M) {id : Int} {K : Option Addr -> Int -> Int -> Int -> Int -> Bool -> Int -> Int -> Int -> Bool -> Bool -> Int -> World -> Prop}
  (hk0 : W.S.sp id = none -> ∀ w', Sat (SweepP E b h s r W :: Z) w' -> K none 0 0 0 0 false 0 0 0 false false 35 w')
  (hk1 : ∀ x, W.S.sp id = some x -> SpOk x.2 -> SpG x.2 (U id) (M id) -> ∀ w', Sat (SweepP E b h s r W :: Z) w' -> K (some ⟨x.1, 0, none⟩) x.2.base x.2.pages x.2.state x.2.cls x.2.noptr x.2.elem x.2.slots x.2.used x.2.f8 x.2.f9 0 w') :
  F.sweep_Sweeper_use E (some ⟨b, 0, none⟩) id K w := by
 unfold F.sweep_Sweeper_use T0.sweep_Sweeper_use
 refine AL_cells (vs := zinfo) H fun b1 w2 H2 _ => NC_in ⟨_, (H2.front 1 rfl).swPtr.1, ?_⟩
 obtain ⟨R, HH, _, hb⟩ := (H2.front 1 rfl : Sat (SweepP E b h s r W :: Cells b1 E.t_api_Info zinfo :: Z) w2).swHeap
 refine hspan_spec HH (fun hn => ?_) fun x hx => ?_
 ·refine CND_t rfl ?_
  refine st_all (news := zinfo) H2 rfl (by simp [zinfo, Value.oneCell']) fun w8 H8 => ?_
  exact ⟨0, H8.cell rfl, 0, H8.cell rfl, 0, H8.cell rfl, 0, H8.cell rfl, false, H8.cell rfl, 0, H8.cell rfl, 0, H8.cell rfl, 0, H8.cell rfl, false, H8.cell rfl, false, H8.cell rfl, hk0 hn w8 H8.tail⟩
 ·obtain ⟨hok, hg⟩ := hI.sp id x hx
  obtain ⟨R2, hs2, hb2⟩ := HH.heapSpan hx
  refine CND_f rfl (spinfo_spec hs2 fun w29 H29 => ?_)
  have H30 : Sat (SweepP E b h s r W :: Cells b1 E.t_api_Info zinfo :: Z) w29 := hb (hb2 H29)
  refine AL_cells (vs := zinfo) H30 fun b30 w31 H31 _ => ?_
  refine st_all (news := infoL x.2) H31 rfl (by simp [infoL, Value.oneCell']) fun w32 H32 => ⟨x.2.state, H32.cell rfl, ?_⟩
  rw [hok.st]
  refine CND_f rfl ?_
  have H33 := H32.drew
  refine ⟨_, H33.cell rfl, _, H33.cell rfl, _, H33.cell rfl, _, H33.cell rfl, _, H33.cell rfl, _, H33.cell rfl, _, H33.cell rfl, _, H33.cell rfl, _, H33.cell rfl, _, H33.cell rfl, ?_⟩
  refine st_all (news := infoL x.2) (H33.front 2 rfl) rfl (by simp [infoL, Value.oneCell']) fun w55 H55 => ?_
  exact ⟨_, H55.cell rfl, _, H55.cell rfl, _, H55.cell rfl, _, H55.cell rfl, _, H55.cell rfl, _, H55.cell rfl, _, H55.cell rfl, _, H55.cell rfl, _, H55.cell rfl, _, H55.cell rfl, hk1 x hx hok hg w55 H55.tail.tail⟩
end
end Go.Sh

set_option linter.all false
set_option maxRecDepth 8000
set_option maxHeartbeats 2000000
namespace Go.Sh
theorem own_base {S : HS} {fl : Int -> Bool} (hI : HInv S fl) {id : Int} {x : Nat × SI} (hx : S.sp id = some x) {p : Int} (h1 : x.2.base / 8192 <= p) (h2 : p < x.2.base / 8192 + x.2.pages) : S.own p = id := (hI.sp id x hx).2.2.2.2 p h1 h2
theorem base_inj {S : HS} {fl : Int -> Bool} (hI : HInv S fl) {i j : Int} {x y : Nat × SI} (hx : S.sp i = some x) (hy : S.sp j = some y) (h : x.2.base = y.2.base) : i = j := by
 have h1 := (hI.sp i x hx).2.2.1
 have h2 := (hI.sp j y hy).2.2.1
 rw [<- own_base hI hx (Int.le_refl _) (by omega), <- own_base hI hy (p := x.2.base / 8192) (by rw [h]; exact Int.le_refl _) (by rw [h]; omega)]
section
variable {E : Env} {w : World} {Z : List Pr} {b h s r : Nat} {W : SW} {U M : Bits}
theorem SwInv.ofL (hI : SwInv W U M) {L : List Itm} (hL : ∀ x ∈ L, ∃ y, W.S.sp x.id = some y /\ y.2.base = x.base) : SwInv { W with L := L } U M := ⟨hI.hI, hI.sp, hL⟩
variable (hE : EnvW E)
include hE
theorem swput_spec (H : Sat (SweepP E b h s r W :: Z) w) (hI : SwInv W U M) {id : Int} {sw : Bool} (hf : W.L.length < 1099511627776) {K : Int -> World -> Prop}
  (hk0 : W.S.sp id = none -> ∀ w', Sat (SweepP E b h s r W :: Z) w' -> K 35 w') (hk1 : W.S.sp id ≠ none -> (∃ x ∈ W.L, x.id = id) -> ∀ w', Sat (SweepP E b h s r W :: Z) w' -> K 34 w')
  (hk2 : ∀ x, W.S.sp id = some x -> (∀ y ∈ W.L, y.id ≠ id) -> ∀ blk, SwInv { W with L := insB W.L ⟨blk, id, x.2.base, (x.2.cls, x.2.noptr, x.2.used == x.2.slots, sw)⟩ } U M -> ∀ w',
   Sat (SweepP E b h s r { W with L := insB W.L ⟨blk, id, x.2.base, (x.2.cls, x.2.noptr, x.2.used == x.2.slots, sw)⟩ } :: Z) w' -> K 0 w') : F.sweep_Sweeper_Put E (some ⟨b, 0, none⟩) id sw K w := by
 unfold F.sweep_Sweeper_Put T0.sweep_Sweeper_Put
 refine swuse_spec H hI (fun hn w' H' => ?_) fun x hx hok hg w' H' => ?_
 ·refine AL_cells (vs := zinfo) H' fun b14 w15 H15 _ => ?_
  refine st_all (news := zinfo) H15 rfl (by simp [zinfo, Value.oneCell']) fun w16 H16 => CND_t rfl (hk0 hn w16 H16.tail)
 ·refine AL_cells (vs := zinfo) H' fun b14 w15 H15 _ => ?_
  refine st_all (news := infoL x.2) H15 rfl (by simp [infoL, Value.oneCell']) fun w16 H16 => CND_f rfl (NC_in ?_)
  have H17 := H16.drew
  have H18 := H17.front 1 rfl
  refine ⟨_, H18.swPtr.2.1, _, H17.cell0 rfl, _, H17.cell rfl, _, H17.cell rfl, _, H17.cell rfl, _, H17.cell rfl, ?_⟩
  obtain ⟨R, HH, hz, hb⟩ := H18.swSets
  have hpos := (hI.hI.sp id x hx).1
  have hc := hok.cls
  refine seput_spec hE HH hf (fun hb => ?_) (fun _ hex => ?_) fun _ hno blk w25 H25 => ?_
  ·unfold seBad at hb; omega
  ·refine ⟨H17.cell rfl, H17.cell rfl, hk1 (by rw [hx]; exact fun h => by cases h) ?_ _ H17.tail⟩
   obtain ⟨y, hy, e⟩ := hex
   refine ⟨y, hy, ?_⟩
   rcases e with e | e
   ·exact e
   ·obtain ⟨z, hz1, hz2⟩ := hI.it y hy
    exact base_inj hI.hI hz1 hx (by rw [hz2, e])
  ·have hz25 := hz H25.tail
   refine ⟨hz25.cell rfl, hz25.cell rfl, hk2 x hx (fun y hy => (hno y hy).1) blk (hI.ofL fun y hy => ?_) w25 ?_⟩
   ·rcases mem_insB.1 hy with rfl | hy
    ·exact ⟨x, hx, rfl⟩
    ·exact hI.it y hy
   ·exact ((hb H25).front 1 rfl).tail
end
section
variable {E : Env} {w : World} {Z : List Pr} {b h s r : Nat} {W : SW} {U M : Bits} (hE : EnvW E)
include hE
theorem swnext_spec (H : Sat (SweepP E b h s r W :: Z) w) (hI : SwInv W U M) {K : Int -> Bool -> World -> Prop} (hk0 : (∀ x ∈ W.L, x.swept = true) -> ∀ w', Sat (SweepP E b h s r W :: Z) w' -> K 0 false w')
  (hk1 : ∀ x, LeastS W.L x -> SwInv { W with L := remB W.L x.id } U M -> ∀ w', Sat (SweepP E b h s r { W with L := remB W.L x.id } :: Z) w' -> K x.id true w') : F.sweep_Sweeper_Next E (some ⟨b, 0, none⟩) K w := by
 unfold F.sweep_Sweeper_Next T0.sweep_Sweeper_Next
 refine NC_in ⟨_, H.swPtr.2.1, ?_⟩
 obtain ⟨R, HH, hz, hb⟩ := H.swSets
 refine seleast_spec HH (fun hall w5 H5 => CND_f rfl (hk0 hall w5 (hb H5))) fun x hx w5 H5 => CND_t rfl ?_
 have H6 := hb H5
 refine NC_in ⟨_, H6.swPtr.2.1, ?_⟩
 obtain ⟨R2, HH2, hz2, hb2⟩ := H6.swSets
 refine serem_spec hE HH2 (fun hno => absurd rfl (hno x hx.1)) fun y hy e w9 H9 => ?_
 exact hk1 x hx (hI.ofL fun y hy => hI.it y (mem_remB.1 hy).1) w9 (hb2 H9)
end
structure MwEq (S S' : HS) : Prop where
 rest : S' = { S with sp := S'.sp }
 no : ∀ id, S.sp id = none -> S'.sp id = none
 sp : ∀ id x, S.sp id = some x -> ∃ mw, S'.sp id = some (x.1, { x.2 with mw := mw })
theorem MwEq.refl (S : HS) : MwEq S S := ⟨rfl, fun _ h => h, fun id x h => ⟨x.2.mw, h⟩⟩
theorem MwEq.put {S S' : HS} (h : MwEq S S') {id : Int} {x : Nat × SI} (hx : S'.sp id = some x) (mw : List Int) : MwEq S (S'.put id (x.1, { x.2 with mw := mw })) := by
 refine ⟨?_, fun i hi => ?_, fun i y hy => ?_⟩
 ·have := h.rest
  unfold HS.put
  rw [this]
 ·show (if i = id then _ else S'.sp i) = none
  by_cases e : i = id
  ·subst e; rw [h.no i hi] at hx; cases hx
  ·rw [if_neg e]; exact h.no i hi
 ·obtain ⟨mw0, h0⟩ := h.sp i y hy
  by_cases e : i = id
  ·subst e
   rw [hx] at h0
   have h0 := Option.some.inj h0
   subst h0
   exact ⟨mw, HS.put_sp⟩
  ·exact ⟨mw0, (HS.put_ne e).trans h0⟩
theorem MwEq.own {S S' : HS} (h : MwEq S S') : S'.own = S.own := by rw [h.rest]
def mkOf (S : HS) (a : Int) : Option (Int × Nat) := match S.sp (S.own (a / 8192)) with
 | none => none
 | some x => if x.2.base <= a /\ a < x.2.base + x.2.slots * x.2.elem then some (S.own (a / 8192), ((a - x.2.base) / x.2.elem).toNat) else none
theorem mkOf_eq {S S' : HS} (h : MwEq S S') (a : Int) : mkOf S' a = mkOf S a := by
 unfold mkOf
 rw [h.own]
 cases e : S.sp (S.own (a / 8192)) with
 | none => rw [h.no _ e]
 | some x =>
  obtain ⟨mw, h1⟩ := h.sp _ x e
  rw [h1]
def Bits.mark (M : Bits) (S : HS) (as_ : List Int) : Bits := fun id k => M id k || as_.any fun a => decide (mkOf S a = some (id, k))
theorem SwInv.mark {W : SW} {U M : Bits} (hI : SwInv W U M) {id : Int} {x : Nat × SI} (hx : W.S.sp id = some x) {n : Nat} {mw : List Int} (hg : SpG { x.2 with mw := mw } (U id) (fun i => M id i || i == n)) :
  SwInv { W with S := W.S.put id (x.1, { x.2 with mw := mw }) } U (fun j i => M j i || (decide (j = id) && i == n)) := by
 obtain ⟨hok, _⟩ := hI.sp id x hx
 refine ⟨hI.hI.put hx rfl rfl (by show x.2.state ≠ 0; rw [hok.st]; decide), fun j y hy => ?_, fun it hit => ?_⟩
 ·by_cases e : j = id
  ·subst e
   have hy : (W.S.put j (x.1, { x.2 with mw := mw })).sp j = some y := hy
   rw [HS.put_sp] at hy
   cases hy
   refine ⟨hok.upd rfl rfl rfl rfl rfl rfl rfl, ?_⟩
   have : (fun i => M j i || (decide (j = j) && i == n)) = fun i => M j i || i == n := by funext i; simp
   rw [this]; exact hg
  ·have hy : (W.S.put id (x.1, { x.2 with mw := mw })).sp j = some y := hy
   rw [HS.put_ne e] at hy
   have := hI.sp j y hy
   have e2 : (fun i => M j i || (decide (j = id) && i == n)) = M j := by funext i; simp [e]
   rw [e2]; exact this
 ·obtain ⟨y, h1, h2⟩ := hI.it it hit
  by_cases e : it.id = id
  ·rw [e, hx] at h1
   cases h1
   exact ⟨(x.1, { x.2 with mw := mw }), by rw [e]; exact HS.put_sp, h2⟩
  ·exact ⟨y, (HS.put_ne e).trans h1, h2⟩
section
variable {E : Env} {w : World} {Z : List Pr} {b h s r : Nat} {W : SW} {U M : Bits} (hE : EnvW E)
include hE
theorem swmark_spec (H : Sat (SweepP E b h s r W :: Z) w) (hI : SwInv W U M) {a1 : SlV} {as_ : List Int} (hA : ∀ w', Sat Z w' -> rowAt w' a1.base a1.len (ints .u64 as_)) (hl : as_.length = a1.len) (hl2 : a1.len <= 1099511627776) (has : ∀ a ∈ as_, 0 <= a /\ a < 18446744073709551616)
  {K : Int -> World -> Prop} (hk1 : 0 < cntS W.L false -> ∀ w', Sat (SweepP E b h s r W :: Z) w' -> K 33 w')
  (hk0 : (∀ x ∈ W.L, x.swept = true) -> ∀ S', MwEq W.S S' -> SwInv { W with S := S', L := flipL W.L } U (M.mark W.S as_) -> ∀ w', Sat (SweepP E b h s r { W with S := S', L := flipL W.L } :: Z) w' -> K 0 w') :
  F.sweep_Sweeper_Mark E (some ⟨b, 0, none⟩) a1 K w := by
 unfold F.sweep_Sweeper_Mark T0.sweep_Sweeper_Mark
 refine NC_in ⟨_, H.swPtr.2.1, ?_⟩
 obtain ⟨R, HH, hz, hb⟩ := H.swSets
 refine secount_spec HH fun w4 H4 => CND_dec (fun g => hk1 (by omega) w4 (hb H4)) fun g => ?_
 have H5 := hb H4
 have e0 : M.mark W.S (as_.take 0) = M := by funext i k; simp [Bits.mark]
 refine LOOP_intro (fun st w' => ∃ (i : Nat) (S' : HS), st.1 = (i : Int) /\ i <= as_.length /\ MwEq W.S S' /\ SwInv { W with S := S' } U (M.mark W.S (as_.take i)) /\ Sat (SweepP E b h s r { W with S := S' } :: Z) w') (fun st _ => ((as_.length : Int) - st.1).toNat) ⟨0, W.S, rfl, Nat.zero_le _, MwEq.refl _, by rw [e0]; exact hI, H5⟩ ?_
 rintro ⟨i', u⟩ _ w6 ⟨i, S', hi, hil, hmw, hIi, H6⟩
 dsimp only at hi ⊢
 subst hi
 refine CND_dec (fun hlt => ?_) fun hge => ?_
 ·obtain ⟨a, ha⟩ : ∃ a, as_[i]? = some a := ⟨_, List.getElem?_eq_getElem (by omega)⟩
  have hin := has a (List.mem_of_getElem? ha)
  obtain ⟨q, hq, hqc⟩ : ∃ q, a1.base = some q /\ w6.cell? (q.add (Int.toNat (i : Int) * 1)) = some (.int .u64 a) := by
   have hr := hA w6 H6.tail
   cases hb1 : a1.base with
   | none => rw [hb1] at hr; have : ints .u64 as_ = [] := hr; simp [ints] at this; subst this; simp at ha
   | some q => rw [hb1] at hr; exact ⟨q, rfl, by rw [Int.toNat_natCast, Nat.mul_one]; exact hr.2 i _ (ints_get ha)⟩
  rw [hq]
  refine NC_in ⟨⟨by omega, by omega⟩, a, hqc, NC_in ⟨_, H6.swPtr.1, ?_⟩⟩
  have hi1 : i64 ((i : Int) + 1) = ((i + 1 : Nat) : Int) := by rw [i64_id (by omega) (by omega)]; rfl
  rw [hi1]
  have etk : as_.take (i + 1) = as_.take i ++ [a] := take_succ_get ha
  obtain ⟨R2, HH2, hz2, hb2⟩ := H6.swHeap
  have skip : mkOf W.S a = none -> ∀ w', Sat (SweepP E b h s r { W with S := S' } :: Z) w' -> ((∃ (i_1 : Nat) (S' : HS), ((i + 1 : Nat) : Int) = (i_1 : Int) /\ i_1 <= as_.length /\ MwEq W.S S' /\ SwInv { W with S := S' } U (M.mark W.S (as_.take i_1)) /\ Sat (SweepP E b h s r { W with S := S' } :: Z) w') /\ ((as_.length : Int) - ((i + 1 : Nat) : Int)).toNat < ((as_.length : Int) - (i : Int)).toNat) := fun hn w' H' => by
   refine ⟨⟨i + 1, S', rfl, by omega, hmw, ?_, H'⟩, by omega⟩
   have : M.mark W.S (as_.take (i + 1)) = M.mark W.S (as_.take i) := by
    funext j k
    unfold Bits.mark
    rw [etk, List.any_append]
    simp [hn]
   rw [this]; exact hIi
  refine hof_spec HH2 hin.1 hin.2 fun w13 H13 => ?_
  refine swuse_spec (hb2 H13) hIi (fun hn w' H' => ?_) fun x hx hok hg w' H' => ?_
  ·refine AL_cells (vs := zinfo) H' fun b14 w15 H15 _ => ?_
   refine st_all (news := zinfo) H15 rfl (by simp [zinfo, Value.oneCell']) fun w16 H16 => CND_t rfl ?_
   refine skip ?_ w16 H16.tail
   rw [<- mkOf_eq hmw]
   unfold mkOf
   have hn : S'.sp (S'.own (a / 8192)) = none := hn
   rw [hn]
  ·have hx : S'.sp (S'.own (a / 8192)) = some x := hx
   refine AL_cells (vs := zinfo) H' fun b14 w15 H15 _ => ?_
   refine st_all (news := infoL x.2) H15 rfl (by simp [infoL, Value.oneCell']) fun w16 H16 => CND_f rfl ?_
   obtain ⟨R3, HH3, hz3, hb3⟩ := H16.tail.swHeap
   obtain ⟨R4, hs4, hb4⟩ := HH3.heapPut hx
   have hsz := hok.size
   have hsz2 := hok.ba
   have hpg := hok.pg
   have put_id : ∀ {S : HS} {id : Int} {y : Nat × SI}, S.sp id = some y -> S.put id y = S := fun {S id y} hy => by
    unfold HS.put
    have : (fun i => if i = id then some y else S.sp i) = S.sp := by
     funext i; split
     ·rename_i e; rw [e, hy]
     ·rfl
    rw [this]
   refine spindexG_spec hs4 hok.magOk hsz.1 (by omega) (by omega) (by omega) hin (fun hout w' Hs => ?_) fun h1 h2 w' Hs => ?_
   ·refine CND_f rfl (skip ?_ w' ?_)
    ·rw [<- mkOf_eq hmw]
     unfold mkOf
     rw [hx]
     simp only
     rw [if_neg hout]
    ·have := hb4 Hs
     have e : (({ W with S := S' } : SW).S.put (S'.own (a / 8192)) (x.1, x.2)) = S' := put_id hx
     rw [e] at this
     exact hb3 this
   ·have hq0 : 0 <= (a - x.2.base) / x.2.elem := Int.ediv_nonneg (by omega) (by omega)
    have hq1 : (a - x.2.base) / x.2.elem < x.2.slots := Int.ediv_lt_of_lt_mul hsz.1 (by omega)
    obtain ⟨n, hn⟩ := Int.eq_ofNat_of_zero_le hq0
    refine CND_t rfl ?_
    rw [hn] at hq1 ⊢
    refine spmark_spec Hs hg hok.st hq1 fun mw' hg' w34 H34 => ?_
    have H35 := hb3 (hb4 H34)
    refine ⟨⟨i + 1, S'.put (S'.own (a / 8192)) (x.1, { x.2 with mw := mw' }), rfl, by omega, hmw.put hx mw', ?_, H35⟩, by omega⟩
    have hIn := hIi.mark (W := { W with S := S' }) hx hg'
    have em : M.mark W.S (as_.take (i + 1)) = fun j k => M.mark W.S (as_.take i) j k || (decide (j = S'.own (a / 8192)) && k == n) := by
     funext j k
     unfold Bits.mark
     rw [etk, List.any_append, <- Bool.or_assoc]
     congr 1
     simp only [List.any_cons, List.any_nil, Bool.or_false]
     have : mkOf W.S a = some (S'.own (a / 8192), n) := by
      rw [<- mkOf_eq hmw]
      unfold mkOf
      rw [hx]
      simp only
      rw [if_pos ⟨h1, h2⟩, hn, Int.toNat_natCast]
     rw [this, Bool.eq_iff_iff, decide_eq_true_eq, Bool.and_eq_true, decide_eq_true_eq, beq_iff_eq, Option.some.injEq, Prod.mk.injEq]
     exact ⟨fun ⟨e1, e2⟩ => ⟨e1.symm, e2.symm⟩, fun ⟨e1, e2⟩ => ⟨e1.symm, e2.symm⟩⟩
    rw [em]
    exact hIn
 ·have hii : i = as_.length := by omega
  refine NC_in ⟨_, H6.swPtr.2.1, ?_⟩
  obtain ⟨R2, HH2, hz2, hb2⟩ := H6.swSets
  refine seflip_spec HH2 (fun hpos => absurd hpos (by show ¬ 0 < cntS W.L false; omega)) fun hsw w38 H38 => ?_
  rw [hii, List.take_length] at hIi
  refine hk0 hsw S' hmw (hIi.ofL fun x hx => ?_) w38 (hb2 H38)
  obtain ⟨y, hy, rfl⟩ := List.mem_map.1 hx
  exact hIi.it y hy
end
end Go.Sh

set_option linter.all false
set_option maxRecDepth 8000
set_option maxHeartbeats 2000000
namespace Go.Sh
structure SpF where
 R : List Rc
 m : Nat -> Bool
 em : List Rc
def isFin (a : Int) (y : Rc) : Bool := y.addr == a && y.kind == 1
def remF (R : List Rc) (a : Int) : List Rc := R.filter fun y => !isFin a y
def spStep (u : Nat -> Bool) (base elem : Int) (k : Nat) (t : SpF) : SpF :=
 if u k = true /\ t.m k = false then
  match t.R.find? (isFin (base + k * elem)) with
  | some y => ⟨remF t.R (base + k * elem), fun i => t.m i || i == k, t.em ++ [⟨0, base + k * elem, 1, y.data⟩]⟩
  | none => ⟨notA t.R (base + k * elem), t.m, t.em ++ ofA t.R (base + k * elem)⟩
 else t
def spRun (u : Nat -> Bool) (base elem : Int) : Nat -> SpF -> SpF
 | 0, t => t
 | n + 1, t => spStep u base elem n (spRun u base elem n t)
theorem spStep_none {u : Nat -> Bool} {base elem : Int} {k : Nat} {t : SpF} (h : ∀ y ∈ t.R, y.addr ≠ base + k * elem) : spStep u base elem k t = t := by
 unfold spStep
 split
 ·have h1 : t.R.find? (isFin (base + k * elem)) = none := by
   rw [List.find?_eq_none]
   intro y hy
   unfold isFin
   simp [h y hy]
  have h2 : notA t.R (base + k * elem) = t.R := List.filter_eq_self.2 fun y hy => by simp [h y hy]
  have h3 : ofA t.R (base + k * elem) = [] := List.filter_eq_nil_iff.2 fun y hy => by simp [h y hy]
  rw [h1]
  simp only
  rw [h2, h3, List.append_nil]
 ·rfl
theorem spRun_none {u : Nat -> Bool} {base elem : Int} {t : SpF} : ∀ {n : Nat}, (∀ k, k < n -> ∀ y ∈ t.R, y.addr ≠ base + (k : Int) * elem) -> spRun u base elem n t = t
 | 0, _ => rfl
 | n + 1, h => by
  show spStep u base elem n (spRun u base elem n t) = t
  rw [spRun_none fun k hk => h k (by omega), spStep_none (h n (by omega))]
theorem rcF {A B : List Rc} {y : Rc} {a : Int} (hI : RcInv (A ++ y :: B)) (h1 : y.addr = a) (h2 : y.kind = 1) : (A ++ y :: B).find? (isFin a) = some y /\ remF (A ++ y :: B) a = A ++ B := by
 have hs := List.pairwise_append.1 hI.srt
 have hy : isFin a y = true := by unfold isFin; simp [h1, h2]
 have hno : ∀ x, x.key ≠ y.key -> isFin a x = false := fun x hx => by
  cases e : isFin a x with
  | false => rfl
  | true =>
   unfold isFin at e
   rw [Bool.and_eq_true, beq_iff_eq, beq_iff_eq] at e
   exact absurd (by unfold Rc.key; rw [e.1, e.2, h1, h2]) hx
 have hA : ∀ x ∈ A, isFin a x = false := fun x hx => hno x (by have := hs.2.2 x hx y (by simp); omega)
 have hB : ∀ x ∈ B, isFin a x = false := fun x hx => hno x (by have := (List.pairwise_cons.1 hs.2.1).1 x hx; omega)
 constructor
 ·rw [List.find?_append, List.find?_eq_none.2 fun x hx => by rw [hA x hx]; decide]
  simp [hy]
 ·unfold remF
  rw [List.filter_append, List.filter_cons_of_neg (by rw [hy]; decide), List.filter_eq_self.2 fun x hx => by rw [hA x hx]; rfl, List.filter_eq_self.2 fun x hx => by rw [hB x hx]; rfl]
theorem rcN {R : List Rc} {a : Int} (h : ∀ x ∈ R, ¬ (x.addr = a /\ x.kind = 1)) : R.find? (isFin a) = none := by
 rw [List.find?_eq_none]
 intro x hx e
 unfold isFin at e
 rw [Bool.and_eq_true, beq_iff_eq, beq_iff_eq] at e
 exact h x hx e
theorem of_len (R : List Rc) (a : Int) : (ofA R a).length + (notA R a).length = R.length := by
 unfold ofA notA
 induction R with
 | nil => rfl
 | cons y R ih =>
  rw [List.filter_cons, List.filter_cons]
  cases (y.addr == a) <;> simp_all <;> omega
theorem rem_len {R : List Rc} {a : Int} {y : Rc} (h : R.find? (isFin a) = some y) : (remF R a).length + 1 <= R.length := by
 have h1 := List.find?_some h
 have h2 := List.mem_of_find?_eq_some h
 unfold remF
 have : (R.filter fun y => !isFin a y).length < R.length := by
  refine Nat.lt_of_le_of_ne (List.length_filter_le _ _) fun e => ?_
  have := List.length_filter_eq_length_iff.1 e y h2
  rw [h1] at this; cases this
 omega
theorem spStep_len {u : Nat -> Bool} {base elem : Int} {k : Nat} {t : SpF} : (spStep u base elem k t).em.length + (spStep u base elem k t).R.length <= t.em.length + t.R.length := by
 unfold spStep
 split
 ·cases h : t.R.find? (isFin (base + k * elem)) with
  | some y => have := rem_len h; simp only [List.length_append, List.length_singleton]; omega
  | none => have := of_len t.R (base + k * elem); simp only [List.length_append]; omega
 ·exact Nat.le_refl _
theorem spRun_len {u : Nat -> Bool} {base elem : Int} {t : SpF} : ∀ n, (spRun u base elem n t).em.length + (spRun u base elem n t).R.length <= t.em.length + t.R.length
 | 0 => Nat.le_refl _
 | n + 1 => Nat.le_trans spStep_len (spRun_len n)
theorem spStep_m {u : Nat -> Bool} {base elem : Int} {k : Nat} {t : SpF} (h : ∀ i, t.m i = true -> u i = true) : ∀ i, (spStep u base elem k t).m i = true -> u i = true := by
 unfold spStep
 split
 ·rename_i hu
  cases t.R.find? (isFin (base + k * elem)) with
  | some y =>
   intro i hi
   simp only [Bool.or_eq_true, beq_iff_eq] at hi
   rcases hi with hi | rfl
   ·exact h i hi
   ·exact hu.1
  | none => exact h
 ·exact h
theorem spRun_m {u : Nat -> Bool} {base elem : Int} {t : SpF} (h : ∀ i, t.m i = true -> u i = true) : ∀ n i, (spRun u base elem n t).m i = true -> u i = true
 | 0 => h
 | n + 1 => spStep_m (spRun_m h n)
theorem HS.put_put (S : HS) (id : Int) (a c : Nat × SI) : (S.put id a).put id c = S.put id c := by
 unfold HS.put
 have : (fun i => if i = id then some c else if i = id then some a else S.sp i) = fun i => if i = id then some c else S.sp i := by
  funext i
  by_cases e : i = id
  ·simp [e]
  ·simp [e]
 simp only [this]
theorem HS.put_self {S : HS} {id : Int} {x : Nat × SI} (hx : S.sp id = some x) : S.put id x = S := by
 unfold HS.put
 have : (fun i => if i = id then some x else S.sp i) = S.sp := by
  funext i; split
  ·rename_i e; rw [e, hx]
  ·rfl
 rw [this]
section
variable {E : Env} {w : World} {Z : List Pr} {b h s r : Nat} {W : SW} {U M : Bits}
theorem SwInv.rc (hI : SwInv W U M) (R : List Rc) (em : List Rc) (f d p c : Int) : SwInv { W with R := R, em := em, freed := f, repaid := d, charged := p, rate := c } U M := ⟨hI.hI, hI.sp, hI.it⟩
theorem APP_rows {F : List Pr} {t z bytes : Nat} {zs : Array Value} {s1 s2 : SlV} {vs us : List Value} {K : SlV -> World -> Prop} (H : Sat (Row t z s1 vs :: Row t z s2 us :: F) w) (hz : zs.size = z) (ho : ∀ v ∈ us, v.oneCell' = true)
  (hb : (s1.len + s2.len) * bytes <= 140737488355328) (h63 : s1.len + s2.len <= 9223372036854775807) (hK : ∀ s' w', Sat (Row t z s' (vs ++ us) :: Row t z s2 us :: F) w' -> K s' w') : APP t z bytes zs s1 s2 w K :=
 APP_row H hz (H.front 1 rfl).rowAll (H.front 1 rfl).rowLen ho hb h63 fun s' w' H' _ => hK s' w' H'
theorem swspecials_spec (H : Sat (SweepP E b h s r W :: Z) w) (hI : SwInv W U M) {id : Int} {x : Nat × SI} (hx : W.S.sp id = some x) (hem : W.em.length + W.R.length <= 1099511627776) {K : World -> Prop} {Kp : Value -> World -> Prop}
  (hkz : (∃ i, M id i = true /\ U id i = false) -> ∀ w', Sat (SweepP E b h s r W :: Z) w' -> Kp (.iface E.t_sweep_zombie (.agg ⟨[]⟩)) w')
  (hk : (∀ i, M id i = true -> U id i = true) -> ∀ t, t = spRun (U id) x.2.base x.2.elem x.2.slots.toNat ⟨W.R, M id, W.em⟩ -> ∀ mw, SwInv { W with S := W.S.put id (x.1, { x.2 with mw := mw }), R := t.R, em := t.em } U (M.set id t.m) ->
   ∀ w', Sat (SweepP E b h s r { W with S := W.S.put id (x.1, { x.2 with mw := mw }), R := t.R, em := t.em } :: Z) w' -> K w') :
  F.sweep_Sweeper_specials E (some ⟨b, 0, none⟩) (some ⟨x.1, 0, none⟩) x.2.base x.2.pages x.2.state x.2.cls x.2.noptr x.2.elem x.2.slots x.2.used x.2.f8 x.2.f9 K Kp w := by
 unfold F.sweep_Sweeper_specials T0.sweep_Sweeper_specials
 obtain ⟨hok, hg⟩ := hI.sp id x hx
 have hsz := hok.size
 have hba := hok.ba
 have hpg := hok.pg
 have hself : W.S.put id (x.1, { x.2 with mw := x.2.mw }) = W.S := HS.put_self hx
 have hMs : M.set id (M id) = M := by funext i; unfold Bits.set; split; rename_i e; rw [e]; rfl
 refine AL_cells (vs := infoL x.2) H fun b1 w2 H2 _ => ?_
 obtain ⟨R2, HH2, hz2, hb2⟩ := (H2.front 1 rfl : Sat (SweepP E b h s r W :: Cells b1 E.t_api_Info (infoL x.2) :: Z) w2).swHeap
 obtain ⟨R3, hs3, hb3⟩ := HH2.heapSpan hx
 have back0 : ∀ {w'}, Sat (SpanP E x.1 x.2 :: R3) w' -> Sat (SweepP E b h s r W :: Cells b1 E.t_api_Info (infoL x.2) :: Z) w' := fun h' => hb2 (hb3 h')
 refine spzombie_spec hs3 hg (fun hz => CND_t rfl (hkz hz w2 ((back0 hs3).front 1 rfl).tail)) fun hnz => CND_f rfl (NC_in ?_)
 have H4 := (back0 hs3).drew
 have c4 := H4.front 1 rfl
 refine ⟨_, H4.swPtr.2.2, _, c4.cell0 rfl, _, c4.cell0 rfl, _, c4.cell rfl, ?_⟩
 rw [u64_id (n := x.2.pages) (by omega) (by omega), u64_id (n := x.2.pages * 8192) (by omega) (by omega), u64_id (n := x.2.base + x.2.pages * 8192) (by omega) (by omega)]
 obtain ⟨Q, HH5, hz5, hb5⟩ := H4.swSpec
 refine spcbetween_spec HH5 fun s10 l w11 hl10 hemp H11 => ?_
 have H12 := hb5 H11.tail
 have c12 := H12.front 1 rfl
 refine ⟨c12.cell rfl, c12.cell0 rfl, CND_eq (fun e0 => ?_) fun e0 => ⟨x.2.slots, c12.cell rfl, ?_⟩⟩
 ·-- no record
  have hall := hemp.1 (by omega)
  have hrun : spRun (U id) x.2.base x.2.elem x.2.slots.toNat ⟨W.R, M id, W.em⟩ = ⟨W.R, M id, W.em⟩ := spRun_none fun k hk y hy e => hall y hy (by
   have h1 : 0 <= (k : Int) * x.2.elem := Int.mul_nonneg (by omega) (by omega)
   have h2 : ((k : Int) + 1) * x.2.elem <= x.2.slots * x.2.elem := Int.mul_le_mul_of_nonneg_right (by omega) (by omega)
   have h3 : ((k : Int) + 1) * x.2.elem = k * x.2.elem + x.2.elem := by rw [Int.add_mul, Int.one_mul]
   have h4 := hsz.2.2.2.2
   rw [Int.mul_comm x.2.elem] at h4
   omega)
  refine hk hnz _ rfl x.2.mw ?_ w11 ?_
  ·rw [hrun, hself, hMs]; exact hI
  ·rw [hrun, hself]; exact (H12.front 1 rfl).tail
 ·-- slot for slot
  let tk : Nat -> SpF := fun k => spRun (U id) x.2.base x.2.elem k ⟨W.R, M id, W.em⟩
  let Wk : Nat -> List Int -> SW := fun k mw => { W with S := W.S.put id (x.1, { x.2 with mw := mw }), R := (tk k).R, em := (tk k).em }
  refine LOOP_intro (fun st w' => ∃ (k : Nat) (mw : List Int), st.1 = (k : Int) /\ k <= x.2.slots.toNat /\ SwInv (Wk k mw) U (M.set id (tk k).m) /\ Sat (SweepP E b h s r (Wk k mw) :: Z) w') (fun st _ => (x.2.slots - st.1).toNat) ⟨0, x.2.mw, rfl, Nat.zero_le _, ?_, ?_⟩ ?_
  ·show SwInv { W with S := W.S.put id (x.1, { x.2 with mw := x.2.mw }), R := W.R, em := W.em } U (M.set id (M id))
   rw [hself, hMs]; exact hI
  ·show Sat (SweepP E b h s r { W with S := W.S.put id (x.1, { x.2 with mw := x.2.mw }), R := W.R, em := W.em } :: Z) w11
   rw [hself]; exact (H12.front 1 rfl).tail
  rintro ⟨k', u⟩ _ w14 ⟨k, mw, hk', hkl, hIk, H14⟩
  dsimp only at hk' ⊢
  subst hk'
  refine CND_dec (fun hlt => ?_) fun hge => ?_
  ·have hi1 : i64 ((k : Int) + 1) = ((k + 1 : Nat) : Int) := by rw [i64_id (by omega) (by omega)]; rfl
   rw [hi1]
   have hxk : (Wk k mw).S.sp id = some (x.1, { x.2 with mw := mw }) := HS.put_sp
   obtain ⟨hokk, hgk⟩ := hIk.sp id _ hxk
   have hMk : (M.set id (tk k).m) id = (tk k).m := if_pos rfl
   rw [hMk] at hgk
   have hlenk := spRun_len (u := U id) (base := x.2.base) (elem := x.2.elem) (t := ⟨W.R, M id, W.em⟩) k
   have hlenk : (tk k).em.length + (tk k).R.length <= W.em.length + W.R.length := hlenk
   have nxt : ∀ {t' : SpF} {mw' : List Int} {w'}, spStep (U id) x.2.base x.2.elem k (tk k) = t' -> SwInv { W with S := W.S.put id (x.1, { x.2 with mw := mw' }), R := t'.R, em := t'.em } U (M.set id t'.m) -> Sat (SweepP E b h s r { W with S := W.S.put id (x.1, { x.2 with mw := mw' }), R := t'.R, em := t'.em } :: Z) w' ->
     (∃ (k_1 : Nat) (mw : List Int), ((k + 1 : Nat) : Int) = (k_1 : Int) /\ k_1 <= x.2.slots.toNat /\ SwInv (Wk k_1 mw) U (M.set id (tk k_1).m) /\ Sat (SweepP E b h s r (Wk k_1 mw) :: Z) w') /\ (x.2.slots - ((k + 1 : Nat) : Int)).toNat < (x.2.slots - (k : Int)).toNat := fun {t' mw' w'} ht hIn hS => by
    refine ⟨⟨k + 1, mw', rfl, by omega, ?_, ?_⟩, by omega⟩
    ·have : tk (k + 1) = t' := ht
     show SwInv { W with S := _, R := (tk (k + 1)).R, em := (tk (k + 1)).em } U (M.set id (tk (k + 1)).m)
     rw [this]; exact hIn
    ·have : tk (k + 1) = t' := ht
     show Sat (SweepP E b h s r { W with S := _, R := (tk (k + 1)).R, em := (tk (k + 1)).em } :: Z) w'
     rw [this]; exact hS
   have same : ∀ {w'}, ¬ (U id k = true /\ (tk k).m k = false) -> Sat (SweepP E b h s r (Wk k mw) :: Z) w' -> _ := fun {w'} hno hS => nxt (t' := tk k) (mw' := mw) (w' := w') (by unfold spStep; rw [if_neg hno]) hIk hS
   obtain ⟨R4, HH4, hz4, hb4⟩ := H14.swHeap
   obtain ⟨R5, hs5, hb5'⟩ := HH4.heapSpan hxk
   refine spused_spec hs5 hgk (by show (k : Int) < x.2.slots; omega) ?_
   cases hu : U id k with
   | false => exact CND_t rfl (same (by rw [hu]; simp) H14)
   | true =>
   refine CND_f rfl (spmarked_spec hs5 hgk (by show (k : Int) < x.2.slots; omega) ?_)
   cases hm : (tk k).m k with
   | true => exact CND_t rfl (same (by rw [hm]; simp) H14)
   | false =>
   have hcond : U id k = true /\ (tk k).m k = false := ⟨hu, hm⟩
   refine CND_f rfl (spslot_spec hs5 (by omega) (by show (k : Int) < x.2.slots; omega) fun w22 H22 => ?_)
   have H23 : Sat (SweepP E b h s r (Wk k mw) :: Z) w22 := hb4 (hb5' H22)
   have hm1 : 0 <= (k : Int) * x.2.elem := Int.mul_nonneg (by omega) (by omega)
   have hm2 : ((k : Int) + 1) * x.2.elem <= x.2.slots * x.2.elem := Int.mul_le_mul_of_nonneg_right (by omega) (by omega)
   have hm3 : ((k : Int) + 1) * x.2.elem = k * x.2.elem + x.2.elem := by rw [Int.add_mul, Int.one_mul]
   have hm4 := hsz.2.2.2.2
   rw [Int.mul_comm x.2.elem] at hm4
   have ea : u64 (x.2.base + u64 (u64 (k : Int) * u64 x.2.elem)) = x.2.base + k * x.2.elem := by
    rw [u64_id (n := (k : Int)) (by omega) (by omega), u64_id (n := x.2.elem) (by omega) (by omega), u64_id (n := (k : Int) * x.2.elem) (by omega) (by omega), u64_id (by omega) (by omega)]
   have ea' : u64 (({ x.2 with mw := mw } : SI).base + u64 (u64 (k : Int) * u64 ({ x.2 with mw := mw } : SI).elem)) = x.2.base + k * x.2.elem := ea
   rw [ea']
   generalize hA : x.2.base + (k : Int) * x.2.elem = A at *
   refine NC_in ⟨_, H23.swPtr.2.2, ?_⟩
   obtain ⟨Q6, HH6, hz6, hb6⟩ := H23.swSpec
   refine spcrem_spec HH6 (by decide) (fun hno => ?_) fun A1 B1 y hR ey ek w27 H27 => ?_
   ·-- no finalizer
    refine CND_f rfl ?_
    have H28 := H23.drew
    obtain ⟨em, H28'⟩ := Sat.sweep.1 H28
    have c28 := swcell H28'
    refine NC_in ⟨em, c28.2.2.2.1, NC_in ⟨_, c28.2.2.1, ?_⟩⟩
    have hfind : (tk k).R.find? (isFin A) = none := rcN hno
    refine spctake_spec (H28'.front 3 rfl) fun s42 w43 hl42 H43 => ?_
    have H44 : Sat ((swres E b h s r (Wk k mw) em ++ Row E.t_api_Special 3 s42 (recs sp3 (ofA (tk k).R A)) :: Z).set 3 (SpecP E r (notA (tk k).R A))) w43 := by
     have h1 := H43.front 1 rfl
     exact Sat.back (Ps := swres E b h s r (Wk k mw) em ++ Row E.t_api_Special 3 s42 (recs sp3 (ofA (tk k).R A)) :: Z) 3 (h1.perm (by
      refine .cons _ ?_
      exact (List.perm_middle (l₁ := [_, _, _, _]) (l₂ := Z)).symm)) (by simp [swres])
    have H45 : Sat (Row E.t_api_Special 3 em (recs sp3 (tk k).em) :: Row E.t_api_Special 3 s42 (recs sp3 (ofA (tk k).R A)) :: Cells b E.t_sweep_Sweeper (swcells h s r em (Wk k mw)) :: HeapP E h (Wk k mw).S :: SetsP E s W.L :: SpecP E r (notA (tk k).R A) :: Z) w43 := (H44.front 5 rfl).front 5 rfl
    have hl1 : (tk k).em.length = em.len := (H45.recLen (by decide) sp3_len).1
    have hl2 : s42.len = (ofA (tk k).R A).length := hl42
    have hofl := of_len (tk k).R A
    refine ⟨(H45.front 2 rfl).cell rfl, ?_⟩
    refine APP_rows (bytes := 24) H45 rfl (recs_one sp3_one _) (by omega) (by omega) fun s44 w45 H46 => NC_in ?_
    refine st_cell (H46.front 2 rfl) (o := 0) (m := 3) (v := slV s44) rfl (by simp [swcells]) fun w47 H47 => ?_
    have et : spStep (U id) x.2.base x.2.elem k (tk k) = ⟨notA (tk k).R A, (tk k).m, (tk k).em ++ ofA (tk k).R A⟩ := by
     unfold spStep
     rw [if_pos hcond, hA, hfind]
    refine nxt (mw' := mw) et ?_ ?_
    ·exact hIk.rc (notA (tk k).R A) ((tk k).em ++ ofA (tk k).R A) W.freed W.repaid W.charged W.rate
    ·refine Sat.sweep.2 ⟨s44, ?_⟩
     rw [<- recs_app] at H47
     have h1 : Sat (Row E.t_api_Special 3 s44 (recs sp3 ((tk k).em ++ ofA (tk k).R A)) :: Cells b E.t_sweep_Sweeper (swcells h s r s44 (Wk k mw)) :: HeapP E h (Wk k mw).S :: SetsP E s W.L :: SpecP E r (notA (tk k).R A) :: Z) w47 := by
      have h0 := (H47.front 2 rfl).tail
      exact h0.front 0 rfl |>.perm (.swap _ _ _) |>.perm (.swap _ _ _) |>.perm (.swap _ _ _)
     exact h1.perm (List.perm_middle (l₁ := [_, _, _, _]) (l₂ := Z)).symm
   ·-- a finalizer
    have hR : (tk k).R = A1 ++ y :: B1 := hR
    have hIR : RcInv (tk k).R := (Sat.spec.1 HH6).1
    obtain ⟨hf1, hf2⟩ := rcF (hR ▸ hIR) ey ek
    rw [<- hR] at hf1 hf2
    have H28 : Sat (SweepP E b h s r { Wk k mw with R := A1 ++ B1 } :: Z) w27 := hb6 H27
    obtain ⟨em, H28'⟩ := Sat.sweep.1 H28
    have c28 := swcell H28'
    refine CND_t rfl (NC_in ⟨em, c28.2.2.2.1, ?_⟩)
    refine AL_cells (vs := sp3 ⟨0, A, 1, y.data⟩) H28' fun b30 w31 H31 _ => ?_
    have H32 := H31.front2 4 rfl
    have hl1 : (tk k).em.length = em.len := ((H32.front 1 rfl).recLen (by decide) sp3_len).1
    refine APP_one (news := sp3 ⟨0, A, 1, y.data⟩) (bytes := 24) H32 rfl rfl (sp3_one _) (by omega) (by omega) fun s32 w33 H33 _ => NC_in ?_
    refine st_cell (H33.front 1 rfl) (o := 0) (m := 3) (v := slV s32) rfl (by simp [swcells]) fun w35 H36 => ?_
    have er : recs sp3 (tk k).em ++ sp3 ⟨0, A, 1, y.data⟩ = recs sp3 ((tk k).em ++ [⟨0, A, 1, y.data⟩]) := by rw [recs_app]; simp [recs]
    have H37 : Sat (Cells b E.t_sweep_Sweeper (swcells h s r s32 (Wk k mw)) :: Row E.t_api_Special 3 s32 (recs sp3 ((tk k).em ++ [⟨0, A, 1, y.data⟩])) :: HeapP E h (Wk k mw).S :: SetsP E s W.L :: SpecP E r (A1 ++ B1) :: Z) w35 := by rw [<- er]; exact H36
    have H38 : Sat (SweepP E b h s r { Wk k mw with R := A1 ++ B1, em := (tk k).em ++ [⟨0, A, 1, y.data⟩] } :: Z) w35 := Sat.sweep.2 ⟨s32, H37.perm (.cons _ (List.perm_middle (l₁ := [_, _, _]) (l₂ := Z)).symm)⟩
    obtain ⟨R7, HH7, hz7, hb7⟩ := H38.swHeap
    obtain ⟨R8, hs8, hb8⟩ := HH7.heapPut hxk
    refine spmark_spec hs8 hgk hokk.st (by show (k : Int) < x.2.slots; omega) fun mw' hg' w37 H40 => ?_
    have H41 := hb7 (hb8 H40)
    have et : spStep (U id) x.2.base x.2.elem k (tk k) = ⟨A1 ++ B1, fun i => (tk k).m i || i == k, (tk k).em ++ [⟨0, A, 1, y.data⟩]⟩ := by
     unfold spStep
     rw [if_pos hcond, hA, hf1]
     simp only
     rw [hf2]
    refine nxt (mw' := mw') et ?_ ?_
    ·have h1 := (hIk.mark hxk (n := k) (mw := mw') (by rw [hMk]; exact hg')).rc (A1 ++ B1) ((tk k).em ++ [⟨0, A, 1, y.data⟩]) W.freed W.repaid W.charged W.rate
     have e1 : (fun j i => M.set id (tk k).m j i || (decide (j = id) && i == k)) = M.set id fun i => (tk k).m i || i == k := by
      funext j i
      unfold Bits.set
      by_cases e : j = id
      ·simp [e]
      ·simp [e]
     rw [e1] at h1
     have e2 : (Wk k mw).S.put id (x.1, { x.2 with mw := mw' }) = W.S.put id (x.1, { x.2 with mw := mw' }) := HS.put_put _ _ _ _
     have h2 : SwInv { W with S := (Wk k mw).S.put id (x.1, { x.2 with mw := mw' }), R := A1 ++ B1, em := (tk k).em ++ [⟨0, A, 1, y.data⟩] } U (M.set id fun i => (tk k).m i || i == k) := h1
     rw [e2] at h2
     exact h2
    ·have e2 : (Wk k mw).S.put id (x.1, { x.2 with mw := mw' }) = W.S.put id (x.1, { x.2 with mw := mw' }) := HS.put_put _ _ _ _
     have h2 : Sat (SweepP E b h s r { W with S := (Wk k mw).S.put id (x.1, { x.2 with mw := mw' }), R := A1 ++ B1, em := (tk k).em ++ [⟨0, A, 1, y.data⟩] } :: Z) w37 := H41
     rw [e2] at h2
     exact h2
  ·have hkk : k = x.2.slots.toNat := by omega
   subst hkk
   exact hk hnz _ rfl mw hIk w14 H14
end
end Go.Sh

set_option linter.all false
set_option maxRecDepth 8000
set_option maxHeartbeats 4000000
namespace Go.Sh
section
variable {E : Env} {h : Nat} {S : HS} {Z : List Pr} {w : World}
theorem Sat.heapPut2 (H : Sat (HeapP E h S :: Z) w) {id : Int} {x : Nat × SI} (hx : S.sp id = some x) : ∃ R : List Pr, Sat (SpanP E x.1 x.2 :: R) w /\ (∀ {w'}, Sat R w' -> Sat Z w') /\ ∀ {I : SI} {w'}, Sat (SpanP E x.1 I :: R) w' -> Sat (HeapP E h (S.put id (x.1, I)) :: Z) w' := by
  obtain ⟨g, hI, H⟩ := Sat.heap.1 H
  have hm : id ∈ g.ids := (hI.mem id).2 (by rw [hx]; exact fun h => by cases h)
  obtain ⟨i, hi⟩ := List.mem_iff_getElem?.1 hm
  have H1 := (H.front 6 rfl).manyGet hi
  have e : spR E S.sp id = SpanP E x.1 x.2 := by unfold spR; rw [hx]
  rw [e] at H1
  refine ⟨_, H1, fun h => h.tail.tail.tail.tail.tail.tail.tail.tail, fun {I w'} h' => Sat.heap.2 ⟨g, ⟨hI.nd, fun j => ?_⟩, ?_⟩⟩
  · rw [hI.mem]
    show _ ↔ (if j = id then some (x.1, I) else S.sp j) ≠ none
    by_cases e : j = id
    · rw [if_pos e, e, hx]; simp
    · rw [if_neg e]
  · have e1 : spR E (S.put id (x.1, I)).sp id = SpanP E x.1 I := by unfold spR; rw [HS.put_sp]
    have e2 : Many (spR E S.sp) (g.ids.eraseIdx i) = Many (spR E (S.put id (x.1, I)).sp) (g.ids.eraseIdx i) := Many.congr fun j hj => by
      have : j ≠ id := fun e => nodup_erase hI.nd hi (e ▸ hj)
      unfold spR; rw [HS.put_ne this]
    rw [<- e1, e2] at h'
    have h2 := Sat.manyBack h' hi
    have h3 := Sat.back (Ps := hres E h S g ++ Z) 6 h2 (by simp [hres])
    have e3 : spMap S.sp = spMap (S.put id (x.1, I)).sp := by
      funext j
      unfold spMap
      by_cases e : j = id
      · rw [e, HS.put_sp, hx]; rfl
      · rw [HS.put_ne e]
    have e4 : (hres E h S g ++ Z).set 6 (Many (spR E (S.put id (x.1, I)).sp) g.ids) = hres E h (S.put id (x.1, I)) g ++ Z := by
      show [Cells h E.t_mheap_Heap (hcells g S.hint S.pages), VmemP E g.m S.V, TreeV E g.t S.T, ArenaP E g.a S.ks S.own, FixP E g.f S.fx, MapF g.sm .i64 (spMap S.sp), _, _] ++ Z = _
      rw [e3]; rfl
    rw [e4] at h3
    exact h3
end
def keptI (x : SI) (uw : List Int) (u : Nat -> Bool) : SI := { x with uw := uw, mw := [], used := (cN u x.slots.toNat : Nat), look := 0 }
def none1 : Nat -> Bool := fun _ => false
def OneR (W : SW) (U M : Bits) (id : Int) (keep : Bool) (n : Nat) (gone : Bool) (W' : SW) (U' M' : Bits) : Prop :=
  ∃ (x : Nat × SI) (t : SpF) (uw : List Int), W.S.sp id = some x /\ (∀ i, M id i = true -> U id i = true) /\ t = spRun (U id) x.2.base x.2.elem x.2.slots.toNat ⟨W.R, M id, W.em⟩ /\
    n = cN (fun i => U id i && !t.m i) x.2.slots.toNat /\ U' = U.set id (fun i => U id i && t.m i) /\ M' = M.set id none1 /\
    ∃ W1 : SW, W1 = { W with S := W.S.put id (x.1, keptI x.2 uw fun i => U id i && t.m i), R := t.R, em := t.em, freed := u64 (W.freed + n), repaid := u64 (W.repaid + x.2.pages) } /\
    ((keep = true /\ ((cN (fun i => U id i && t.m i) x.2.slots.toNat : Nat) : Int) < x.2.slots /\ gone = false /\ W' = W1) ∨
     (¬ (keep = true /\ ((cN (fun i => U id i && t.m i) x.2.slots.toNat : Nat) : Int) < x.2.slots) /\ cN (fun i => U id i && t.m i) x.2.slots.toNat = 0 /\ gone = true /\ ∃ a : Nat, id = (a : Int) + 1 /\ W' = { W1 with S := W1.S.free a (x.2.base / 8192) x.2.pages }) ∨
     (¬ (keep = true /\ ((cN (fun i => U id i && t.m i) x.2.slots.toNat : Nat) : Int) < x.2.slots) /\ cN (fun i => U id i && t.m i) x.2.slots.toNat ≠ 0 /\ gone = false /\ ∃ blk, W' = { W1 with L := insB W.L ⟨blk, id, x.2.base, (x.2.cls, x.2.noptr, ((cN (fun i => U id i && t.m i) x.2.slots.toNat : Nat) : Int) == x.2.slots, true)⟩ }))
section
variable {E : Env} {w : World} {Z : List Pr} {b h s r : Nat} {W : SW} {U M : Bits}
theorem st_nil {a : Addr} {i : Nat} {w : World} {K : World -> Prop} (h : K w) : stCells a i [] w K := h
theorem swone1_nil {b1 b3 b5 : Nat} {K : World -> Prop} (hK : K w) : F.sweep_Sweeper_One_1 E (some ⟨b1, 0, none⟩) (some ⟨b3, 0, none⟩) (some ⟨b5, 0, none⟩) .nilIface K w := by
  unfold F.sweep_Sweeper_One_1
  exact ⟨rfl, CND_t rfl hK⟩
theorem swone1_z {b1 b3 b5 t1 t3 t5 : Nat} {v1 v3 v5 : Value} (H : Sat (Cells b1 t1 [v1] :: Cells b3 t3 [v3] :: Cells b5 t5 [v5] :: Z) w) {K : World -> Prop}
    (hK : ∀ w', Sat (Cells b1 t1 [.int .i64 0] :: Cells b3 t3 [.bool false] :: Cells b5 t5 [.int .i64 40] :: Z) w' -> K w') : F.sweep_Sweeper_One_1 E (some ⟨b1, 0, none⟩) (some ⟨b3, 0, none⟩) (some ⟨b5, 0, none⟩) (.iface E.t_sweep_zombie (.agg ⟨[]⟩)) K w := by
  unfold F.sweep_Sweeper_One_1
  refine ⟨rfl, CND_f rfl ?_⟩
  unfold TAS
  simp only [Nat.beq_refl]
  have go : ∀ K : VTV (.agg []) -> Prop, K () -> unVT (.agg []) (.agg ⟨[]⟩) K := fun K h => h
  refine go _ ?_
  refine CND_t rfl (AL_cells (vs := []) H fun b4 w5 H5 _ => ?_)
  refine st_nil (NC_in (st_cell0 (H5.front 1 rfl) (o := 0) rfl (by simp) fun w8 H8 => NC_in (st_cell0 (H8.front 2 rfl) (o := 0) rfl (by simp) fun w10 H10 => NC_in (st_cell0 (H10.front 3 rfl) (o := 0) rfl (by simp) fun w12 H12 => hK w12 ?_))))
  exact (((H12.front 3 rfl).tail).front 1 rfl).front 2 rfl
theorem Sat.skip {X P : Pr} {F : List Pr} (H : Sat (X :: P :: F) w) : Sat (X :: F) w := (H.front 1 rfl).tail
theorem Bits.set_set (U : Bits) (id : Int) (u v : Nat -> Bool) : (U.set id u).set id v = U.set id v := by
  funext i
  unfold Bits.set
  by_cases e : i = id
  · simp [e]
  · simp [e]
theorem Bits.set_at (U : Bits) (id : Int) (u : Nat -> Bool) : (U.set id u) id = u := if_pos rfl
theorem Bits.set_self (U : Bits) (id : Int) : U.set id (U id) = U := by
  funext i
  unfold Bits.set
  split
  · rename_i e; rw [e]
  · rfl
theorem SwInv.putS {W : SW} {U M : Bits} (hI : SwInv W U M) {id : Int} {x : Nat × SI} (hx : W.S.sp id = some x) {I : SI} {u m : Nat -> Bool} (h1 : I.base = x.2.base) (h2 : I.pages = x.2.pages) (h3 : I.state = x.2.state) (h4 : I.cls = x.2.cls) (h5 : I.elem = x.2.elem) (h6 : I.slots = x.2.slots) (h7 : I.magic = x.2.magic) (hg : SpG I u m) :
    SwInv { W with S := W.S.put id (x.1, I) } (U.set id u) (M.set id m) := by
  obtain ⟨hok, _⟩ := hI.sp id x hx
  refine ⟨hI.hI.put hx h1 h2 (by rw [h3, hok.st]; decide), fun j y hy => ?_, fun it hit => ?_⟩
  · by_cases e : j = id
    · subst e
      have hy : (W.S.put j (x.1, I)).sp j = some y := hy
      rw [HS.put_sp] at hy
      cases hy
      rw [Bits.set_at, Bits.set_at]
      exact ⟨hok.upd h1 h2 h3 h4 h5 h6 h7, hg⟩
    · have hy : (W.S.put id (x.1, I)).sp j = some y := hy
      rw [HS.put_ne e] at hy
      have e1 : U.set id u j = U j := if_neg e
      have e2 : M.set id m j = M j := if_neg e
      rw [e1, e2]; exact hI.sp j y hy
  · obtain ⟨y, g1, g2⟩ := hI.it it hit
    by_cases e : it.id = id
    · rw [e, hx] at g1
      cases g1
      exact ⟨(x.1, I), by rw [e]; exact HS.put_sp, h1.trans g2⟩
    · exact ⟨y, (HS.put_ne e).trans g1, g2⟩
variable (hE : EnvW E)
include hE
theorem swone_spec (hT : ∀ w', Sat Z w' -> TabAt E.g_math_bits_deBruijn64tab w') (H : Sat (SweepP E b h s r W :: Z) w) (hI : SwInv W U M) {id : Int} {keep : Bool} (hf : W.L.length < 1099511627776) (hem : W.em.length + W.R.length <= 1099511627776) (hL : ∀ y ∈ W.L, y.id ≠ id)
    {K : Int -> Bool -> Int -> World -> Prop} (hk0 : W.S.sp id = none -> ∀ w', Sat (SweepP E b h s r W :: Z) w' -> K 0 false 35 w')
    (hkz : ∀ x, W.S.sp id = some x -> (∃ i, M id i = true /\ U id i = false) -> ∀ w', Sat (SweepP E b h s r W :: Z) w' -> K 0 false 40 w')
    (hk : ∀ n gone W' U' M', OneR W U M id keep n gone W' U' M' -> SwInv W' U' M' -> ∀ w', Sat (SweepP E b h s r W' :: Z) w' -> K n gone 0 w') :
    F.sweep_Sweeper_One E (some ⟨b, 0, none⟩) id keep K w := by
  unfold F.sweep_Sweeper_One T0.sweep_Sweeper_One
  refine AL_cells (vs := [.int .i64 0]) H fun b1 w2 H2 _ => AL_cells (vs := [.bool false]) H2 fun b3 w4 H4 _ => AL_cells (vs := [.int .i64 0]) H4 fun b5 w6 H6 _ => ?_
  have H6' : Sat (SweepP E b h s r W :: Cells b5 E.t_api_Errno [.int .i64 0] :: Cells b3 E.t_bool [.bool false] :: Cells b1 E.t_int [.int .i64 0] :: Z) w6 := H6.front 3 rfl
  refine swuse_spec H6' hI (fun hn w' H' => ?_) fun x hx hok hg w' H' => ?_
  · refine AL_cells (vs := zinfo) H' fun b20 w21 H21 _ => ?_
    refine st_all (news := zinfo) H21 rfl (by simp [zinfo, Value.oneCell']) fun w22 H22 => ?_
    refine st_cell0 (H22.front 2 rfl) (o := 0) rfl (by simp) fun w23 H23 => ⟨35, H23.cell0 rfl, CND_t rfl ?_⟩
    have H24 := H23.drew
    refine ⟨35, H24.cell0 rfl, st_cell0 (H24.front 4 rfl) (o := 0) rfl (by simp) fun w26 H26 => ⟨(H26.front 1 rfl).cell0 rfl, st_cell0 (H26.front 4 rfl) (o := 0) rfl (by simp) fun w27 H27 => ⟨(H27.front 2 rfl).cell0 rfl, st_cell0 (H27.front 2 rfl) (o := 0) rfl (by simp) fun w28 H28 => ?_⟩⟩⟩
    exact ⟨0, (H28.front 2 rfl).cell0 rfl, false, (H28.front 1 rfl).cell0 rfl, 35, H28.cell0 rfl, hk0 hn w28 H28.tail.tail.tail.tail⟩
  · refine AL_cells (vs := zinfo) H' fun b20 w21 H21 _ => ?_
    refine st_all (news := infoL x.2) H21 rfl (by simp [infoL, Value.oneCell']) fun w22 H22 => ?_
    refine st_cell0 (H22.front 2 rfl) (o := 0) rfl (by simp) fun w23 H23 => ⟨0, H23.cell0 rfl, CND_f rfl ?_⟩
    have c20 := H23.front 1 rfl
    refine ⟨_, c20.cell rfl, _, c20.cell rfl, _, c20.cell rfl, _, c20.cell rfl, _, c20.cell rfl, _, c20.cell rfl, _, c20.cell rfl, _, c20.cell rfl, _, c20.cell rfl, _, c20.cell rfl, ?_⟩
    have hsz := hok.size
    refine swspecials_spec (H23.front 2 rfl) hI hx hem (fun hz w42 H42 => ?_) fun hnz t ht mw hIn w42 H42 => ?_
    · refine swone1_z (((H42.front 1 rfl).front 3 rfl).front 4 rfl) fun w96 H96 => ?_
      exact ⟨0, H96.cell0 rfl, false, (H96.front 1 rfl).cell0 rfl, 40, (H96.front 2 rfl).cell0 rfl, hkz x hx hz w96 H96.tail.tail.tail.skip⟩
    · have htm : ∀ i, t.m i = true -> U id i = true := by rw [ht]; exact spRun_m hnz _
      obtain ⟨R1, HH1, hz1, hb1⟩ := H42.swHeap
      have hx1 : (W.S.put id (x.1, { x.2 with mw := mw })).sp id = some (x.1, { x.2 with mw := mw }) := HS.put_sp
      obtain ⟨hok1, hg1⟩ := hIn.sp id _ hx1
      rw [Bits.set_at] at hg1
      obtain ⟨R2, hs2, hz2, hb2⟩ := HH1.heapPut2 hx1
      refine spsweep_spec (fun w' h' => hT w' (hz1 (hz2 h')).tail.tail.tail.tail) hs2 hg1 hok1.st (fun ⟨i, h1, h2⟩ => absurd (htm i h1) (by rw [h2]; decide)) fun _ uw s43 hgs hl43 w45 H45 => ?_
      have H46 := hb1 (hb2 H45.tail)
      have hsw : sweptI { x.2 with mw := mw } uw (U id) t.m = keptI x.2 uw fun i => U id i && t.m i := rfl
      rw [hsw, HS.put_put] at H46
      rw [hsw] at hgs
      have hI2 := hIn.putS hx1 (I := keptI x.2 uw fun i => U id i && t.m i) rfl rfl rfl rfl rfl rfl rfl hgs
      rw [Bits.set_set] at hI2
      have hl43 : s43.len = cN (fun i => U id i && !t.m i) x.2.slots.toNat := hl43
      obtain ⟨n, hn⟩ : ∃ n, n = cN (fun i => U id i && !t.m i) x.2.slots.toNat := ⟨_, rfl⟩
      have hnle := cN_le (fun i => U id i && !t.m i) x.2.slots.toNat
      rw [<- hn] at hl43
      rw [hl43]
      refine st_cell0 (H46.front 4 rfl) (o := 0) rfl (by simp) fun w46 H47 => ?_
      have H47' : Sat (SweepP E b h s r { W with S := W.S.put id (x.1, keptI x.2 uw fun i => U id i && t.m i), R := t.R, em := t.em } :: Cells b1 E.t_int [.int .i64 (n : Int)] :: Cells b5 E.t_api_Errno [.int .i64 0] :: Cells b20 E.t_api_Info (infoL x.2) :: Cells b3 E.t_bool [.bool false] :: Z) w46.drew := (H47.drew).front 1 rfl
      obtain ⟨em, H48⟩ := Sat.sweep.1 H47'
      have c48 := swcell H48
      refine NC_in ⟨_, c48.2.2.2.2.1, _, (H47'.front 1 rfl).cell0 rfl, NC_in ?_⟩
      refine st_cell (show Sat (Cells b E.t_sweep_Sweeper _ :: _) _ from H48) (o := 0) (m := 4) rfl (by simp [swcells]) fun w51 H51 => ?_
      have H52 := H51.drew
      refine NC_in ⟨_, H52.cell rfl, _, (H52.front 7 rfl).cell rfl, NC_in (st_cell H52 (o := 0) (m := 7) rfl (by simp [swcells]) fun w56 H56 => ?_)⟩
      rw [u64_id (n := (n : Int)) (by omega) (by omega), u64_id (n := x.2.pages) (by have := hok.pg; omega) (by have := hok.pg; omega)] at H56
      obtain ⟨W1, hW1⟩ : ∃ W1 : SW, W1 = { W with S := W.S.put id (x.1, keptI x.2 uw fun i => U id i && t.m i), R := t.R, em := t.em, freed := u64 (W.freed + n), repaid := u64 (W.repaid + x.2.pages) } := ⟨_, rfl⟩
      have H57 : Sat (SweepP E b h s r W1 :: Cells b1 E.t_int [.int .i64 (n : Int)] :: Cells b5 E.t_api_Errno [.int .i64 0] :: Cells b20 E.t_api_Info (infoL x.2) :: Cells b3 E.t_bool [.bool false] :: Z) w56 := Sat.sweep.2 ⟨em, by rw [hW1]; exact H56⟩
      have hI3 : SwInv W1 (U.set id fun i => U id i && t.m i) (M.set id none1) := by
        rw [hW1]
        have h1 := hI2.rc t.R t.em (u64 (W.freed + n)) (u64 (W.repaid + x.2.pages)) W.charged W.rate
        rw [show (W.S.put id (x.1, { x.2 with mw := mw })).put id (x.1, keptI x.2 uw fun i => U id i && t.m i) = W.S.put id (x.1, keptI x.2 uw fun i => U id i && t.m i) from HS.put_put _ _ _ _] at h1
        exact h1
      clear H56 H52 H51 H48 H47' H47 H46 H45 hs2 hb2 HH1 hb1 H42 H23 c20 H22 H21 H' H6' H6 H4 H2 c48
      have hW1L : W1.L = W.L := by rw [hW1]
      have hx2 : W1.S.sp id = some (x.1, keptI x.2 uw fun i => U id i && t.m i) := by rw [hW1]; exact HS.put_sp
      have mk : ∀ gone W', _ -> OneR W U M id keep n gone W' (U.set id fun i => U id i && t.m i) (M.set id none1) := fun gone W' h => ⟨x, t, uw, hx, hnz, ht, hn, rfl, rfl, W1, hW1, h⟩
      refine JOIN_intro (fun _ w' => ∃ gone W', OneR W U M id keep n gone W' (U.set id fun i => U id i && t.m i) (M.set id none1) /\ SwInv W' (U.set id fun i => U id i && t.m i) (M.set id none1) /\ ∃ vs, Sat (Cells b1 E.t_int [.int .i64 (n : Int)] :: Cells b3 E.t_bool [.bool gone] :: Cells b5 E.t_api_Errno [.int .i64 0] :: SweepP E b h s r W' :: Cells b20 E.t_api_Info vs :: Z) w') ?_ ?_
      · obtain ⟨R3, HH3, hz3, hb3⟩ := H57.swHeap
        obtain ⟨R4, hs4, hb4⟩ := HH3.heapSpan hx2
        refine spinfo_spec hs4 fun w70 H70 => ?_
        have H71 := hb3 (hb4 H70)
        refine st_all (news := infoL (keptI x.2 uw fun i => U id i && t.m i)) (H71.front 3 rfl) rfl (by simp [infoL, Value.oneCell']) fun w71 H72 => ?_
        have e1 : (keptI x.2 uw fun i => U id i && t.m i).used = (cN (fun i => U id i && t.m i) x.2.slots.toNat : Nat) := rfl
        have e2 : (keptI x.2 uw fun i => U id i && t.m i).slots = x.2.slots := rfl
        have H73 : Sat (SweepP E b h s r W1 :: Cells b20 E.t_api_Info (infoL (keptI x.2 uw fun i => U id i && t.m i)) :: Cells b1 E.t_int [.int .i64 (n : Int)] :: Cells b5 E.t_api_Errno [.int .i64 0] :: Cells b3 E.t_bool [.bool false] :: Z) w71 := H72.front 1 rfl
        refine JOIN_intro (fun st w' => w' = w71 /\ (st.1 = true ↔ keep = true /\ ((cN (fun i => U id i && t.m i) x.2.slots.toNat : Nat) : Int) < x.2.slots)) ?_ ?_
        · cases hkp : keep with
          | false => exact CND_f rfl ⟨rfl, by simp⟩
          | true => exact CND_t rfl ⟨_, H72.cell rfl, _, H72.cell rfl, rfl, by rw [e1, e2]; simp⟩
        · rintro ⟨kp, u⟩ _ w74 ⟨rfl, hkp⟩
          dsimp only at hkp ⊢
          refine CND_intro (fun hy => ?_) fun hnk => ⟨_, H72.cell rfl, CND_eq (fun h0 => ?_) fun h0 => ?_⟩
          · have hk2 := hkp.1 hy
            exact ⟨false, W1, mk _ _ (.inl ⟨hk2.1, hk2.2, rfl, rfl⟩), hI3, _, ((H73.front 3 rfl).front 4 rfl).front 4 rfl⟩
          · have hnk2 : ¬ (keep = true /\ ((cN (fun i => U id i && t.m i) x.2.slots.toNat : Nat) : Int) < x.2.slots) := fun h => by rw [hkp.2 h] at hnk; cases hnk
            have h00 : cN (fun i => U id i && t.m i) x.2.slots.toNat = 0 := by rw [e1] at h0; omega
            refine NC_in ⟨_, H73.swPtr.1, ?_⟩
            obtain ⟨R5, HH5, hz5, hb5⟩ := H73.swHeap
            refine hfree_spec hE.toEnvA HH5 hI3.hI (fun hn => by rw [hx2] at hn; cases hn) (fun y hy hu => ?_) fun y a hy hu ha hI5 w81 H81 => ?_
            · rw [hx2] at hy; cases hy; rw [e1] at hu; omega
            · rw [hx2] at hy; cases hy
              have H82 := hb5 H81
              refine st_cell0 (H82.front 4 rfl) (o := 0) rfl (by simp) fun w82 H83 => ?_
              refine ⟨true, { W1 with S := W1.S.free a (x.2.base / 8192) x.2.pages }, mk _ _ (.inr (.inl ⟨hnk2, h00, rfl, a, ha, rfl⟩)), ⟨hI5, fun j y hy => ?_, fun it hit => ?_⟩, infoL (keptI x.2 uw fun i => U id i && t.m i), ?_⟩
              · have hy : (if j = (a : Int) + 1 then none else W1.S.sp j) = some y := hy
                split at hy
                · cases hy
                · exact hI3.sp j y hy
              · obtain ⟨y, g1, g2⟩ := hI3.it it hit
                refine ⟨y, ?_, g2⟩
                show (if it.id = (a : Int) + 1 then none else W1.S.sp it.id) = some y
                have : it.id ≠ id := hL it (by rw [<- hW1L]; exact hit)
                rw [if_neg (by rw [<- ha]; exact this)]; exact g1
              · exact ((H83.front 4 rfl).front 1 rfl).front 4 rfl
          · have hnk2 : ¬ (keep = true /\ ((cN (fun i => U id i && t.m i) x.2.slots.toNat : Nat) : Int) < x.2.slots) := fun h => by rw [hkp.2 h] at hnk; cases hnk
            have h00 : cN (fun i => U id i && t.m i) x.2.slots.toNat ≠ 0 := fun h => h0 (by rw [e1, h]; rfl)
            refine swput_spec hE H73 hI3 (by rw [hW1L]; exact hf) (fun hn => by rw [hx2] at hn; cases hn) (fun _ ⟨y, hy, e⟩ => absurd e (hL y (by rw [<- hW1L]; exact hy))) fun y hy hno blk hI5 w84 H84 => ?_
            rw [hx2] at hy; cases hy
            rw [hW1L] at hI5 H84
            refine ⟨false, _, mk _ _ (.inr (.inr ⟨hnk2, h00, rfl, blk, rfl⟩)), hI5, infoL (keptI x.2 uw fun i => U id i && t.m i), ?_⟩
            exact ((H84.front 3 rfl).front 4 rfl).front 4 rfl
      · rintro _ _ w59 ⟨gone, W', hone, hIW, vs, H59⟩
        have H60 := H59.drew
        refine ⟨_, H60.cell0 rfl, _, (H60.front 1 rfl).cell0 rfl, st_cell0 H60 (o := 0) rfl (by simp) fun w87 H87 => ⟨(H87.front 1 rfl).cell0 rfl, st_cell0 (H87.front 1 rfl) (o := 0) rfl (by simp) fun w88 H88 => st_cell0 (H88.front 2 rfl) (o := 0) rfl (by simp) fun w89 H89 => swone1_nil ?_⟩⟩
        exact ⟨_, (H89.front 2 rfl).cell0 rfl, _, (H89.front 1 rfl).cell0 rfl, _, H89.cell0 rfl, hk n gone W' _ _ hone hIW w89 H89.tail.tail.tail.skip⟩
end
end Go.Sh

set_option linter.all false
set_option maxRecDepth 8000
set_option maxHeartbeats 4000000
namespace Go.Sh
section
variable {E : Env} {w : World} {Rs Z : List Pr}
end
end Go.Sh

set_option linter.all false
set_option maxRecDepth 8000
set_option maxHeartbeats 4000000
namespace Go.Sh
section
variable {W : SW} {U M : Bits}
theorem SwInv.keep (hI : SwInv W U M) {S2 : HS} {p n c page id : Int} {np : Bool} {bl : Nat} {X : FX} (hf : Found W.S p n page S2) (hX : Next S2 id X) (h0 : 0 <= page) (h1 : page + n <= 34359738368) (hb : ¬ spBad 0 n c) (hn : 0 <= n) (h3 : HInv (S2.keep id (bl, spOf page n c np) page n X) no) :
  SwInv { W with S := S2.keep id (bl, spOf page n c np) page n X } (U.set id none1) (M.set id none1) /\ W.S.sp id = none := by
 have es := hf.same
 have hnone : W.S.sp id = none := by
  refine Classical.byContradiction fun g => ?_
  obtain ⟨a, ha, h2, h3⟩ := (hI.hI.sf id).1 g
  rcases hX with ⟨q1, q2, _⟩ | ⟨b', r', q1, q2, _⟩
  ·rw [es.fx] at q2; omega
  ·rw [es.fx] at q1
   have : a = b' := by omega
   subst this
   exact h3 (by rw [q1]; exact List.mem_cons_self)
 have hok := spOf_ok (np := np) h0 h1 hb hn
 refine ⟨⟨h3, fun j y hy => ?_, fun it hit => ?_⟩, hnone⟩
 ·have hy : (if j = id then some (bl, spOf page n c np) else S2.sp j) = some y := hy
  by_cases e : j = id
  ·rw [if_pos e] at hy
   cases hy
   subst e
   rw [Bits.set_at, Bits.set_at]
   exact ⟨hok, spOf_g hok⟩
  ·rw [if_neg e, es.sp] at hy
   have e1 : U.set id none1 j = U j := if_neg e
   have e2 : M.set id none1 j = M j := if_neg e
   rw [e1, e2]; exact hI.sp j y hy
 ·obtain ⟨y, g1, g2⟩ := hI.it it hit
  have : it.id ≠ id := fun e => by rw [e, hnone] at g1; cases g1
  refine ⟨y, ?_, g2⟩
  show (if it.id = id then _ else S2.sp it.id) = _
  rw [if_neg this, es.sp]; exact g1
theorem SwInv.new (pl : List Int) (rf : List Bool) (fl : List Int) : SwInv (SW.new (HS.new (newV pl rf fl))) (fun _ => none1) (fun _ => none1) :=
 ⟨HInv.newV pl rf fl, fun id x hx => (by cases hx), fun x hx => (by cases hx)⟩
end
section
variable {E : Env} {w : World} {Z : List Pr} {b h s r : Nat} {W : SW} {U M : Bits}
theorem swemit_spec (H : Sat (SweepP E b h s r W :: Z) w) (he : W.em.length <= 1099511627776) {K : SlV -> World -> Prop} (hK : ∀ s1 w', s1.len = W.em.length -> Sat (Row E.t_api_Special 3 s1 (recs sp3 W.em) :: SweepP E b h s r W :: Z) w' -> K s1 w') : F.sweep_Sweeper_Emitted E (some ⟨b, 0, none⟩) K w := by
 unfold F.sweep_Sweeper_Emitted T0.sweep_Sweeper_Emitted
 obtain ⟨em, H1⟩ := Sat.sweep.1 H
 refine NC_in ⟨em, (swcell H1).2.2.2.1, ?_⟩
 have hl : W.em.length = em.len := ((H1.front 4 rfl).recLen (by decide) sp3_len).1
 unfold F.slices_Clone___api_Special_api_Special_
 cases hb : em.base with
 | none =>
  have h0 : em.len = 0 := by
   have hc := ((H1.front 4 rfl).own).cap
   rcases ((H1.front 4 rfl).own).row with ⟨_, g⟩ | ⟨_, _, g, _⟩
   ·omega
   ·rw [hb] at g; cases g
  have : W.em = [] := List.eq_nil_of_length_eq_zero (by omega)
  refine CND_t rfl (hK _ _ (by rw [this]; rfl) ?_)
  rw [this]; exact H.nil E.t_api_Special 3
 | some a =>
  refine CND_f rfl (AL_rows (n := 0) (z := 3) (vs := []) H1 rfl (by decide) fun b1 w2 H2 => ?_)
  refine APP_row (bytes := 24) (x := em) (news := recs sp3 W.em) H2 rfl (H2.front 5 rfl).rowAll (H2.front 5 rfl).rowLen (recs_one sp3_one _) (by simp only; omega) (by simp only; omega) fun s3 w4 H4 hl3 => ?_
  rw [List.nil_append] at H4
  refine hK s3 w4 (by rw [hl3]; show 0 + em.len = _; omega) ?_
  have h1 : Sat (swres E b h s r W em ++ Row E.t_api_Special 3 s3 (recs sp3 W.em) :: Z) w4 := H4.perm (by exact (List.perm_middle (l₁ := [_, _, _, _, _]) (l₂ := Z)).symm)
  exact (Sat.sweep.2 ⟨em, h1⟩).perm (.swap _ _ _)
end
end Go.Sh

set_option linter.all false
set_option maxRecDepth 8000
set_option maxHeartbeats 4000000
namespace Go.Sh
theorem first_found2 {p n : Int} {S2 : HS} {page : Int} (hk : HOk (HS.new (newV [] [] []))) (hn : 1 <= n) (hn2 : n <= 1000000) (h : Found (HS.new (newV [] [] [])) p n page S2) : page = 512 /\ FrR S2 (512 + n) (512 + upN n) /\ LaidB S2 (512 + upN n) /\ ∀ j, S2.ca j = CS.nil := by
 have hu := upN_le n
 have hfr : ∀ q, (HS.new (newV [] [] [])).T.fr q = false := fun _ => rfl
 obtain ⟨b', h1, h2, h3, h4, h5, h6, _⟩ := h.row (LaidB.new []) hk (FrR.new _) (Int.le_refl _) hn (by omega) (fun S0 ht => tried_nofree hfr hn ht) fun S0 pg ht => got_nofree hfr (fun _ _ _ => rfl) hn ht
 have e : b' = 512 + upN n := by omega
 subst e
 exact ⟨h2, h5, h4, fun j => by rw [h6]; rfl⟩
theorem PEQ_same {a : Addr} {K : Bool -> Prop} (h : K true) : PEQ (some a) (some a) K := by
 unfold PEQ
 refine ⟨rfl, ?_⟩
 rw [show (a == a) = true from beq_self_eq_true a]; exact h
structure First (T : HS) (bl : Nat) (n c : Int) (np : Bool) : Prop where
 sp : T.sp 1 = some (bl, spOf 512 n c np)
 no : ∀ i, i ≠ 1 -> T.sp i = none
 la : LaidB T (512 + upN n)
 own : ∀ p, T.own p = if 512 <= p /\ p < 512 + n then 1 else 0
 fx : T.fx = ⟨1, []⟩
 pg : T.pages = n
 fr : FrR T (512 + n) (512 + upN n)
 ca : ∀ j, (T.ca j).empty
def bits0 : Bits := fun _ => none1
theorem bits0_set (id : Int) : bits0.set id none1 = bits0 := by funext i; unfold Bits.set bits0; split <;> rfl
section
variable {E : Env} {w : World} {Z : List Pr} {b h s r : Nat} {W : SW} {U M : Bits}
theorem fresh18_spec (H : Sat Z w) {K : Option Addr -> Option Addr -> World -> Prop} (hK : ∀ b h s r w', Sat (SweepP E b h s r (SW.new (HS.new (newV [] [] []))) :: Z) w' -> K (some ⟨b, 0, none⟩) (some ⟨r, 0, none⟩) w') (hS : EnvS E) : F.mallowlaw18_fresh E K w := by
 unfold F.mallowlaw18_fresh T0.mallowlaw18_fresh
 refine vnew_nil hS H fun m w2 H2 => CND_f rfl (hnew_spec H2 fun h w4 H4 => senew_spec H4 fun s w6 H6 => spcnew_spec H6 fun r w8 H8 => ?_)
 refine JOIN_in (CND_f rfl (CND_f rfl fun j => CND_f rfl ?_))
 refine swnew_spec H8 fun b w13 H13 => JOIN_in (CND_f rfl (swheap_spec H13 (PEQ_same (CND_f rfl (swsets_spec H13 (PEQ_same fun j => CND_f rfl ?_))))))
 exact hK b h s r w13 H13
variable (hE : EnvW E)
include hE
theorem swfirst_spec (hT : ∀ w', Sat Z w' -> TabAt E.g_math_bits_deBruijn64tab w') (H : Sat (SweepP E b h s r (SW.new (HS.new (newV [] [] []))) :: Z) w) {p n c : Int} {np : Bool} (hn : 1 <= n) (hn2 : n <= 1000000) (hb : ¬ spBad 0 n c) {K : Int -> Int -> World -> Prop}
  (hK : ∀ bl T, First T bl n c np -> SwInv (SW.new T) bits0 bits0 -> ∀ w', Sat (SweepP E b h s r (SW.new T) :: Z) w' -> K 1 0 w') : F.mheap_Heap_Alloc E (some ⟨h, 0, none⟩) p n c np K w := by
 obtain ⟨R, HH, hz, hb1⟩ := H.swHeap
 have hu := upN_le n
 refine halloc_ok hE.toEnvA (fun w' h' => hT w' (hz h')) HH (HInv.newV [] [] []) (LaidB.new []) hb (by omega) (by omega) fun _ page S2 bl id X hf hk hI2 q0 q1 hX hI3 w8 H8 => ?_
 obtain ⟨rfl, e2, e3, e4⟩ := first_found2 hk hn hn2 hf
 have es := hf.same
 have hsw := (SwInv.new [] [] []).keep (np := np) hf hX q0 q1 hb (by omega) hI3
 obtain ⟨rfl, rfl⟩ := hX.top (n := 0) es.fx
 refine hK bl _ ⟨?_, ?_, e3.keep _ _ _ _ _, ?_, rfl, ?_, e2, ?_⟩ (by have := hsw.1; rw [show (fun _ => none1 : Bits) = bits0 from rfl, bits0_set] at this; exact this) w8 (hb1 H8)
 ·show (if (1 : Int) = ((0 : Nat) : Int) + 1 then some (bl, spOf 512 n c np) else S2.sp 1) = _
  rw [if_pos (by decide)]
 ·intro i hi
  show (if i = ((0 : Nat) : Int) + 1 then some (bl, spOf 512 n c np) else S2.sp i) = none
  rw [if_neg (by simpa using hi), es.sp]; rfl
 ·intro p
  rw [own_keep, es.own]; rfl
 ·show S2.pages + n = n
  rw [es.pages]; show 0 + n = n; omega
 ·intro j
  show (S2.ca j).empty
  rw [e4]; exact fun _ => rfl
end
theorem spRun_idle {u : Nat -> Bool} {base elem : Int} {t : SpF} {a : Nat} (h : ∀ k, a <= k -> u k = false) : ∀ m, spRun u base elem (a + m) t = spRun u base elem a t
 | 0 => rfl
 | m + 1 => by
  show spStep u base elem (a + m) (spRun u base elem (a + m) t) = _
  rw [spRun_idle h m]
  unfold spStep
  rw [if_neg (by rw [h _ (by omega)]; simp)]
def u2 : Nat -> Bool := fun i => ((none1 i || i == 0) || i == 1)
theorem u2_cnt1 : cN (fun i => u2 i && !(none1 i || i == 0)) 170 = 1 := by decide +kernel
theorem u2_cnt2 : cN (fun i => u2 i && (none1 i || i == 0)) 170 = 1 := by decide +kernel
theorem cls5f : clsAt 5 = (48, 1, 170, 89478486) := by decide +kernel
section
variable {E : Env} {w : World} {Z : List Pr} (hE : EnvW E)
include hE
theorem awake18_spec (hT : ∀ w', Sat Z w' -> TabAt E.g_math_bits_deBruijn64tab w') (H : Sat Z w) {K : Bool -> World -> Prop} (hK : ∀ w', Sat Z w' -> K true w') : F.mallowlaw18_awake E K w := by
 unfold F.mallowlaw18_awake T0.mallowlaw18_awake
 have bad : ¬ spBad 0 1 5 := by unfold spBad; rw [cls5]; omega
 refine fresh18_spec (E := E) H (hS := hE.toEnvS) fun b h s r w3 H3 => CND_f rfl (swheap_spec H3 ?_)
 refine swfirst_spec hE hT H3 (by decide) (by decide) bad fun bl T hF hI w8 H8 => swheap_spec H8 ?_
 obtain ⟨R1, HH1, hz1, hb1⟩ := H8.swHeap
 refine hspan_spec HH1 (fun hn => by rw [show (SW.new T).S.sp 1 = some _ from hF.sp] at hn; cases hn) fun x hx => ?_
 rw [show (SW.new T).S.sp 1 = some _ from hF.sp] at hx
 cases hx
 refine JOIN_in (CND_f rfl (CND_f rfl fun j => CND_f rfl ?_))
 obtain ⟨hok0, hg0⟩ := hI.sp 1 _ hF.sp
 have hslots : (spOf 512 1 5 false).slots = 170 := by show (if (5 : Int) = 0 then (1 : Int) else (clsAt 5).2.2.1) = 170; rw [cls5f]; rfl
 have helem : (spOf 512 1 5 false).elem = 48 := by show (if (5 : Int) = 0 then (1 * 8192 : Int) else (clsAt 5).1) = 48; rw [cls5f]; rfl
 obtain ⟨R2, hs2, hz2, hb2⟩ := HH1.heapPut2 hF.sp
 refine spnextG_spec (hT _ (hz1 (hz2 hs2.tail))) hs2 hg0 (by show (1 : Int) ≠ 0; decide) (fun hall => absurd (hall 0 (by rw [hslots]; decide)) (by decide)) fun n0 uw0 hn0 hu0 hl0 hg1 w19 H19 => ?_
 obtain rfl : n0 = 0 := by
  rcases Nat.eq_zero_or_pos n0 with e | e
  ·exact e
  ·have := hl0 0 e; cases this
 refine spnextG_spec (hT _ (hz1 (hz2 H19.tail))) H19 hg1 (by show (1 : Int) ≠ 0; decide) (fun hall => absurd (hall 1 (by show (1 : Int) < (spOf 512 1 5 false).slots; rw [hslots]; decide)) (by decide)) fun n1 uw1 hn1 hu1 hl1 hg2 w22 H22 => ?_
 obtain rfl : n1 = 1 := by
  rcases Nat.lt_trichotomy n1 1 with e | e | e
  ·obtain rfl : n1 = 0 := by omega
   exact absurd hu1 (by decide)
  ·exact e
  ·have := hl1 1 e; exact absurd this (by decide)
 obtain ⟨I2, hI2e⟩ : ∃ I2 : SI, I2 = { spOf 512 1 5 false with uw := uw1, used := (spOf 512 1 5 false).used + 1 + 1, look := ((1 : Nat) : Int) + 1 } := ⟨_, rfl⟩
 have hg2 : SpG I2 u2 none1 := by rw [hI2e]; exact hg2
 have H23 : Sat (SpanP E bl I2 :: R2) w22 := by rw [hI2e]; exact H22
 have hb0 : I2.base = 512 * 8192 := by rw [hI2e]; rfl
 have hcell : I2.state = 1 /\ I2.pages = 1 /\ I2.elem = 48 /\ I2.slots = 170 /\ I2.cls = 5 /\ I2.noptr = false /\ I2.magic = (clsAt 5).2.2.2 /\ I2.used = 2 := by rw [hI2e]; exact ⟨rfl, rfl, helem, hslots, rfl, rfl, rfl, rfl⟩
 obtain ⟨k1, k2, k3, k4, k5, k6, k7, k8⟩ := hcell
 refine JOIN_in (spinfo_spec H23 fun w36 H36 => ?_)
 rw [hb0]
 have H37 := hb1 (hb2 H36)
 have hI3 := hI.putS (W := SW.new T) hF.sp (I := I2) (u := u2) (m := none1) (by rw [hI2e]) (by rw [hI2e]) (by rw [hI2e]) (by rw [hI2e]) (by rw [hI2e]) (by rw [hI2e]) (by rw [hI2e]) hg2
 rw [bits0_set] at hI3
 obtain ⟨R4, HH4, hz4, hb4⟩ := H37.swSpec
 refine spcadd_spec HH4 (by decide) (show ([] : List Rc).length < 1099511627776 by decide) (fun g => absurd (by decide) g) (fun _ x hx => by cases hx) fun _ _ A B blk w38 hAB H38 => CND_f rfl ?_
 have hAB : [] = A ++ B := hAB
 obtain ⟨rfl, rfl⟩ : A = [] /\ B = [] := by simpa using hAB.symm
 have H39 := hb4 H38
 obtain ⟨S1, hS1⟩ : ∃ S1, S1 = T.put 1 (bl, I2) := ⟨_, rfl⟩
 have hsp1 : S1.sp 1 = some (bl, I2) := by rw [hS1]; exact HS.put_sp
 have hsn1 : ∀ i, i ≠ 1 -> S1.sp i = none := fun i hi => by rw [hS1, HS.put_ne hi]; exact hF.no i hi
 have H40 : Sat (SweepP E b h s r ⟨S1, [], [⟨blk, 512 * 8192, 1, 7⟩], [], 0, 0, 0, 0⟩ :: Z) w38 := by rw [hS1]; exact H39
 have hI4 : SwInv ⟨S1, [], [⟨blk, 512 * 8192, 1, 7⟩], [], 0, 0, 0, 0⟩ (bits0.set 1 u2) bits0 := by rw [hS1]; exact hI3.rc _ _ _ _ _ _
 clear H39 H38 HH4 hb4 H37 H36 H23 H22 H19 hs2 hb2 HH1 hb1 H8 H3
 refine swput_spec hE H40 hI4 (show ([] : List Itm).length < 1099511627776 by decide) (fun hn => by rw [show (SW.S _).sp 1 = _ from hsp1] at hn; cases hn) (fun _ ⟨y, hy, _⟩ => by cases hy) fun x hx hno blk2 hI5 w40 H41 => CND_f rfl ?_
 rw [show (SW.S _).sp 1 = _ from hsp1] at hx
 cases hx
 have hins : insB [] (⟨blk2, 1, I2.base, (I2.cls, I2.noptr, I2.used == I2.slots, true)⟩ : Itm) = [⟨blk2, 1, I2.base, (I2.cls, I2.noptr, I2.used == I2.slots, true)⟩] := rfl
 refine swmark_spec hE (a1 := ⟨none, 0, 0⟩) (as_ := []) H41 hI5 (fun _ _ => show ([] : List Value) = [] from rfl) rfl (by decide) (fun a ha => by cases ha) (fun hpos => ?_) fun hsw S2 hmw hI6 w42 H42 j => CND_f rfl ?_
 ·simp [cntS, insB, Itm.swept, pos] at hpos
 have hM : bits0.mark (SW.S ⟨S1, insB [] ⟨blk2, 1, I2.base, (I2.cls, I2.noptr, I2.used == I2.slots, true)⟩, [⟨blk, 512 * 8192, 1, 7⟩], [], 0, 0, 0, 0⟩) [] = bits0 := by funext i k; simp [Bits.mark]
 rw [hM] at hI6
 obtain ⟨mw, hsp2⟩ := hmw.sp 1 _ hsp1
 refine swnext_spec hE H42 hI6 (fun hall => ?_) fun y hy hI7 w45 H45 => ?_
 ·have := hall ⟨blk2, 1, I2.base, (I2.cls, I2.noptr, I2.used == I2.slots, false)⟩ (by show _ ∈ flipL _; rw [hins]; exact List.mem_singleton.2 rfl)
  cases this
 ·have hy1 : y = ⟨blk2, 1, I2.base, (I2.cls, I2.noptr, I2.used == I2.slots, false)⟩ := by
   have := hy.1
   rw [show (SW.L _) = flipL _ from rfl, hins] at this
   exact List.mem_singleton.1 this
  subst hy1
  refine swone_spec hE hT H45 hI7 (Nat.lt_of_le_of_lt (List.length_filter_le _ _) (by show 1 < 1099511627776; decide)) (by show 0 + 1 <= 1099511627776; decide) (fun z hz => (mem_remB.1 hz).2) (fun hn => by rw [show (SW.S _).sp 1 = _ from hsp2] at hn; cases hn) (fun _ _ ⟨i, hi, _⟩ => by cases hi) fun n gone W' U' M' hone hIW w49 H49 => ?_
  obtain ⟨x, t, uw, hx, hz, ht, hn, hU, hM', W1, hW1, hcase⟩ := hone
  rw [show (SW.S _).sp 1 = _ from hsp2] at hx
  cases hx
  have ht2 : t = spRun u2 I2.base I2.elem I2.slots.toNat ⟨[⟨blk, 512 * 8192, 1, 7⟩], none1, []⟩ := ht
  rw [hb0, k3, k4, show (170 : Int).toNat = 2 + 168 from rfl, spRun_idle fun k hk => by
   have e0 : (k == 0) = false := by simpa using (show k ≠ 0 by omega)
   have e1 : (k == 1) = false := by simpa using (show k ≠ 1 by omega)
   unfold u2; rw [e0, e1]; rfl] at ht2
  have et : spRun u2 (512 * 8192) 48 2 ⟨[⟨blk, 512 * 8192, 1, 7⟩], none1, []⟩ = ⟨[], fun i => none1 i || i == 0, [⟨0, 512 * 8192, 1, 7⟩]⟩ := by
   simp [spRun, spStep, u2, none1, isFin, remF, notA, ofA]
  rw [et] at ht2
  subst ht2
  have c1 : cN (fun i => u2 i && !(none1 i || i == 0)) I2.slots.toNat = 1 := by rw [k4]; exact u2_cnt1
  have c2 : cN (fun i => u2 i && (none1 i || i == 0)) I2.slots.toNat = 1 := by rw [k4]; exact u2_cnt2
  have hn : n = cN (fun i => u2 i && !(none1 i || i == 0)) I2.slots.toNat := hn
  rw [c1] at hn
  subst hn
  rcases hcase with ⟨q, _⟩ | ⟨_, q, _⟩ | ⟨_, _, rfl, blk3, rfl⟩
  ·cases q
  ·have q : cN (fun i => u2 i && (none1 i || i == 0)) I2.slots.toNat = 0 := q
   rw [c2] at q; cases q
  ·have hem : W1.em = [⟨0, 512 * 8192, 1, 7⟩] := by rw [hW1]
   refine swemit_spec H49 (by rw [show (SW.em _) = W1.em from rfl, hem]; decide) fun s1 w51 hl1 H51 => ?_
   rw [show (SW.em _) = W1.em from rfl, hem] at hl1 H51
   have hl1 : s1.len = 1 := hl1
   refine CND_t rfl (CND_t rfl (CND_t rfl (CND_t rfl (CND_t rfl (CND_t (by rw [hl1]; rfl) ?_)))))
   obtain ⟨a, ha⟩ := H51.recBase (by decide) sp3_len (i := 0) (by decide)
   rw [ha]
   refine NC_in ⟨⟨by decide, by omega⟩, 7, ?_, hK w51 H51.tail.tail⟩
   have := H51.recCell sp3_len ha (i := 0) (j := 2) rfl rfl
   simpa [add_add] using this
end
end Go.Sh

set_option linter.all false
set_option maxRecDepth 8000
set_option maxHeartbeats 4000000
namespace Go.Sh
def ltU (n : Nat) : Nat -> Bool := fun j => decide (j < n)
def tookI (x : SI) (uw : List Int) (i : Nat) : SI := { x with uw := uw, used := (i : Int), look := (i : Int) }
theorem ltU_zero : ltU 0 = none1 := by funext j; simp [ltU, none1]
theorem ltU_succ (n : Nat) : (fun i => ltU n i || i == n) = ltU (n + 1) := by
 funext j
 unfold ltU
 rw [Bool.eq_iff_iff, Bool.or_eq_true, decide_eq_true_eq, beq_iff_eq, decide_eq_true_eq]
 omega
theorem tookI_zero {page n c : Int} {np : Bool} : tookI (spOf page n c np) [] 0 = spOf page n c np := rfl
section
variable {E : Env} {w : World} {Z : List Pr} {b h s r : Nat} {W : SW} {U M : Bits}
theorem swslot_spec (hT : ∀ w', Sat Z w' -> TabAt E.g_math_bits_deBruijn64tab w') (H : Sat (SweepP E b h s r W :: Z) w) (hI : SwInv W U M) {id : Int} {x : Nat × SI} (hx : W.S.sp id = some x) {K : Int -> Int -> World -> Prop}
  (hk0 : (∀ i : Nat, (i : Int) < x.2.slots -> U id i = true) -> ∀ w', Sat (SweepP E b h s r W :: Z) w' -> K 0 30 w')
  (hk1 : ∀ (n : Nat) uw', (n : Int) < x.2.slots -> U id n = false -> (∀ i, i < n -> U id i = true) -> SwInv { W with S := W.S.put id (x.1, { x.2 with uw := uw', used := x.2.used + 1, look := (n : Int) + 1 }) } (U.set id fun i => U id i || i == n) M ->
   ∀ w', Sat (SweepP E b h s r { W with S := W.S.put id (x.1, { x.2 with uw := uw', used := x.2.used + 1, look := (n : Int) + 1 }) } :: Z) w' -> K n 0 w') : F.span_Span_Next E (some ⟨x.1, 0, none⟩) K w := by
 obtain ⟨hok, hg⟩ := hI.sp id x hx
 obtain ⟨R, HH, hz, hb⟩ := H.swHeap
 obtain ⟨R2, hs2, hz2, hb2⟩ := HH.heapPut2 hx
 refine spnextG_spec (hT _ (hz (hz2 hs2.tail))) hs2 hg (by rw [hok.st]; decide) (fun hall w' H' => ?_) fun n uw' hn hu hl hg' w' H' => ?_
 ·have := hb (hb2 H')
  rw [show W.S.put id (x.1, x.2) = W.S from HS.put_self hx] at this
  exact hk0 hall w' this
 ·refine hk1 n uw' hn hu hl ?_ w' (hb (hb2 H'))
  have := hI.putS hx (I := { x.2 with uw := uw', used := x.2.used + 1, look := (n : Int) + 1 }) rfl rfl rfl rfl rfl rfl rfl hg'
  rwa [Bits.set_self] at this
theorem swinfo_spec (H : Sat (SweepP E b h s r W :: Z) w) {id : Int} {x : Nat × SI} (hx : W.S.sp id = some x) {K : Int -> Int -> Int -> Int -> Bool -> Int -> Int -> Int -> Bool -> Bool -> World -> Prop}
  (hK : ∀ w', Sat (SweepP E b h s r W :: Z) w' -> K x.2.base x.2.pages x.2.state x.2.cls x.2.noptr x.2.elem x.2.slots x.2.used x.2.f8 x.2.f9 w') : F.span_Span_Info E (some ⟨x.1, 0, none⟩) K w := by
 obtain ⟨R, HH, hz, hb⟩ := H.swHeap
 obtain ⟨R2, hs2, hb2⟩ := HH.heapSpan hx
 exact spinfo_spec hs2 fun w' H' => hK w' (hb (hb2 H'))
theorem swspan_spec (H : Sat (SweepP E b h s r W :: Z) w) {id : Int} {K : Option Addr -> Int -> World -> Prop} (hk0 : W.S.sp id = none -> K none 35 w) (hk1 : ∀ x, W.S.sp id = some x -> K (some ⟨x.1, 0, none⟩) 0 w) : F.mheap_Heap_Span E (some ⟨h, 0, none⟩) id K w := by
 obtain ⟨R, HH, hz, hb⟩ := H.swHeap
 exact hspan_spec HH hk0 hk1
theorem swtake1_spec (hT : ∀ w', Sat Z w' -> TabAt E.g_math_bits_deBruijn64tab w') {bl n : Nat} {uw : List Int} {I : SI} {S : HS} {L : List Itm} {R em : List Rc} {f c p q : Int} (H : Sat (SweepP E b h s r ⟨S.put 1 (bl, tookI I uw n), L, R, em, f, c, p, q⟩ :: Z) w) (hI : SwInv ⟨S.put 1 (bl, tookI I uw n), L, R, em, f, c, p, q⟩ (bits0.set 1 (ltU n)) M)
  (hn : (n : Int) < I.slots) {K : Int -> Int -> World -> Prop} (hk1 : ∀ uw', SwInv ⟨S.put 1 (bl, tookI I uw' (n + 1)), L, R, em, f, c, p, q⟩ (bits0.set 1 (ltU (n + 1))) M -> ∀ w', Sat (SweepP E b h s r ⟨S.put 1 (bl, tookI I uw' (n + 1)), L, R, em, f, c, p, q⟩ :: Z) w' -> K n 0 w') :
  F.span_Span_Next E (some ⟨bl, 0, none⟩) K w := by
 have hx : (SW.S ⟨S.put 1 (bl, tookI I uw n), L, R, em, f, c, p, q⟩).sp 1 = some (bl, tookI I uw n) := HS.put_sp
 have hU : (bits0.set 1 (ltU n)) 1 = ltU n := Bits.set_at _ _ _
 refine swslot_spec hT H hI hx (fun hall => ?_) fun m uw' hm hu hl hI2 w' H' => ?_
 ·have := hall n hn
  rw [hU] at this
  simp [ltU] at this
 ·rw [hU] at hu hl hI2
  obtain rfl : m = n := by
   have h1 : ¬ m < n := fun h => by unfold ltU at hu; rw [decide_eq_true h] at hu; cases hu
   rcases Nat.lt_or_ge n m with h2 | h2
   ·have := hl n h2; simp [ltU] at this
   ·omega
  rw [Bits.set_set, ltU_succ] at hI2
  have e : (SW.S ⟨S.put 1 (bl, tookI I uw m), L, R, em, f, c, p, q⟩).put 1 (bl, { tookI I uw m with uw := uw', used := (tookI I uw m).used + 1, look := (m : Int) + 1 }) = S.put 1 (bl, tookI I uw' (m + 1)) := (HS.put_put _ _ _ _).trans (by
   congr 2)
  rw [e] at hI2
  refine hk1 uw' hI2 w' ?_
  have H2 := H'
  rw [e] at H2
  exact H2
end
end Go.Sh
