/- The law CentralSweeps holds (its card: math/bits' table as the program's text lays it): for every input the Go function returns true and leaves its arguments alone. No further condition. -/
import Derived.Test.YtnkkjmcimhjnhaaGreatDoorW2
import Derived.Test.YtnkkjmcimhjnhaaGreatDoorY
import Derived.Test.YtnkkjmcimhjnhaaGreatDoorA
import Derived.Test.YtnkkjmcimhjnhaaGreatDoorCards
import Derived.Test.YtnkkjmcimhjnhaaGreatDoorTie
import Derived.WalkKit
import Derived.ProofKit
import Derived.OpenShut
import Derived.Deep.DeepHandedRow
import Derived.Lib.LaidTab
set_option linter.all false
set_option maxRecDepth 8000
set_option maxHeartbeats 4000000
namespace Go.Sh
section
variable {E : Env} {w : World} {Rs Z : List Pr} (hE : EnvW E)
include hE
end
end Go.Sh

set_option linter.all false
set_option maxRecDepth 8000
set_option maxHeartbeats 4000000
namespace Go.Sh
section
variable {E : Env} {w : World} {Z : List Pr} {b h s r : Nat} {W : SW} {U M : Bits}
theorem swpages_spec (H : Sat (SweepP E b h s r W :: Z) w) (hI : SwInv W U M) {K : Int -> Int -> Int -> World -> Prop} (hK : ∀ w', Sat (SweepP E b h s r W :: Z) w' -> K (cP W.S.T.inn) W.S.pages (cP W.S.gone) w') : F.mheap_Heap_Pages E (some ⟨h, 0, none⟩) K w := by
  obtain ⟨R, HH, hz, hb⟩ := H.swHeap
  exact hpages_spec HH hI.hI fun w' H' => hK w' (hb H')
theorem OneR.run {id : Int} {keep : Bool} {n : Nat} {gone : Bool} {W' : SW} {U' M' : Bits} (h : OneR W U M id keep n gone W' U' M') (hR : W.R = []) {x : Nat × SI} (hx : W.S.sp id = some x) :
    n = cN (fun i => U id i && !M id i) x.2.slots.toNat ∧ U' = U.set id (fun i => U id i && M id i) ∧ M' = M.set id none1 ∧ ∃ uw, ∃ W1 : SW, W1 = { W with S := W.S.put id (x.1, keptI x.2 uw fun i => U id i && M id i), freed := u64 (W.freed + n), repaid := u64 (W.repaid + x.2.pages) } ∧
    ((keep = true ∧ ((cN (fun i => U id i && M id i) x.2.slots.toNat : Nat) : Int) < x.2.slots ∧ gone = false ∧ W' = W1) ∨
     (¬ (keep = true ∧ ((cN (fun i => U id i && M id i) x.2.slots.toNat : Nat) : Int) < x.2.slots) ∧ cN (fun i => U id i && M id i) x.2.slots.toNat = 0 ∧ gone = true ∧ ∃ a : Nat, id = (a : Int) + 1 ∧ W' = { W1 with S := W1.S.free a (x.2.base / 8192) x.2.pages }) ∨
     (¬ (keep = true ∧ ((cN (fun i => U id i && M id i) x.2.slots.toNat : Nat) : Int) < x.2.slots) ∧ cN (fun i => U id i && M id i) x.2.slots.toNat ≠ 0 ∧ gone = false ∧ ∃ blk, W' = { W1 with L := insB W.L ⟨blk, id, x.2.base, (x.2.cls, x.2.noptr, ((cN (fun i => U id i && M id i) x.2.slots.toNat : Nat) : Int) == x.2.slots, true)⟩ })) := by
  obtain ⟨y, t, uw, hy, hz, ht, hn, hU, hM, W1, hW1, hc⟩ := h
  rw [hx] at hy
  cases hy
  rw [hR, spRun_none (by intro k hk z hz; cases hz)] at ht
  subst ht
  refine ⟨hn, hU, hM, uw, W1, ?_, hc⟩
  rw [hW1, hR]
variable (hE : EnvW E)
include hE
end
end Go.Sh

set_option linter.all false
set_option maxRecDepth 8000
set_option maxHeartbeats 8000000
namespace Go.Sh
theorem flt_perm {α : Type} (p : α -> Bool) {L L' : List α} {x : α} (h : L.Perm (x :: L')) : (L.filter p).length = (if p x = true then 1 else 0) + (L'.filter p).length := by
  rw [(h.filter p).length_eq, List.filter_cons]
  split <;> simp <;> omega
structure SwS (B : Int) (W : SW) (U M : Bits) (k : Int) (np : Bool) : Prop where
  inv : SwInv W U M
  la : ∃ b, LaidB W.S b ∧ b <= B
  R : W.R = []
  em : W.em = []
  un : ∀ x ∈ W.L, x.swept = false -> x.kd = (k, np, true, false) ∧ ∃ y, W.S.sp x.id = some y ∧ y.2.cls = k ∧ y.2.noptr = np ∧ (∀ i : Nat, (i : Int) < y.2.slots -> U x.id i = true) ∧ ((∀ i : Nat, (i : Int) < y.2.slots -> M x.id i = true) ∨ ∀ i, M x.id i = false)
  sw : ∀ x ∈ W.L, x.swept = true -> x.kd = (k, np, true, true)
  len : W.L.length <= 100
def cU (W : SW) (M : Bits) : Nat := (W.L.filter fun x => !x.swept && !M x.id 0).length
def Kept (W W' : SW) : Prop := W'.S.pages = W.S.pages ∧ (∀ i, W'.S.sp i = none ↔ W.S.sp i = none) ∧ ∀ x ∈ W'.L, ∃ y ∈ W.L, y.id = x.id
theorem Kept.refl (W : SW) : Kept W W := ⟨rfl, fun _ => Iff.rfl, fun x hx => ⟨x, hx, rfl⟩⟩
theorem Kept.trans {A B C : SW} (h : Kept A B) (g : Kept B C) : Kept A C := ⟨g.1.trans h.1, fun i => (g.2.1 i).trans (h.2.1 i), fun x hx => by
  obtain ⟨y, hy, e⟩ := g.2.2 x hx
  obtain ⟨z, hz, e2⟩ := h.2.2 y hy
  exact ⟨z, hz, e2.trans e⟩⟩
theorem SwS.step {B : Int} {W : SW} {U M : Bits} {k : Int} {np : Bool} (h : SwS B W U M k np) {x : Itm} (hx : x ∈ W.L) {y : Nat × SI} (hy : W.S.sp x.id = some y) {I : SI} {U' M' : Bits} {L' : List Itm} {f q : Int}
    (hU : ∀ i, i ≠ x.id -> U' i = U i) (hM : ∀ i, i ≠ x.id -> M' i = M i) (hL : ∀ z ∈ L', (z ∈ W.L ∧ z.id ≠ x.id) ∨ (z.swept = true ∧ z.kd = (k, np, true, true) ∧ z.id = x.id)) (hlen : L'.length <= 100) {W' : SW} (hW : W' = { W with S := W.S.put x.id (y.1, I), L := L', freed := f, repaid := q }) (hI : SwInv W' U' M') :
    SwS B W' U' M' k np ∧ Kept W W' := by
  subst hW
  obtain ⟨b, hb1, hb2⟩ := h.la
  refine ⟨⟨hI, ⟨b, hb1.sameV rfl rfl, hb2⟩, h.R, h.em, fun z hz hs => ?_, fun z hz hs => ?_, hlen⟩, rfl, fun i => ?_, fun z hz => ?_⟩
  · rcases hL z hz with ⟨g1, g2⟩ | ⟨g1, _⟩
    · obtain ⟨q1, v, q2, q3, q4, q5, q6⟩ := h.un z g1 hs
      exact ⟨q1, v, (HS.put_ne g2).trans q2, q3, q4, by rw [hU _ g2]; exact q5, by rw [hM _ g2]; exact q6⟩
    · rw [g1] at hs; cases hs
  · rcases hL z hz with ⟨g1, g2⟩ | ⟨_, g2, _⟩
    · exact h.sw z g1 hs
    · exact g2
  · show (if i = x.id then some (y.1, I) else W.S.sp i) = none ↔ _
    by_cases e : i = x.id
    · rw [if_pos e, e, hy]; simp
    · rw [if_neg e]
  · rcases hL z hz with ⟨g1, _⟩ | ⟨_, _, g2⟩
    · exact ⟨z, g1, rfl⟩
    · exact ⟨x, hx, g2.symm⟩
section
variable {E : Env} {w : World} {Z : List Pr} {cb b h s r : Nat} {W : SW} {U M : Bits} {B : Int}
variable (hE : EnvC E)
include hE
theorem ceclean00_spec (H : Sat (CentP E cb b h s r W :: Z) w) {p k : Int} {np full : Bool} (h0 : ofK W.L (k, np, full, false) = []) {K : Int -> Bool -> Int -> World -> Prop} (hk0 : ∀ w', Sat (CentP E cb b h s r W :: Z) w' -> K 0 false 0 w') : F.central_Central_cleaned E (some ⟨cb, 0, none⟩) p k np full K w := by
  unfold F.central_Central_cleaned T0.central_Central_cleaned
  refine AL_cells (vs := [.int .i64 p, .int .i64 k, .bool np]) H fun b1 w2 H2 _ => ?_
  refine LOOP_intro (fun _ w' => Sat (Cells b1 E.t_central_want [.int .i64 p, .int .i64 k, .bool np] :: CentP E cb b h s r W :: Z) w') (fun _ _ => 0) H2 ?_
  rintro _ _ w4 H4
  have H3 := H4.drew
  have Hc : Sat (CentP E cb b h s r W :: Cells b1 E.t_central_want [.int .i64 p, .int .i64 k, .bool np] :: Z) w4.drew := H3.front 1 rfl
  refine NC_in ⟨_, Hc.centPtr, _, H3.cell rfl, _, H3.cell rfl, swsets_spec Hc.centSw ⟨H3.cell rfl, H3.cell rfl, ?_⟩⟩
  obtain ⟨R, HH, hz, hb⟩ := Hc.centSw.swSets
  refine setake_spec hE.toEnvW (k := (k, np, full, false)) HH (fun _ => CND_t rfl (hk0 _ H3.tail)) fun x l hx w' H' => ?_
  rw [h0] at hx; cases hx
theorem ceclean_spec (hT : ∀ w', Sat Z w' -> TabAt E.g_math_bits_deBruijn64tab w') (H : Sat (CentP E cb b h s r W :: Z) w) {p k : Int} {np : Bool} (hS : SwS B W U M k np) {K : Int -> Bool -> Int -> World -> Prop}
    (hk0 : ∀ W' U' M', SwS B W' U' M' k np -> (∀ x ∈ W'.L, x.swept = true) -> Kept W W' -> cU W M = 0 -> ∀ w', Sat (CentP E cb b h s r W' :: Z) w' -> K 0 false 0 w')
    (hk1 : ∀ W' U' M' id, SwS B W' U' M' k np -> cU W M = cU W' M' + 1 -> Kept W W' -> (∃ x ∈ W.L, x.id = id) -> (∀ x ∈ W'.L, x.id ≠ id) -> (∃ y, W'.S.sp id = some y ∧ y.2.used = 0) -> ∀ w', Sat (CentP E cb b h s r W' :: Z) w' -> K id true 0 w') :
    F.central_Central_cleaned E (some ⟨cb, 0, none⟩) p k np true K w := by
  unfold F.central_Central_cleaned T0.central_Central_cleaned
  refine AL_cells (vs := [.int .i64 p, .int .i64 k, .bool np]) H fun b1 w2 H2 _ => ?_
  refine LOOP_ix (fun n _ w' => ∃ W' U' M', SwS B W' U' M' k np ∧ Kept W W' ∧ cU W M = cU W' M' ∧ n = (W'.L.filter fun x => !x.swept).length ∧ Sat (Cells b1 E.t_central_want [.int .i64 p, .int .i64 k, .bool np] :: CentP E cb b h s r W' :: Z) w') _ ⟨W, U, M, hS, Kept.refl _, rfl, rfl, H2⟩ ?_
  rintro n _ _ w4 ⟨W1, U1, M1, hS1, hKp, hcu, rfl, H4⟩
  have H3 := H4.drew
  have Hc : Sat (CentP E cb b h s r W1 :: Cells b1 E.t_central_want [.int .i64 p, .int .i64 k, .bool np] :: Z) w4.drew := H3.front 1 rfl
  refine NC_in ⟨_, Hc.centPtr, _, H3.cell rfl, _, H3.cell rfl, swsets_spec Hc.centSw ⟨H3.cell rfl, H3.cell rfl, ?_⟩⟩
  obtain ⟨R, HH, hz, hb⟩ := Hc.centSw.swSets
  have hnd := HH.setsInv.nd
  refine setake_spec hE.toEnvW (k := (k, np, true, false)) HH (fun h0 => CND_t rfl ?_) fun x l hx w' H' => CND_f rfl ?_
  · have hall : ∀ x ∈ W1.L, x.swept = true := fun x hx => by
      cases e : x.swept with
      | true => rfl
      | false =>
        have : x ∈ ofK W1.L (k, np, true, false) := mem_ofK.2 ⟨hx, (hS1.un x hx e).1⟩
        rw [h0] at this; cases this
    refine hk0 W1 U1 M1 hS1 hall hKp ?_ _ H3.tail
    rw [hcu]
    show (W1.L.filter _).length = 0
    rw [List.length_eq_zero_iff, List.filter_eq_nil_iff]
    intro x hx
    rw [hall x hx]; simp
  have hm := mem_ofK.1 (show x ∈ ofK W1.L (k, np, true, false) by rw [hx]; exact List.mem_cons_self)
  have hus : x.swept = false := by unfold Itm.swept; rw [hm.2]
  obtain ⟨_, y, hy, hy1, hy2, hyU, hyM⟩ := hS1.un x hm.1 hus
  have hp := remB_perm hnd hm.1
  have hlen : W1.L.length = (remB W1.L x.id).length + 1 := by rw [hp.length_eq]; rfl
  have hl100 := hS1.len
  obtain ⟨hok, hg⟩ := hS1.inv.sp x.id y hy
  have hsl := hok.size
  have H5 : Sat (CentP E cb b h s r { W1 with L := remB W1.L x.id } :: Cells b1 E.t_central_want [.int .i64 p, .int .i64 k, .bool np] :: Z) w' := (hb H').swCent
  have hI5 : SwInv { W1 with L := remB W1.L x.id } U1 M1 := hS1.inv.ofL fun z hz => hS1.inv.it z (mem_remB.1 hz).1
  refine NC_in ⟨_, H5.centPtr, ?_⟩
  have hT2 : ∀ w', Sat (Cells cb E.t_central_Central [.pointer (some ⟨b, 0, none⟩)] :: Cells b1 E.t_central_want [.int .i64 p, .int .i64 k, .bool np] :: Z) w' -> TabAt E.g_math_bits_deBruijn64tab w' := fun w' h' => hT w' h'.tail.tail
  have hRe : ({ W1 with L := remB W1.L x.id } : SW).R = [] := hS1.R
  have hy' : ({ W1 with L := remB W1.L x.id } : SW).S.sp x.id = some y := hy
  refine swone_spec hE.toEnvW hT2 H5.centSw hI5 (by show (remB W1.L x.id).length < _; omega) (by show W1.em.length + W1.R.length <= _; rw [hS1.em, hS1.R]; decide) (fun z hz => (mem_remB.1 hz).2) (fun hn => by rw [hy'] at hn; cases hn) (fun z hz ⟨i, hi1, hi2⟩ => ?_) fun n gone W2 U2 M2 hone hI2 w6 H6 => CND_f rfl ?_
  · rw [hyU i (hg.mlim i hi1)] at hi2; cases hi2
  obtain ⟨_, hU2, hM2, uw, Wm, hWm, hc⟩ := hone.run hRe hy'
  have hUne : ∀ i, i ≠ x.id -> U2 i = U1 i := fun i hi => by rw [hU2]; unfold Bits.set; rw [if_neg hi]
  have hMne : ∀ i, i ≠ x.id -> M2 i = M1 i := fun i hi => by rw [hM2]; unfold Bits.set; rw [if_neg hi]
  have fc : ∀ {L' : List Itm}, (∀ z ∈ L', z.id ≠ x.id) -> (L'.filter fun z => !z.swept && !M2 z.id 0) = (L'.filter fun z => !z.swept && !M1 z.id 0) := fun hL' => List.filter_congr fun z hz => by rw [hMne _ (hL' z hz)]
  have hrem : ∀ z ∈ remB W1.L x.id, z.id ≠ x.id := fun z hz => (mem_remB.1 hz).2
  have c1 := flt_perm (fun z : Itm => !z.swept && !M1 z.id 0) hp
  have c2 := flt_perm (fun z : Itm => !z.swept) hp
  rw [hus] at c1 c2
  have H6' := H6.swCent
  refine NC_in ⟨_, H6'.centPtr, swheap_spec H6'.centSw ?_⟩
  rcases hyM with hmk | hmk
  · -- marked: it stays full
    have hcn : cN (fun i => U1 x.id i && M1 x.id i) y.2.slots.toNat = y.2.slots.toNat := cN_all fun i hi => by rw [hyU i (by omega), hmk i (by omega)]; rfl
    rw [hcn] at hc
    rcases hc with ⟨_, g, _⟩ | ⟨_, g, _⟩ | ⟨_, _, rfl, blk, hW2⟩
    · omega
    · omega
    rw [hWm] at hW2
    have hfl : ((y.2.slots.toNat : Nat) : Int) = y.2.slots := by omega
    rw [hfl, beq_self_eq_true, hy1, hy2] at hW2
    have hpi := insB_perm (remB W1.L x.id) ⟨blk, x.id, y.2.base, (k, np, true, true)⟩
    obtain ⟨h1, h2⟩ := hS1.step hm.1 hy (W' := W2) (U' := U2) (M' := M2) hUne hMne (fun z hz => by
      rcases mem_insB.1 hz with rfl | hz
      · exact .inr ⟨rfl, rfl, rfl⟩
      · exact .inl ⟨(mem_remB.1 hz).1, (mem_remB.1 hz).2⟩) (by rw [hpi.length_eq]; show (remB W1.L x.id).length + 1 <= 100; omega) hW2 hI2
    have hsp2 : W2.S.sp x.id = some (y.1, keptI y.2 uw fun i => U1 x.id i && M1 x.id i) := by rw [hW2]; exact HS.put_sp
    refine swspan_spec H6'.centSw (fun hn => by rw [hsp2] at hn; cases hn) fun v hv => ?_
    rw [hsp2] at hv
    cases hv
    refine JOIN_in (CND_t rfl ?_)
    obtain ⟨R3, HH3, hz3, hb3⟩ := H6'.centSw.swHeap
    obtain ⟨R4, hs4, hb4⟩ := HH3.heapSpan hsp2
    refine spfull_spec hs4 fun w8 H8 => fun _ => CND_f ?_ ?_
    · show (!(((cN (fun i => U1 x.id i && M1 x.id i) y.2.slots.toNat : Nat) : Int) == y.2.slots)) = false
      rw [hcn, hfl]; simp
    refine ⟨_, ?_, W2, U2, M2, h1, hKp.trans h2, ?_, rfl, ?_⟩
    · have : (W2.L.filter fun z => !z.swept).length = ((remB W1.L x.id).filter fun z => !z.swept).length := by
        rw [hW2]
        show ((insB _ _).filter _).length = _
        rw [flt_perm (fun z : Itm => !z.swept) hpi]
        show 0 + _ = _
        omega
      rw [this, c2]; simp
    · rw [hcu]
      show (W1.L.filter _).length = (W2.L.filter _).length
      rw [c1, hmk 0 (by omega), hW2]
      show _ = ((insB _ _).filter _).length
      rw [flt_perm (fun z : Itm => !z.swept && !M2 z.id 0) hpi, fc hrem]
      rfl
    · have := (hb3 (hb4 H8)).swCent
      exact this.front 1 rfl
  · -- not marked: it is empty
    have hcn : cN (fun i => U1 x.id i && M1 x.id i) y.2.slots.toNat = 0 := by
      have : (fun i => U1 x.id i && M1 x.id i) = fun _ => false := by funext i; rw [hmk i, Bool.and_false]
      rw [this]
      generalize y.2.slots.toNat = m
      induction m with
      | zero => rfl
      | succ m ih => show cN _ m + _ = 0; rw [ih]; rfl
    rw [hcn] at hc
    rcases hc with ⟨_, _, rfl, hW2⟩ | ⟨g, _⟩ | ⟨g, _⟩
    rotate_left
    · exact absurd ⟨rfl, by show (0 : Int) < _; omega⟩ g
    · exact absurd ⟨rfl, by show (0 : Int) < _; omega⟩ g
    rw [hWm] at hW2
    obtain ⟨h1, h2⟩ := hS1.step hm.1 hy (W' := W2) (U' := U2) (M' := M2) hUne hMne (L' := remB W1.L x.id) (fun z hz => .inl ⟨(mem_remB.1 hz).1, (mem_remB.1 hz).2⟩) (by omega) hW2 hI2
    have hsp2 : W2.S.sp x.id = some (y.1, keptI y.2 uw fun i => U1 x.id i && M1 x.id i) := by rw [hW2]; exact HS.put_sp
    refine swspan_spec H6'.centSw (fun hn => by rw [hsp2] at hn; cases hn) fun v hv => ?_
    rw [hsp2] at hv
    cases hv
    refine JOIN_in (CND_t rfl ?_)
    obtain ⟨R3, HH3, hz3, hb3⟩ := H6'.centSw.swHeap
    obtain ⟨R4, hs4, hb4⟩ := HH3.heapSpan hsp2
    have hu0 : (keptI y.2 uw fun i => U1 x.id i && M1 x.id i).used = 0 := by
      show ((cN (fun i => U1 x.id i && M1 x.id i) y.2.slots.toNat : Nat) : Int) = 0
      rw [hcn]; rfl
    refine spfull_spec hs4 fun w8 H8 => fun _ => CND_t ?_ ?_
    · rw [hu0]
      show (!((0 : Int) == y.2.slots)) = true
      rw [show ((0 : Int) == y.2.slots) = false by simp; omega]; rfl
    refine hk1 W2 U2 M2 x.id h1 ?_ (hKp.trans h2) ?_ ?_ ⟨_, hsp2, hu0⟩ w8 ?_
    · rw [hcu]
      show (W1.L.filter _).length = (W2.L.filter _).length + 1
      rw [c1, hmk 0, hW2]
      show _ = ((remB W1.L x.id).filter _).length + 1
      rw [fc hrem]
      simp; omega
    · obtain ⟨z, hz, e⟩ := hKp.2.2 x hm.1
      exact ⟨z, hz, e⟩
    · rw [hW2]; exact hrem
    · have := (hb3 (hb4 H8)).swCent
      exact (this.front 1 rfl).tail
end
end Go.Sh

set_option linter.all false
set_option maxRecDepth 8000
set_option maxHeartbeats 8000000
namespace Go.Sh
theorem slot_inC {x : SI} (h : SpOk x) {n : Nat} (hn : (n : Int) < x.slots) : 0 <= (n : Int) * x.elem ∧ (n : Int) * x.elem + x.elem <= x.pages * 8192 := by
  have hs := h.size
  have h1 : ((n : Int) + 1) * x.elem <= x.slots * x.elem := Int.mul_le_mul_of_nonneg_right (by omega) (by omega)
  have h2 : ((n : Int) + 1) * x.elem = n * x.elem + x.elem := by rw [Int.add_mul, Int.one_mul]
  have h3 : 0 <= (n : Int) * x.elem := Int.mul_nonneg (by omega) (by omega)
  rw [Int.mul_comm x.slots] at h1
  omega
theorem mkOf_slot {W : SW} {U M : Bits} (hI : SwInv W U M) {id : Int} {y : Nat × SI} (hy : W.S.sp id = some y) {m : Nat} (hm : (m : Int) < y.2.slots) : mkOf W.S (y.2.base + m * y.2.elem) = some (id, m) := by
  obtain ⟨hok, _⟩ := hI.sp id y hy
  have h1 := slot_inC hok hm
  have hsz := hok.size
  obtain ⟨_, a2, a3, _, a5⟩ := hI.hI.sp id y hy
  have ho : W.S.own ((y.2.base + m * y.2.elem) / 8192) = id := a5 _ (by omega) (by omega)
  unfold mkOf
  rw [ho, hy]
  dsimp only
  have h2 : (m : Int) * y.2.elem < y.2.slots * y.2.elem := by
    have : ((m : Int) + 1) * y.2.elem <= y.2.slots * y.2.elem := Int.mul_le_mul_of_nonneg_right (by omega) (by omega)
    rw [Int.add_mul, Int.one_mul] at this
    omega
  rw [if_pos ⟨by omega, by omega⟩]
  have : (y.2.base + m * y.2.elem - y.2.base) / y.2.elem = m := by
    rw [show y.2.base + m * y.2.elem - y.2.base = m * y.2.elem by omega]
    exact Int.mul_ediv_cancel _ (by omega)
  rw [this]
  rfl
theorem SwS.fresh {B : Int} {W : SW} {U M : Bits} {k : Int} {np : Bool} (h : SwS B W U M k np) (k0 : 1 <= k) (k1 : k < 68) (hB : B <= 100000) {p page id : Int} {S2 : HS} {bl : Nat} {X : FX} (hf : Found W.S p (clsAt k).2.1 page S2) (hok : HOk W.S) (hnone : W.S.sp id = none)
    (hI : SwInv { W with S := S2.keep id (bl, spOf page (clsAt k).2.1 k np) page (clsAt k).2.1 X } (U.set id none1) (M.set id none1)) :
    SwS (B + 512) { W with S := S2.keep id (bl, spOf page (clsAt k).2.1 k np) page (clsAt k).2.1 X } (U.set id none1) (M.set id none1) k np ∧ (S2.keep id (bl, spOf page (clsAt k).2.1 k np) page (clsAt k).2.1 X).pages = W.S.pages + (clsAt k).2.1 ∧
    (S2.keep id (bl, spOf page (clsAt k).2.1 k np) page (clsAt k).2.1 X).sp id = some (bl, spOf page (clsAt k).2.1 k np) ∧ (∀ i, i ≠ id -> (S2.keep id (bl, spOf page (clsAt k).2.1 k np) page (clsAt k).2.1 X).sp i = W.S.sp i) ∧ ∀ x ∈ W.L, x.id ≠ id := by
  obtain ⟨b, hb1, hb2⟩ := h.la
  have hp := cls_at_pos (c := k) (by omega) k1
  have hp16 := cls_p16 (c := k) (by omega) k1
  have hu := upN_small (n := (clsAt k).2.1) (by omega) (by omega)
  obtain ⟨b', hb', hL⟩ := hf.laid hb1 hok (by omega) (by omega)
  have es := hf.same
  have hspne : ∀ i, i ≠ id -> (S2.keep id (bl, spOf page (clsAt k).2.1 k np) page (clsAt k).2.1 X).sp i = W.S.sp i := fun i hi => by
    show (if i = id then _ else S2.sp i) = _
    rw [if_neg hi, es.sp]
  have hno : ∀ x ∈ W.L, x.id ≠ id := fun x hx e => by
    obtain ⟨y, hy, _⟩ := h.inv.it x hx
    rw [e, hnone] at hy; cases hy
  refine ⟨⟨hI, ⟨b', hL.keep _ _ _ _ _, by rcases hb' with rfl | rfl <;> omega⟩, h.R, h.em, fun x hx hs => ?_, h.sw, h.len⟩, by show S2.pages + _ = _; rw [es.pages], if_pos rfl, hspne, hno⟩
  obtain ⟨q1, v, q2, q3, q4, q5, q6⟩ := h.un x hx hs
  have hne := hno x hx
  refine ⟨q1, v, (hspne _ hne).trans q2, q3, q4, fun i hi => ?_, ?_⟩
  · unfold Bits.set; rw [if_neg hne]; exact q5 i hi
  · have : (M.set id none1) x.id = M x.id := by unfold Bits.set; rw [if_neg hne]
    rw [this]; exact q6
section
variable {E : Env} {w : World} {Z : List Pr} {cb b h s r : Nat} {W : SW} {U M : Bits} {B : Int}
variable (hE : EnvC E)
include hE
theorem cegetS_spec (hT : ∀ w', Sat Z w' -> TabAt E.g_math_bits_deBruijn64tab w') (H : Sat (CentP E cb b h s r W :: Z) w) {p k : Int} {np : Bool} (hS : SwS B W U M k np) (k0 : 1 <= k) (k1 : k < 68) (hB : B <= 100000) {K : Int -> Int -> World -> Prop}
    (hkS : ∀ W' U' M' id, SwS B W' U' M' k np -> cU W M = cU W' M' + 1 -> Kept W W' -> (∃ x ∈ W.L, x.id = id) -> (∀ x ∈ W'.L, x.id ≠ id) -> (∃ y, W'.S.sp id = some y ∧ y.2.used = 0) -> ∀ w', Sat (CentP E cb b h s r W' :: Z) w' -> K id 0 w')
    (hkF : cU W M = 0 -> ∀ W' U' M' page S2 bl id X, SwS B W' U' M' k np -> (∀ x ∈ W'.L, x.swept = true) -> Kept W W' -> ((∀ x ∈ W.L, x.swept = true) -> W' = W ∧ U' = U ∧ M' = M) -> Found W'.S p (clsAt k).2.1 page S2 -> HOk W'.S -> W'.S.sp id = none ->
      SwInv { W' with S := S2.keep id (bl, spOf page (clsAt k).2.1 k np) page (clsAt k).2.1 X } (U'.set id none1) (M'.set id none1) -> ∀ w', Sat (CentP E cb b h s r { W' with S := S2.keep id (bl, spOf page (clsAt k).2.1 k np) page (clsAt k).2.1 X } :: Z) w' -> K id 0 w') :
    F.central_Central_Get E (some ⟨cb, 0, none⟩) p k np K w := by
  unfold F.central_Central_Get T0.central_Central_Get
  refine JOIN_intro (fun st w' => Sat (CentP E cb b h s r W :: Z) w' ∧ (st.1 = true ↔ ¬ (1 <= k ∧ k < 68))) (CND_dec (fun g => ⟨H, by simp; omega⟩) fun g => table_spec H fun r4 w5 H5 => ?_) ?_
  · have hl := H5.recLen (by decide) cls4_len
    rw [cls_len] at hl
    refine ⟨H5.tail, ?_⟩
    rw [decide_eq_true_eq]; omega
  rintro ⟨st, u⟩ _ w3 ⟨H3, hst⟩
  dsimp only at hst ⊢
  refine CND_intro (fun hq => absurd ⟨k0, k1⟩ (hst.1 hq)) fun hq => ?_
  let fs : List Value := [.func (.func E.f_central_Central_swept) #[.pointer (some ⟨cb, 0, none⟩)] #[], .func (.func E.f_central_Central_partial) #[.pointer (some ⟨cb, 0, none⟩)] #[], .func (.func E.f_central_Central_full) #[.pointer (some ⟨cb, 0, none⟩)] #[], .func (.func E.f_central_Central_fresh) #[.pointer (some ⟨cb, 0, none⟩)] #[]]
  refine AL_cells (vs := fs) H3 fun b6 w7 H7 _ => ?_
  refine LOOP_intro (fun st w' => ∃ (i : Nat) (W' : SW) (U' M' : Bits), st.1 = 0 ∧ st.2.1 = 0 ∧ st.2.2.1 = (i : Int) ∧ i <= 3 ∧ SwS B W' U' M' k np ∧ Kept W W' ∧ (i < 3 -> W' = W ∧ U' = U ∧ M' = M) ∧ (i = 3 -> (∀ x ∈ W'.L, x.swept = true) ∧ cU W M = 0 ∧ ((∀ x ∈ W.L, x.swept = true) -> W' = W ∧ U' = U ∧ M' = M)) ∧ Sat (Cells b6 E.t_central_way fs :: CentP E cb b h s r W' :: Z) w') (fun st _ => (4 - st.2.2.1).toNat) ⟨0, W, U, M, rfl, rfl, rfl, by decide, hS, Kept.refl _, fun _ => ⟨rfl, rfl, rfl⟩, fun e => by omega, H7⟩ ?_
  rintro ⟨z0, z1, i', u⟩ _ w9 ⟨i, W1, U1, M1, rfl, rfl, hi, hil, hS1, hKp, hlow, htop, H9⟩
  dsimp only at hi ⊢
  subst hi
  refine CND_dec (fun _ => ⟨⟨by omega, by omega⟩, ?_⟩) fun g => absurd (by omega) g
  have H9' : Sat (CentP E cb b h s r W1 :: Cells b6 E.t_central_way fs :: Z) w9 := H9.front 1 rfl
  have hT2 : ∀ w', Sat (Cells b6 E.t_central_way fs :: Z) w' -> TabAt E.g_math_bits_deBruijn64tab w' := fun w' h' => hT w' h'.tail
  rw [Int.toNat_natCast, Nat.mul_one]
  have kdno : ∀ full sw, (full, sw) ≠ (true, true) -> (full, sw) ≠ (true, false) -> ofK W1.L (k, np, full, sw) = [] := fun full sw g1 g2 => ofK_none fun x hx e => by
    cases hs : x.swept with
    | true => have := hS1.sw x hx hs; rw [e] at this; injection this with _ a; injection a with _ a; exact g1 a
    | false => have := (hS1.un x hx hs).1; rw [e] at this; injection this with _ a; injection a with _ a; exact g2 a
  have nx : i < 3 -> i64 ((i : Int) + 1) = ((i + 1 : Nat) : Int) := fun _ => by rw [i64_id (by omega) (by omega)]; rfl
  have hi4 : i = 0 ∨ i = 1 ∨ i = 2 ∨ i = 3 := by omega
  rcases hi4 with rfl | rfl | rfl | rfl
  · refine ⟨_, H9.cell (o := 0) (m := 0) rfl, hE.swept1 (some ⟨cb, 0, none⟩) p k np _ w9 (ceswept_spec hE H9' hS1.inv (fun h0 w' H' => ?_) fun x l hx hI2 w' H' => ?_)⟩
    · refine ⟨0, false, 0, rfl, JOIN_in (CND_f rfl fun j => CND_f rfl ?_)⟩
      rw [nx (by decide)]
      exact ⟨⟨1, W1, U1, M1, rfl, rfl, rfl, by decide, hS1, hKp, fun _ => hlow (by decide), fun e => by omega, H'.front 1 rfl⟩, by decide⟩
    · rw [kdno false true (by decide) (by decide)] at hx; cases hx
  · refine ⟨_, H9.cell (o := 0) (m := 1) rfl, hE.partial1 (some ⟨cb, 0, none⟩) p k np _ w9 ?_⟩
    unfold F.central_Central_partial T0.central_Central_partial
    refine AL_cells (vs := [.int .i64 p, .int .i64 k, .bool np]) H9' fun b1 w2 H2 _ => ⟨_, H2.cell rfl, _, H2.cell rfl, _, H2.cell rfl, ceclean00_spec hE (H2.front 1 rfl) (kdno false false (by decide) (by decide)) fun w' H' => ?_⟩
    refine ⟨0, false, 0, rfl, JOIN_in (CND_f rfl fun j => CND_f rfl ?_)⟩
    rw [nx (by decide)]
    exact ⟨⟨2, W1, U1, M1, rfl, rfl, rfl, by decide, hS1, hKp, fun _ => hlow (by decide), fun e => by omega, (H'.front 1 rfl).tail.front 1 rfl⟩, by decide⟩
  · obtain ⟨rfl, rfl, rfl⟩ := hlow (by decide)
    refine ⟨_, H9.cell (o := 0) (m := 2) rfl, hE.full1 (some ⟨cb, 0, none⟩) p k np _ w9 ?_⟩
    unfold F.central_Central_full T0.central_Central_full
    refine AL_cells (vs := [.int .i64 p, .int .i64 k, .bool np]) H9' fun b1 w2 H2 _ => ⟨_, H2.cell rfl, _, H2.cell rfl, _, H2.cell rfl, ?_⟩
    by_cases hall : ∀ x ∈ W1.L, x.swept = true
    · refine ceclean0_spec hE (H2.front 1 rfl) hall fun w' H' => ?_
      refine ⟨0, false, 0, rfl, JOIN_in (CND_f rfl fun j => CND_f rfl ?_)⟩
      rw [nx (by decide)]
      refine ⟨⟨3, W1, U1, M1, rfl, rfl, rfl, by decide, hS1, Kept.refl _, fun e => by omega, fun _ => ⟨hall, ?_, fun _ => ⟨rfl, rfl, rfl⟩⟩, (H'.front 1 rfl).tail.front 1 rfl⟩, by decide⟩
      show (W1.L.filter _).length = 0
      rw [List.length_eq_zero_iff, List.filter_eq_nil_iff]
      intro x hx
      rw [hall x hx]; simp
    · refine ceclean_spec hE (fun w' h' => hT2 w' h'.tail) (H2.front 1 rfl) hS1 (fun W2 U2 M2 h1 h2 h3 h4 w' H' => ?_) fun W2 U2 M2 id h1 h2 h3 h4 h5 h6 w' H' => ?_
      · refine ⟨0, false, 0, rfl, JOIN_in (CND_f rfl fun j => CND_f rfl ?_)⟩
        rw [nx (by decide)]
        exact ⟨⟨3, W2, U2, M2, rfl, rfl, rfl, by decide, h1, h3, fun e => by omega, fun _ => ⟨h2, h4, fun e => absurd e hall⟩, (H'.front 1 rfl).tail.front 1 rfl⟩, by decide⟩
      · exact ⟨id, true, 0, rfl, JOIN_in (CND_t rfl fun j => CND_t rfl (hkS W2 U2 M2 id h1 h2 h3 h4 h5 h6 w' (((H'.front 1 rfl).tail.front 1 rfl).tail)))⟩
  · obtain ⟨t1, t2, t3⟩ := htop rfl
    refine ⟨_, H9.cell (o := 0) (m := 3) rfl, hE.fresh1 (some ⟨cb, 0, none⟩) p k np _ w9 (cefresh_spec hE hT2 H9' hS1.inv k0 k1 (fun S2 hl hI2 w' H' => ?_) fun page S2 bl id X hf hok hI2 hX hnone q0 q1 hI3 w' H' => ?_)⟩
    · exfalso
      obtain ⟨bb, hb1, hb2⟩ := hS1.la
      have hp := cls_at_pos (c := k) (by omega) k1
      have hp16 := cls_p16 (c := k) (by omega) k1
      have hu := upN_small (n := (clsAt k).2.1) (by omega) (by omega)
      exact hb1.lost (by omega) (by omega) hl
    · exact ⟨id, true, 0, rfl, JOIN_in (CND_t rfl fun j => CND_t rfl (hkF t2 W1 U1 M1 page S2 bl id X hS1 t1 hKp t3 hf hok hnone hI3 w' ((H'.front 1 rfl).tail)))⟩
end
end Go.Sh

set_option linter.all false
set_option maxRecDepth 8000
set_option maxHeartbeats 8000000
namespace Go.Sh
structure FilSt (W : SW) (U M : Bits) (k : Int) (np : Bool) (i a2 : Nat) (Mk As : List Int) : Prop where
  s : SwS (512 + 512 * (i : Int)) W U M k np
  all : ∀ x ∈ W.L, x.swept = true ∧ ∃ y, W.S.sp x.id = some y ∧ y.2.cls = k ∧ y.2.noptr = np ∧ ∀ m : Nat, (m : Int) < y.2.slots -> U x.id m = true
  mz : ∀ id m, M id m = false
  as1 : ∀ a ∈ As, (0 <= a ∧ a < 18446744073709551616) ∧ ∃ id ∈ Mk, ∃ y, ∃ m : Nat, W.S.sp id = some y ∧ (m : Int) < y.2.slots ∧ a = y.2.base + m * y.2.elem
  as2 : ∀ id ∈ Mk, ∀ y, W.S.sp id = some y -> ∀ m : Nat, (m : Int) < y.2.slots -> y.2.base + m * y.2.elem ∈ As
  mks : ∀ id ∈ Mk, W.S.sp id ≠ none
  cnt : (W.L.filter fun x => decide (x.id ∉ Mk)).length = i - min i a2
  pg : W.S.pages = (i : Int) * (clsAt k).2.1
  len : W.L.length = i
  asl : As.length <= i * 1024
theorem full_ofC {S : SI} {U M : Nat -> Bool} (h : SpG S U M) (ha : ∀ i : Nat, (i : Int) < S.slots -> U i = true) : S.used = S.slots := by
  have := h.sl
  rw [h.cnt, cN_all fun i hi => ha i (by omega)]
  omega
theorem cU_all {W : SW} {M : Bits} (h : ∀ x ∈ W.L, x.swept = true) : cU W M = 0 := by
  show (W.L.filter _).length = 0
  rw [List.length_eq_zero_iff, List.filter_eq_nil_iff]
  intro x hx
  rw [h x hx]; simp
theorem FilSt.next {W : SW} {U M U2 : Bits} {k : Int} {np : Bool} {i a2 : Nat} {Mk As : List Int} (h : FilSt W U M k np i a2 Mk As) (hi : i <= 20) {S1 : HS} {id : Int} {bl blk : Nat} {J : SI} {base : Int}
    (hs1 : SwS (512 + 512 * (i : Int) + 512) { W with S := S1 } (U.set id none1) (M.set id none1) k np) (hpg : S1.pages = W.S.pages + (clsAt k).2.1) (hne : ∀ j, j ≠ id -> S1.sp j = W.S.sp j) (hno : ∀ x ∈ W.L, x.id ≠ id) (hnone : W.S.sp id = none)
    (j1 : J.base = base) (j2 : J.cls = k) (j3 : J.noptr = np) (j4 : (J.used == J.slots) = true) (j5 : J.slots <= 1024) (hU : ∀ m : Nat, (m : Int) < J.slots -> U2 id m = true) (hU2 : ∀ j, j ≠ id -> U2 j = U j) (hb : 0 <= base ∧ ∀ m : Nat, (m : Int) < J.slots -> 0 <= base + m * J.elem ∧ base + m * J.elem < 18446744073709551616)
    (hI : SwInv { W with S := S1.put id (bl, J), L := insB W.L ⟨blk, id, J.base, (J.cls, J.noptr, J.used == J.slots, true)⟩ } U2 (M.set id none1)) (h0 : 0 <= J.slots) :
    FilSt { W with S := S1.put id (bl, J), L := insB W.L ⟨blk, id, J.base, (J.cls, J.noptr, J.used == J.slots, true)⟩ } U2 (M.set id none1) k np (i + 1) a2 (if i < a2 then id :: Mk else Mk) (if i < a2 then As ++ (List.range J.slots.toNat).map (fun (m : Nat) => base + (m : Int) * J.elem) else As) := by
  have hpi := insB_perm W.L ⟨blk, id, J.base, (J.cls, J.noptr, J.used == J.slots, true)⟩
  have idMk : id ∉ Mk := fun hm => h.mks id hm hnone
  have mkne : ∀ j ∈ Mk, j ≠ id := fun j hj e => idMk (e ▸ hj)
  have spO : ∀ j, j ≠ id -> (S1.put id (bl, J)).sp j = W.S.sp j := fun j hj => (HS.put_ne hj).trans (hne j hj)
  have spN : (S1.put id (bl, J)).sp id = some (bl, J) := HS.put_sp
  have hall : ∀ x ∈ insB W.L ⟨blk, id, J.base, (J.cls, J.noptr, J.used == J.slots, true)⟩, x.swept = true ∧ ∃ y, (S1.put id (bl, J)).sp x.id = some y ∧ y.2.cls = k ∧ y.2.noptr = np ∧ ∀ m : Nat, (m : Int) < y.2.slots -> U2 x.id m = true := fun x hx => by
    rcases mem_insB.1 hx with rfl | hx
    · exact ⟨rfl, _, spN, j2, j3, hU⟩
    · obtain ⟨q1, y, q2, q3, q4, q5⟩ := h.all x hx
      have e := hno x hx
      exact ⟨q1, y, (spO _ e).trans q2, q3, q4, by rw [hU2 _ e]; exact q5⟩
  obtain ⟨b, hb1, hb2⟩ := hs1.la
  have hl := h.len
  refine ⟨⟨hI, ⟨b, hb1.sameV rfl rfl, by rw [show ((i + 1 : Nat) : Int) = (i : Int) + 1 from rfl]; omega⟩, h.s.R, h.s.em, fun x hx hs => ?_, fun x hx _ => ?_, by rw [show (SW.L _) = insB W.L _ from rfl, hpi.length_eq]; show W.L.length + 1 <= 100; omega⟩, hall, fun a m => ?_, fun a ha => ?_, fun a ha y hy m hm => ?_, fun a ha => ?_, ?_, ?_, ?_, ?_⟩
  · rw [(hall x hx).1] at hs; cases hs
  · rcases mem_insB.1 hx with rfl | hx
    · show (J.cls, J.noptr, J.used == J.slots, true) = _
      rw [j2, j3, j4]
    · exact h.s.sw x hx (h.all x hx).1
  · unfold Bits.set
    split
    · rfl
    · exact h.mz a m
  · have old : a ∈ As -> (0 <= a ∧ a < 18446744073709551616) ∧ ∃ id' ∈ (if i < a2 then id :: Mk else Mk), ∃ y, ∃ m : Nat, (S1.put id (bl, J)).sp id' = some y ∧ (m : Int) < y.2.slots ∧ a = y.2.base + m * y.2.elem := fun ha => by
      obtain ⟨q1, j, q2, y, m, q3, q4, q5⟩ := h.as1 a ha
      refine ⟨q1, j, ?_, y, m, (spO j (mkne j q2)).trans q3, q4, q5⟩
      split
      · exact List.mem_cons_of_mem _ q2
      · exact q2
    by_cases g : i < a2
    · rw [if_pos g] at ha
      rcases List.mem_append.1 ha with ha | ha
      · exact old ha
      · obtain ⟨m, hm, rfl⟩ := List.mem_map.1 ha
        have hm := List.mem_range.1 hm
        exact ⟨hb.2 m (by omega), id, by rw [if_pos g]; exact List.mem_cons_self, (bl, J), m, spN, by show (m : Int) < J.slots; omega, by rw [j1]⟩
    · rw [if_neg g] at ha
      exact old ha
  · have old : a ∈ Mk -> y.2.base + m * y.2.elem ∈ As := fun ha => h.as2 a ha y ((spO a (mkne a ha)).symm.trans hy) m hm
    by_cases g : i < a2
    · rw [if_pos g] at ha ⊢
      rcases List.mem_cons.1 ha with rfl | ha
      · have hy : (S1.put a (bl, J)).sp a = some y := hy
        rw [spN] at hy
        cases hy
        refine List.mem_append_right _ (List.mem_map.2 ⟨m, List.mem_range.2 (by have hm : (m : Int) < J.slots := hm; omega), by rw [j1]⟩)
      · exact List.mem_append_left _ (old ha)
    · rw [if_neg g] at ha ⊢
      exact old ha
  · have old : a ∈ Mk -> (S1.put id (bl, J)).sp a ≠ none := fun ha => by rw [spO a (mkne a ha)]; exact h.mks a ha
    by_cases g : i < a2
    · rw [if_pos g] at ha
      rcases List.mem_cons.1 ha with rfl | ha
      · show (S1.put a (bl, J)).sp a ≠ none
        rw [spN]; exact fun e => by cases e
      · exact old ha
    · rw [if_neg g] at ha
      exact old ha
  · rw [show (SW.L _) = insB W.L _ from rfl, flt_perm _ hpi]
    have hc := h.cnt
    by_cases g : i < a2
    · rw [if_pos g, if_neg (by simp)]
      have : (W.L.filter fun x => decide (x.id ∉ id :: Mk)) = W.L.filter fun x => decide (x.id ∉ Mk) := List.filter_congr fun x hx => by
        have e := hno x hx
        simp [e]
      rw [this, hc]; omega
    · rw [if_neg g, if_pos (by simpa using idMk), hc]; omega
  · show S1.pages = ((i + 1 : Nat) : Int) * _
    rw [hpg, h.pg, show ((i + 1 : Nat) : Int) = (i : Int) + 1 from rfl, Int.add_mul, Int.one_mul]
  · rw [show (SW.L _) = insB W.L _ from rfl, hpi.length_eq]
    show W.L.length + 1 = i + 1; omega
  · have := h.asl
    split
    · rw [List.length_append, List.length_map, List.length_range]; omega
    · omega
theorem FilSt.marked {W : SW} {U M : Bits} {k : Int} {np : Bool} {i a2 : Nat} {Mk As : List Int} (h : FilSt W U M k np i a2 Mk As) (hi : i <= 20) {S' : HS} (he : MwEq W.S S') (hI : SwInv { W with S := S', L := flipL W.L } U (M.mark W.S As)) :
    SwS (512 + 512 * (i : Int)) { W with S := S', L := flipL W.L } U (M.mark W.S As) k np ∧ cU { W with S := S', L := flipL W.L } (M.mark W.S As) = i - min i a2 ∧ S'.pages = W.S.pages := by
  have hmk : ∀ id m, (M.mark W.S As) id m = true ↔ ∃ a ∈ As, mkOf W.S a = some (id, m) := fun id m => by
    unfold Bits.mark
    rw [h.mz, Bool.false_or, List.any_eq_true]
    constructor
    · rintro ⟨a, ha, g⟩; exact ⟨a, ha, of_decide_eq_true g⟩
    · rintro ⟨a, ha, g⟩; exact ⟨a, ha, decide_eq_true g⟩
  have hof : ∀ a ∈ As, ∃ id ∈ Mk, ∃ m, mkOf W.S a = some (id, m) := fun a ha => by
    obtain ⟨_, id, h1, y, m, h2, h3, rfl⟩ := h.as1 a ha
    exact ⟨id, h1, m, mkOf_slot h.s.inv h2 h3⟩
  have m1 : ∀ id ∈ Mk, ∀ y, W.S.sp id = some y -> ∀ m : Nat, (m : Int) < y.2.slots -> (M.mark W.S As) id m = true := fun id hid y hy m hm => (hmk id m).2 ⟨_, h.as2 id hid y hy m hm, mkOf_slot h.s.inv hy hm⟩
  have m0 : ∀ id, id ∉ Mk -> ∀ m, (M.mark W.S As) id m = false := fun id hid m => by
    cases e : (M.mark W.S As) id m with
    | false => rfl
    | true =>
      obtain ⟨a, ha, g⟩ := (hmk id m).1 e
      obtain ⟨j, hj, m', g2⟩ := hof a ha
      rw [g] at g2
      cases g2
      exact absurd hj hid
  have hpages : S'.pages = W.S.pages := by rw [he.rest]
  obtain ⟨b, hb1, hb2⟩ := h.s.la
  have fl : ∀ z ∈ flipL W.L, ∃ x ∈ W.L, z = x.flip := fun z hz => by
    obtain ⟨x, hx, e⟩ := List.mem_map.1 hz
    exact ⟨x, hx, e.symm⟩
  have fsw : ∀ x ∈ W.L, x.flip.swept = false := fun x hx => by
    have h1 := h.s.sw x hx (h.all x hx).1
    unfold Itm.flip Itm.swept
    rw [h1]; rfl
  refine ⟨⟨hI, ⟨b, ?_, hb2⟩, h.s.R, h.s.em, fun z hz hs => ?_, fun z hz hs => ?_, by show (flipL W.L).length <= 100; unfold flipL; rw [List.length_map, h.len]; omega⟩, ?_, hpages⟩
  · have hr := he.rest
    exact hb1.sameV (by rw [show (SW.S _) = S' from rfl, hr]) (by rw [show (SW.S _) = S' from rfl, hr])
  · obtain ⟨x, hx, rfl⟩ := fl z hz
    obtain ⟨q1, y, q2, q3, q4, q5⟩ := h.all x hx
    obtain ⟨mw, q6⟩ := he.sp x.id y q2
    refine ⟨?_, _, q6, q3, q4, q5, ?_⟩
    · have h1 := h.s.sw x hx q1
      unfold Itm.flip
      rw [h1]; rfl
    · by_cases g : x.id ∈ Mk
      · exact .inl (m1 x.id g y q2)
      · exact .inr (m0 x.id g)
  · obtain ⟨x, hx, rfl⟩ := fl z hz
    rw [fsw x hx] at hs; cases hs
  · rw [<- h.cnt]
    show ((flipL W.L).filter _).length = _
    unfold flipL
    rw [List.filter_map, List.length_map]
    congr 1
    refine List.filter_congr fun x hx => ?_
    show (!x.flip.swept && !(M.mark W.S As) x.id 0) = decide (x.id ∉ Mk)
    rw [fsw x hx]
    by_cases g : x.id ∈ Mk
    · obtain ⟨q1, y, q2, _⟩ := h.all x hx
      have hok := (h.s.inv.sp x.id y q2).1.size
      rw [m1 x.id g y q2 0 (by omega)]
      simp [g]
    · rw [m0 x.id g 0]
      simp [g]
section
variable {E : Env} {w : World} {Rs Z : List Pr} {cb b h s r : Nat} (hE : EnvC E)
include hE
theorem sweeps_spec (hT : TabAt E.g_math_bits_deBruijn64tab w) {a0 a1 a2 : Int} {K : Bool -> World -> Prop} (hK : ∀ w', Ext Nothing w w' -> K true w') : F.mallowlaw19_CentralSweeps E a0 a1 a2 K w := by
  unfold F.mallowlaw19_CentralSweeps T0.mallowlaw19_CentralSweeps
  refine table_spec (Sat.start w) fun r1 w2 H2 => ?_
  have hl := H2.recLen (by decide) cls4_len
  rw [cls_len] at hl
  have hTT : ∀ {Y : List Pr} {w'} (i : Nat), Sat Y w' -> Y[i]? = some (Old w) -> TabAt E.g_math_bits_deBruijn64tab w' := fun i h hi => hT.ext (h.old i hi)
  have haw : ∀ {Y : List Pr} {w'} (i : Nat), Sat Y w' -> Y[i]? = some (Old w) -> F.mallowlaw19_awake E (fun r6 w7 => K r6 w7) w' := fun i h' hi => awake19_spec hE (fun w' h => hTT i h hi) h' fun w7 H7 => hK w7 (H7.old i hi)
  refine JOIN_intro (fun st w' => w' = w2 ∧ (st.1 = false -> 20 <= a0 ∧ a0 < 68 ∧ 1 <= a1 ∧ a1 <= 12 ∧ 0 <= a2 ∧ a2 <= 12)) (CND_dec (fun _ => ⟨rfl, fun h => by cases h⟩) fun g1 => CND_dec (fun _ => ⟨rfl, fun h => by cases h⟩) fun g2 => CND_dec (fun _ => ⟨rfl, fun h => by cases h⟩) fun g3 => CND_dec (fun _ => ⟨rfl, fun h => by cases h⟩) fun g4 => CND_dec (fun _ => ⟨rfl, fun h => by cases h⟩) fun g5 => ⟨rfl, fun h => by have := of_decide_eq_false h; omega⟩) ?_
  rintro ⟨st, u⟩ _ w5 ⟨rfl, hc⟩
  dsimp only at hc ⊢
  refine CND_intro (fun _ => CND_eq (fun _ => haw 1 H2 rfl) fun e => absurd (by omega) e) fun hst => ?_
  obtain ⟨k0, k1, c1, c2, c3, c4⟩ := hc hst
  have hk0 : 1 <= a0 := by omega
  have hcp := cls_at_pos (c := a0) (by omega) k1
  have hp16 := cls_p16 (c := a0) (by omega) k1
  obtain ⟨n1, hn1⟩ : ∃ n1 : Nat, a1 = (n1 : Int) := ⟨a1.toNat, by omega⟩
  obtain ⟨n2, hn2⟩ : ∃ n2 : Nat, a2 = (n2 : Int) := ⟨a2.toNat, by omega⟩
  obtain ⟨tx, htx⟩ := H2.recBase (by decide) cls4_len (i := a0.toNat) (by rw [cls_len]; omega)
  have hri : (0 : Int) <= a0 ∧ (a0 : Int) < (r1.len : Nat) := ⟨by omega, by omega⟩
  have hcell : ∀ {w'} {Y : List Pr} (i : Nat), Sat Y w' -> Y[i]? = some (Row E.t_api_Class 4 r1 (recs cls4 clsT)) -> w'.cell? (((Addr.mk tx 0 none).add (Int.toNat a0 * 4)).add 1) = some (.int .i64 (clsAt a0).2.1) := fun i h hi => by
    rw [add_add]; exact (h.front i hi).recCell cls4_len htx (cls_at (by omega) k1) (j := 1) rfl
  refine fresh19_nil H2 fun cb b h s r w9 H9 => CND_f rfl (cesweeper_spec H9 (swheap_spec H9.centSw ?_))
  have H10 : Sat (CentP E cb b h s r (SW.new (HS.new (newV [] [] []))) :: Row E.t_uint64 1 ⟨none, 0, 0⟩ (ints .u64 []) :: [Row E.t_api_Class 4 r1 (recs cls4 clsT), Old w]) w9 := (H9.nil E.t_uint64 1).front 1 rfl
  have hF0 : FilSt (SW.new (HS.new (newV [] [] []))) bits0 bits0 a0 false 0 n2 [] [] :=
    ⟨⟨SwInv.new [] [] [], ⟨512, LaidB.new [], by decide⟩, rfl, rfl, fun x hx => (by cases hx), fun x hx => (by cases hx), Nat.zero_le _⟩, fun x hx => (by cases hx), fun _ _ => rfl, fun a ha => (by cases ha), fun a ha => (by cases ha), fun a ha => (by cases ha), by simp [SW.new], by show (0 : Int) = ((0 : Nat) : Int) * _; simp, rfl, Nat.zero_le _⟩
  refine LOOP_intro (fun st w' => ∃ (i : Nat) (W : SW) (U M : Bits) (Mk As : List Int), st.2.1 = (i : Int) ∧ i <= n1 ∧ FilSt W U M a0 false i n2 Mk As ∧ Sat (CentP E cb b h s r W :: Row E.t_uint64 1 st.1 (ints .u64 As) :: [Row E.t_api_Class 4 r1 (recs cls4 clsT), Old w]) w') (fun st _ => (a1 - st.2.1).toNat)
    ⟨0, _, _, _, [], [], rfl, Nat.zero_le _, hF0, H10⟩ ?_
  rintro ⟨sl, i', u⟩ _ w15 ⟨i, W, U, M, Mk, As, hi, hil, hF, H15⟩
  dsimp only at hi H15 ⊢
  subst hi
  have hTz : ∀ {X : Pr} w', Sat [X, Row E.t_api_Class 4 r1 (recs cls4 clsT), Old w] w' -> TabAt E.g_math_bits_deBruijn64tab w' := fun w' h' => hTT 2 h' rfl
  refine CND_dec (fun hlt => ?_) fun hge => ?_
  · -- one more span is filled
    have hnoU : cU W M = 0 := cU_all fun x hx => (hF.all x hx).1
    refine cegetS_spec hE hTz H15 hF.s hk0 k1 (by omega) (fun W' U' M' id _ hcu => by omega) fun _ W' U' M' page S2 bl id X _ _ _ hsame hf hok hnone hI3 w19 H19 => ?_
    obtain ⟨rfl, rfl, rfl⟩ := hsame fun x hx => (hF.all x hx).1
    obtain ⟨f1, f2, f3, f4, f5⟩ := hF.s.fresh hk0 k1 (by omega) hf hok hnone hI3
    generalize S2.keep id (bl, spOf page (clsAt a0).2.1 a0 false) page (clsAt a0).2.1 X = S1 at f1 f2 f3 f4 hI3 H19
    refine swspan_spec H19.centSw (fun hn => by rw [show (SW.S _).sp id = _ from f3] at hn; cases hn) fun y hy => ?_
    rw [show (SW.S _).sp id = _ from f3] at hy
    cases hy
    refine JOIN_in (CND_f rfl fun _ => CND_f rfl ?_)
    have hsl : (spOf page (clsAt a0).2.1 a0 false).slots = (clsAt a0).2.2.1 := by show (if a0 = 0 then _ else _) = _; rw [if_neg (by omega)]
    have hel : (spOf page (clsAt a0).2.1 a0 false).elem = (clsAt a0).1 := by show (if a0 = 0 then _ else _) = _; rw [if_neg (by omega)]
    have hca := cls_at_all (c := a0) (by omega) k1
    have hself : ({ W' with S := S1 } : SW) = { W' with S := S1.put id (bl, spOf page (clsAt a0).2.1 a0 false) } := by rw [show S1.put id (bl, spOf page (clsAt a0).2.1 a0 false) = S1 from HS.put_self f3]
    refine LOOP_ix (fun n st w' => ∃ (j : Nat) (J : SI), n = 1100 - j ∧ (j : Int) <= (clsAt a0).2.2.1 ∧ J.base = page * 8192 ∧ J.elem = (clsAt a0).1 ∧ J.slots = (clsAt a0).2.2.1 ∧ J.cls = a0 ∧ J.noptr = false ∧
      SwInv { W' with S := S1.put id (bl, J) } (U'.set id fun m => decide (m < j)) (M'.set id none1) ∧ Sat (CentP E cb b h s r { W' with S := S1.put id (bl, J) } :: Row E.t_uint64 1 st.1 (ints .u64 (if i < n2 then As ++ (List.range j).map (fun (m : Nat) => page * 8192 + (m : Int) * (clsAt a0).1) else As)) :: [Row E.t_api_Class 4 r1 (recs cls4 clsT), Old w]) w') 1100
      ⟨0, spOf page (clsAt a0).2.1 a0 false, rfl, by show (0 : Int) <= _; omega, rfl, hel, hsl, rfl, rfl, by rw [<- hself, show (fun m => decide (m < 0)) = none1 by funext m; simp [none1]]; exact hI3, by rw [<- hself]; simpa using H19⟩ ?_
    rintro n ⟨s26, u⟩ _ w27 ⟨j, J, rfl, hjs, j1, j2, j3, j4, j5, hI4, H27⟩
    dsimp only at H27 ⊢
    have hspJ : ({ W' with S := S1.put id (bl, J) } : SW).S.sp id = some (bl, J) := HS.put_sp
    obtain ⟨hokJ, hgJ⟩ := hI4.sp id _ hspJ
    have hokJ : SpOk J := hokJ
    have hslen := (H27.front 1 rfl).rowLen
    simp only [ints, List.length_map, Nat.mul_one] at hslen
    have hasl := hF.asl
    have hsl2 : s26.len <= 20 * 1024 + 1024 := by
      rw [<- hslen]
      split
      · rw [List.length_append, List.length_map, List.length_range]; omega
      · omega
    refine swslot_spec (x := (bl, J)) (by intro w' h'; exact hTT 3 h' rfl) H27.centSw hI4 hspJ (fun hall w31 H31 => CND_t rfl ?_) fun n uw' hn hu hlow hI5 w31 H31 => CND_f rfl ?_
    · -- full: it goes back
      have hfull := full_ofC hgJ hall
      refine ceback_spec hE H31.swCent hI4 (by show W'.L.length < _; have := hF.len; omega) (fun hn => by rw [hspJ] at hn; cases hn) (fun _ ⟨x, hx, e⟩ => absurd e (f5 x hx)) fun y hy _ blk hI6 w33 H33 => CND_f rfl ?_
      rw [hspJ] at hy
      cases hy
      have hj : (j : Int) = (clsAt a0).2.2.1 := by
        rcases Int.lt_or_eq_of_le hjs with g | g
        · have := hall j (by show (j : Int) < J.slots; rw [j3]; exact g)
          rw [Bits.set_at] at this
          exact absurd (of_decide_eq_true this) (Nat.lt_irrefl j)
        · exact g
      have hJs : J.slots.toNat = j := by omega
      have hba := hokJ.ba
      have hnx := hF.next (by omega) (bl := bl) (blk := blk) (J := J) (base := page * 8192) (U2 := U'.set id fun m => decide (m < j)) f1 f2 f4 f5 hnone j1 j4 j5 (by rw [show J.used = J.slots from hfull]; simp) (by rw [j3]; omega) hall (fun q hq => by unfold Bits.set; rw [if_neg hq]) ⟨by rw [<- j1]; exact hba.1, fun m hm => by
        have := slot_inC hokJ hm
        have hz := hokJ.size
        rw [<- j1]; omega⟩ hI6 (by rw [j3]; omega)
      rw [hJs, j2] at hnx
      rw [show i64 ((i : Int) + 1) = ((i + 1 : Nat) : Int) by rw [i64_id (by omega) (by omega)]; rfl]
      exact ⟨⟨i + 1, _, _, _, _, _, rfl, by omega, hnx, H33⟩, by omega⟩
    · -- one more slot
      have hnj : n = j := by
        rw [Bits.set_at] at hu
        have h1 : ¬ n < j := of_decide_eq_false hu
        rcases Nat.lt_or_ge j n with g | g
        · have := hlow j g
          rw [Bits.set_at] at this
          exact absurd (of_decide_eq_true this) (Nat.lt_irrefl j)
        · omega
      subst hnj
      have hn : (n : Int) < J.slots := hn
      rw [show ({ W' with S := S1.put id (bl, J) } : SW).S.put id (bl, { J with uw := uw', used := J.used + 1, look := (n : Int) + 1 }) = S1.put id (bl, { J with uw := uw', used := J.used + 1, look := (n : Int) + 1 }) from HS.put_put _ _ _ _] at hI5 H31
      have eU : ((U'.set id fun m => decide (m < n)).set id fun i => (U'.set id fun m => decide (m < n)) id i || i == n) = U'.set id fun m => decide (m < n + 1) := by
        funext q
        unfold Bits.set
        by_cases e : q = id
        · rw [if_pos e, if_pos e]
          funext m
          rw [if_pos rfl]
          by_cases g : m = n
          · subst g; simp
          · rw [show (m == n) = false by simpa using g, Bool.or_false]
            by_cases g2 : m < n
            · rw [decide_eq_true g2, decide_eq_true (by omega)]
            · rw [decide_eq_false g2, decide_eq_false (by omega)]
        · rw [if_neg e, if_neg e, if_neg e]
      rw [eU] at hI5
      have hspJ2 : ({ W' with S := S1.put id (bl, { J with uw := uw', used := J.used + 1, look := (n : Int) + 1 }) } : SW).S.sp id = some (bl, { J with uw := uw', used := J.used + 1, look := (n : Int) + 1 }) := HS.put_sp
      refine swslotaddr_spec H31 hI5 hspJ2 (by omega) hn fun w36 H36 => ?_
      dsimp only
      rw [j1, j2]
      have hbd : 1100 - (n + 1) < 1100 - n := by omega
      refine CND_dec (fun g => ?_) fun g => ?_
      · refine AL_cells (vs := [.int .u64 (page * 8192 + n * (clsAt a0).1)]) H36.swCent fun b37 w38 H38 _ => ?_
        refine APP_one (zs := #[.int .u64 0]) (bytes := 8) (H38.front2 1 rfl) rfl rfl (by simp [Value.oneCell']) (by omega) (by omega) fun s39 w40 H40 hs39 => ?_
        refine ⟨_, hbd, n + 1, { J with uw := uw', used := J.used + 1, look := (n : Int) + 1 }, rfl, by omega, j1, j2, j3, j4, j5, hI5, ?_⟩
        have g' : i < n2 := by omega
        rw [if_pos g'] at H40 ⊢
        have e : ints .u64 (As ++ (List.range n).map fun (m : Nat) => page * 8192 + (m : Int) * (clsAt a0).1) ++ [.int .u64 (page * 8192 + n * (clsAt a0).1)] = ints .u64 (As ++ (List.range (n + 1)).map fun (m : Nat) => page * 8192 + (m : Int) * (clsAt a0).1) := by simp [ints, List.range_succ]
        rw [e] at H40
        exact H40.front 1 rfl
      · refine ⟨_, hbd, n + 1, { J with uw := uw', used := J.used + 1, look := (n : Int) + 1 }, rfl, by omega, j1, j2, j3, j4, j5, hI5, ?_⟩
        have g' : ¬ i < n2 := by omega
        rw [if_neg g']
        have := H36.swCent
        rw [if_neg g'] at this
        exact this
  · -- the marking
    obtain rfl : i = n1 := by omega
    have hrl := (H15.front 1 rfl).rowLen
    simp only [ints, List.length_map, Nat.mul_one] at hrl
    have hasl := hF.asl
    refine cesweeper_spec H15 (swmark_spec hE.toEnvW H15.centSw hF.s.inv (as_ := As) (fun w' h' => by have := (h'.front 1 rfl).rowAll; rwa [Nat.mul_one] at this) hrl (by omega) (fun a ha => (hF.as1 a ha).1) (fun hpos => ?_) fun _ S' he hI2 w44 H44 => CND_f rfl ?_)
    · exfalso
      have : cntS W.L false = 0 := by
        show (W.L.filter _).length = 0
        rw [List.length_eq_zero_iff, List.filter_eq_nil_iff]
        intro x hx
        rw [(hF.all x hx).1]; simp
      omega
    obtain ⟨hS, hcu, hpg⟩ := hF.marked (by omega) he hI2
    have hpg0 := hF.pg
    rw [<- hpg] at hpg0
    generalize hWg : ({ W with S := S', L := flipL W.L } : SW) = W3 at hS hcu hI2 H44
    have hpg3 : W3.S.pages = (i : Int) * (clsAt a0).2.1 := by rw [<- hWg]; exact hpg0
    clear hWg hpg0 hpg
    have hsmall : 0 <= (i : Int) * (clsAt a0).2.1 ∧ (i : Int) * (clsAt a0).2.1 <= 12 * 16 := ⟨Int.mul_nonneg (by omega) (by omega), Int.mul_le_mul (by omega) hp16 (by omega) (by omega)⟩
    refine swpages_spec H44 hI2 fun w48 H48 => ?_
    rw [hpg3]
    have e12 : i64 (a1 - a2) = a1 - a2 := i64_id (by omega) (by omega)
    rw [e12]
    refine JOIN_intro (fun st w' => w' = w48 ∧ st.1 = ((i - min i n2 : Nat) : Int)) (CND_dec (fun g => ⟨rfl, by show (0 : Int) = _; omega⟩) fun g => ⟨rfl, by show a1 - a2 = _; omega⟩) ?_
    rintro ⟨q50, u⟩ _ w51 ⟨rfl, h50⟩
    dsimp only at h50 ⊢
    subst h50
    refine AL_map H48.swCent .i64 fun b52 w53 H53 _ => ?_
    have H54 : Sat (CentP E cb b h s r W3 :: MapF b52 .i64 (fun _ => none) :: Row E.t_uint64 1 sl (ints .u64 As) :: [Row E.t_api_Class 4 r1 (recs cls4 clsT), Old w]) w53 := H53.front 1 rfl
    have hTy : ∀ {X Y : Pr} w', Sat [X, Y, Row E.t_api_Class 4 r1 (recs cls4 clsT), Old w] w' -> TabAt E.g_math_bits_deBruijn64tab w' := fun w' h' => hTT 3 h' rfl
    refine LOOP_intro (fun st w' => ∃ (t : Nat) (W : SW) (U M : Bits) (g : Int -> Option Value), st.1 = (t : Int) ∧ t + cU W M = i - min i n2 ∧ SwS (512 + 512 * (i : Int)) W U M a0 false ∧ W.S.pages = (i : Int) * (clsAt a0).2.1 ∧ (∀ id v, g id = some v -> v = .bool true ∧ W.S.sp id ≠ none ∧ ∀ x ∈ W.L, x.id ≠ id) ∧
      Sat (CentP E cb b h s r W :: MapF b52 .i64 g :: Row E.t_uint64 1 sl (ints .u64 As) :: [Row E.t_api_Class 4 r1 (recs cls4 clsT), Old w]) w') (fun st _ => (100 - st.1).toNat)
      ⟨0, W3, U, _, _, rfl, by omega, hS, hpg3, fun id v hv => (by cases hv), H54⟩ ?_
    rintro ⟨t', u⟩ _ w55 ⟨t, W4, U4, M4, g, ht, hct, hS4, hp4, hg, H55⟩
    dsimp only at ht ⊢
    subst ht
    refine CND_dec (fun hlt => ?_) fun hge2 => ?_
    · refine cegetS_spec hE hTy H55 hS4 hk0 k1 (by omega) (fun W5 U5 M5 id h1 h2 h3 h4 h5 h6 w59 H59 => ?_) fun h0 => by omega
      obtain ⟨y, hy, hy0⟩ := h6
      have hgn : g id = none := by
        cases e : g id with
        | none => rfl
        | some v =>
          obtain ⟨x, hx, hxe⟩ := h4
          exact absurd hxe ((hg id v e).2.2 x hx)
      refine swspan_spec H59.centSw (fun hn => by rw [hy] at hn; cases hn) fun y' hy' => ?_
      rw [hy] at hy'
      cases hy'
      refine JOIN_in (CND_f rfl (CND_f rfl (LKP_sl (H59.front 1 rfl) fun es _ => ⟨false, by rw [hgn]; rfl, CND_f rfl ?_⟩)))
      refine swinfo_spec H59.centSw hy fun w80 H80 => fun _ => CND_f (by rw [hy0]; rfl) ?_
      refine MUPD_sl (H80.swCent.front 1 rfl) fun w81 H81 => ?_
      rw [show i64 ((t : Int) + 1) = ((t + 1 : Nat) : Int) by rw [i64_id (by omega) (by omega)]; rfl]
      refine ⟨⟨t + 1, W5, U5, M5, fun j => if j = id then some (.bool true) else g j, rfl, by omega, h1, by rw [h3.1]; exact hp4, fun j v hv => ?_, H81.front 1 rfl⟩, by omega⟩
      dsimp only at hv
      by_cases e : j = id
      · rw [if_pos e] at hv
        cases hv
        exact ⟨rfl, by rw [e, hy]; exact (fun h => by cases h), by rw [e]; exact h5⟩
      · rw [if_neg e] at hv
        obtain ⟨q1, q2, q3⟩ := hg j v hv
        refine ⟨q1, fun hn => q2 ((h3.2.1 j).1 hn), fun x hx hxe => ?_⟩
        obtain ⟨z, hz, hze⟩ := h3.2.2 x hx
        exact q3 z hz (hze.trans hxe)
    · refine swpages_spec H55.centSw hS4.inv fun w85 H85 => ?_
      rw [hp4]
      refine CND_f (by simp) ?_
      refine cegetS_spec hE hTy H85.swCent hS4 hk0 k1 (by omega) (fun W5 U5 M5 id h1 h2 => by omega) fun h0 W5 U5 M5 page S2 bl id X h1 _ h3 _ hf hok hnone hI3 w88 H88 => ?_
      obtain ⟨_, f2, _⟩ := h1.fresh hk0 k1 (by omega) hf hok hnone hI3
      refine swpages_spec H88.centSw hI3 fun w92 H92 => ?_
      have hgn : g id = none := by
        cases e : g id with
        | none => rfl
        | some v => exact absurd ((h3.2.1 id).1 hnone) (hg id v e).2.1
      refine CND_t rfl (LKP_sl (H92.swCent.front 1 rfl) fun es _ => ⟨false, by rw [hgn]; rfl, CND_t rfl ?_⟩)
      rw [htx]
      refine NC_in ⟨hri, _, hcell 3 H92.swCent rfl, ?_⟩
      have e1 : u64 (clsAt a0).2.1 = (clsAt a0).2.1 := u64_id (by omega) (by omega)
      have e2 : u64 ((i : Int) * (clsAt a0).2.1 + (clsAt a0).2.1) = (i : Int) * (clsAt a0).2.1 + (clsAt a0).2.1 := u64_id (by omega) (by omega)
      rw [e1, e2, show (SW.S _).pages = _ from f2, h3.1, hp4]
      exact CND_t (by simp) (haw 4 H92.swCent rfl)
end
end Go.Sh

namespace Go.Proofs.YtnkkjmcimhjnhaaGreatDoor.centralSweeps
open Go.ChangeShapes Go.WideShapes Go.ChangeAt Go.RowKit
set_option linter.unusedVariables false
set_option linter.unusedSimpArgs false
theorem own : ownKnob Tryz.prog.godebug = none := by kernel_rfl
theorem laidOut : laidOutB Tryz.prog = true := by kernel_rfl
theorem gTab : Tryz.prog.globalNamed "math/bits.deBruijn64tab" = some 0 := by kernel_rfl
theorem gTabType : (Tryz.prog.globals[0]?).map (·.type) = some 192 := by kernel_rfl
theorem und1 : Tryz.prog.underlying 192 = some (.array 64 5) := by kernel_rfl
theorem und2 : Tryz.prog.underlying 5 = some (.int .u8) := by kernel_rfl
theorem cells1 : Tryz.prog.cellsOf 192 = 64 := by kernel_rfl
theorem cells2 : Tryz.prog.cellsOf 5 = 1 := by kernel_rfl
theorem table {W : World} (h : laidMetH Tryz.prog Rows.centralSweepsRow.laid W) : Go.Sh.TabAt Go.Sh.env.g_math_bits_deBruijn64tab W := by
  have ht := Lib.tabIs_of_head (rest := []) (k := .u8) (zs := Lib.deBruijn64tab.map fun n : Nat => (n : Int)) gTab gTabType und1 und2 cells2 cells1 h
  intro i hi
  have := ht.cell gTab i (by rw [List.length_map]; exact hi)
  rw [show (Lib.deBruijn64tab.map fun n : Nat => (n : Int)).getD i 0 = ((Lib.deBruijn64tab.getD i 0 : Nat) : Int) by rw [List.getD_eq_getElem?_getD, List.getD_eq_getElem?_getD, List.getElem?_map]; cases Lib.deBruijn64tab[i]? <;> rfl] at this
  exact this
theorem walk (x : Go.Sh.ArgTs [.int .i64, .int .i64, .int .i64]) (w : World) (h : Go.Sh.argOks w [.int .i64, .int .i64, .int .i64] x) (hT : Go.Sh.TabAt Go.Sh.env.g_math_bits_deBruijn64tab w) :
    Calls Tryz.prog 4 ⟨Go.Sh.argVals [.int .i64, .int .i64, .int .i64] x⟩ w fun e w' => e = .returned (.bool true) ∧ Below w.heap.size w w' := by
  obtain ⟨a0, a1, a2, u⟩ := x
  obtain ⟨w0, w1, w2, _⟩ := h
  refine (Go.Sh.fits4 _ w (fun v w' => v = .bool true ∧ Below w.heap.size w w') Go.Sh.noP ?_).2.mono ?_
  · show Go.Sh.F.mallowlaw19_CentralSweeps Go.Sh.env a0 a1 a2 (fun r w' => Value.bool r = .bool true ∧ Below w.heap.size w w') w
    exact Go.Sh.sweeps_spec Go.Sh.envC hT fun w' h => ⟨rfl, h.below (Nat.le_refl _) fun _ f => f.elim⟩
  · intro e w' hE
    obtain ⟨v, rfl, rfl, h⟩ := hE.val
    exact ⟨rfl, h⟩
noncomputable def laidWorld (os : Os) : World :=
  { World.holding Tryz.prog os ⟨#[], #[], []⟩ with heap := (World.holding Tryz.prog os ⟨#[], #[], []⟩).heap.modify 0 fun
      | .cells _ t frozen => .cells ⟨Lib.deBruijn64tab.map fun n : Nat => .int .u8 (n : Int)⟩ t frozen
      | o => o }
theorem laid_met (os : Os) : laidMet Tryz.prog Rows.centralSweepsRow.laid ((laidWorld os).forCall (fun _ _ => 0) ⟨#[], #[.int .i64 0, .int .i64 0, .int .i64 0], []⟩).memory :=
  laidMet_of_run' 8 (by kernel_rfl) (by kernel_rfl)
theorem reads (os : Os) {H : Type} (enc : TypeId × Value -> H) : ∃ places, DataW.whole enc Tryz.prog ((laidWorld os).forCall (fun _ _ => 0) ⟨#[], #[.int .i64 0, .int .i64 0, .int .i64 0], []⟩).memory Tryz.f4.params.toList Rows.centralSweepsSpec.vars false (#[.int .i64 0, .int .i64 0, .int .i64 0] : Array Value).toList 8 = some ([.lit (.int .i64 0), .lit (.int .i64 0), .lit (.int .i64 0)], [], places) :=
  ⟨[], by kernel_rfl⟩
set_option maxRecDepth 100000 in
theorem lifted (os : Os) (started : os.Started) (H : Type) (enc : TypeId × Value -> H) (F : Stop.Interp) :
    ReturnsInHanded {} Tryz.checked os 4 .any ((OpenSpec.ofChange Rows.centralSweepsSpec).preRow enc Tryz.prog Tryz.f4 Rows.centralSweepsRow.domain false Rows.centralSweepsRow.laid) (((OpenSpec.ofChange Rows.centralSweepsSpec).at F).post enc Tryz.prog Tryz.f4 false true false false) := by
  obtain ⟨places, hx⟩ := reads os enc
  refine returnsInHanded_of_row (C := Tryz.checked) (s := OpenSpec.ofChange Rows.centralSweepsSpec) own started (by kernel_rfl) Tryz.func4
    (witness_row_at (enc := enc) (C := Tryz.checked) false (laidWorld os) #[.int .i64 0, .int .i64 0, .int .i64 0] rfl (by kernel_rfl) (by kernel_rfl) (by kernel_rfl)
      (OpenSpec.preRow_of_cond 8 hx (by kernel_rfl) (fun k hk => by cases hk) (by kernel_rfl) (laid_met os))) ?_
  intro W base args ds gs before hval0 hW _ _ _ hL _ _
  have hW' := hW
  obtain ⟨p, q, hA, hV, rfl, hfz, hnd⟩ := hW
  obtain ⟨rfl, rfl⟩ := trodVars_none hV
  have hargs := Go.Sh.args_of (P := Tryz.prog) (shs := [.int .i64, .int .i64, .int .i64]) (by kernel_rfl) (fun j t v ht hv => hval0 j t v (by simpa using ht) (by simpa using hv)) hA
  obtain ⟨x, hx, hok⟩ := Go.Sh.argVals_of hargs
  obtain rfl : args = ⟨Go.Sh.argVals [.int .i64, .int .i64, .int .i64] x⟩ := Array.toList_inj.1 (by simpa using hx)
  have hlen := Go.Sh.trodAll_len hA
  obtain ⟨d0, d1, d2, rfl⟩ : ∃ d0 d1 d2, ds = [d0, d1, d2] := by
    have hl : ds.length = 3 := hlen
    match ds, hl with
    | [d0, d1, d2], _ => exact ⟨d0, d1, d2, rfl⟩
  refine (walk x W hok (table hL)).mono fun e W' ⟨he, bel⟩ => ?_
  subst he
  exact ⟨_, rfl, _, _, _, [], _, [], hW', trodAll_mk1 (shut_bool Tryz.underlying4 _), Go.Sh.trodAll_below laidOut bel (by kernel_rfl) hA, rfl, bel.frame _, fun h => by cases h⟩
theorem said : Rows.CentralSweepsSaid :=
  OpenClaim.holds_of_cond 4 Tryz.f4 rfl rfl rfl rfl rfl rfl rfl ⟨rfl, rfl, rfl, rfl, rfl⟩ rfl rfl rfl rfl rfl (by kernel_rfl) Tryz.func4 (by kernel_rfl)
    (of_decide_eq_true (by kernel_rfl)) (by unfold Func.isWrapper; first | (rw [if_pos (by decide +kernel)]; kernel_rfl) | (rw [if_neg (by decide +kernel)]; exact ⟨rfl, rfl⟩))
    (fun os started H enc _ F => by rw [OpenClaim.pre_eq_preRow]; exact lifted os started H enc F)
theorem plain (f : FuncId) (fn : Func) (hf : Tryz.pinned.checked.prog.funcNamed "mallow/mallowlaw19.CentralSweeps" = some f) (hfn : Tryz.pinned.checked.prog.funcs[f]? = some fn) :
    true = Tryz.pinned.checked.prog.looks [] ∧ ∀ (j : Nat) t, fn.params[j]? = some t -> Tryz.pinned.checked.prog.wantsStandIn t = false := by
  obtain rfl : f = 4 := Option.some.inj ((show Tryz.prog.funcNamed "mallow/mallowlaw19.CentralSweeps" = some 4 by kernel_rfl).symm.trans hf) |>.symm
  obtain rfl : fn = Tryz.f4 := (Option.some.inj (Tryz.func4.symm.trans hfn)).symm
  refine ⟨by kernel_rfl, fun j t ht => ?_⟩
  have hall : (Tryz.f4.params.toList.all fun t => !(Tryz.prog.wantsStandIn t)) = true := by kernel_rfl
  have := List.all_eq_true.1 hall t (Array.mem_toList_iff.2 (Array.mem_of_getElem? ht))
  exact Bool.not_eq_true' _ ▸ this
theorem proved : Rows.CentralSweepsCardSaid :=
  Claim7.holds_tied_plain_at .later [] _ _ _ _ said (fun _ h => by cases h) (by kernel_rfl) (fun _ h => by cases h) centralSweeps_row_tie rfl ⟨rfl, rfl⟩ (by kernel_rfl) rfl plain (by kernel_rfl)
#print axioms proved
end Go.Proofs.YtnkkjmcimhjnhaaGreatDoor.centralSweeps
