/- The law VmemStates holds: for every input the Go function returns true and leaves its arguments alone. No further condition. -/
import Derived.Test.YtelbllakgljffaaV
import Derived.Test.YtelbllakgljffaaT
import Derived.Test.YtelbllakgljffaaA
import Derived.Test.YtelbllakgljffaaRows
import Derived.WalkKit
import Derived.ProofKit
import Derived.OpenShut
set_option linter.all false
set_option maxRecDepth 40000
set_option maxHeartbeats 4000000
namespace Go.Sh

theorem mem_one {a b p : Int} : mem [(a, b)] p ↔ a ≤ p ∧ p < b := by
  rw [mem_cons]
  have := mem_nil p
  simp only [this, or_false]

section
variable {E : Env} {b : Nat} {V : VS} {Rs : List Pr} {w : World}

theorem placed_nil {hint pages a : Int} (h : Placed [] hint pages a) (hh : hint ≤ 512) : a = 512 := by
  have h1 := h.low
  by_cases e : 512 < a
  · obtain ⟨m, _, _, h4⟩ := h.first 512 (by decide) (by decide) hh e
    exact absurd h4 (mem_nil _)
  · omega

theorem vcount_spec (H : Sat (VmemP E b V :: Rs) w) {k : Int} {K : Int → World → Prop}
    (hK : ∀ w', Sat (VmemP E b V :: Rs) w' → K (if k = 2 then tot V.ready else if k = 3 then tot V.rel else if k = 1 then tot V.laid - tot V.ready - tot V.rel else 0) w') :
    F.vmem_Mem_Count E (some ⟨b, 0, none⟩) k K w := countS_spec H (fun w' hw' => hK w' (H.nothing hw')) H.vok.sums

variable (hE : EnvS E)
include hE

theorem vstate_spec (H : Sat (VmemP E b V :: Rs) w) {x : Int} (h0 : 0 ≤ x) {K : Int → World → Prop}
    (hK : ∀ w', Sat (VmemP E b V :: Rs) w' → K (if inL V.laid x then if inL V.ready x then 2 else if inL V.rel x then 3 else 1 else 0) w') : F.vmem_Mem_State E (some ⟨b, 0, none⟩) x K w :=
  stateS_spec hE H h0 fun w' hw' => hK w' (H.nothing hw')

/-- The first pages that are reserved, with nothing said of places. -/
theorem reserve_first (H : Sat (VmemP E b V :: Rs) w) (hl : V.laid = []) (hp : V.pl = []) (hr : ∀ r, V.rf ≠ true :: r) {K : Int → Int → World → Prop}
    (hK : ∀ w', Sat (VmemP E b { V with rf := V.rf.tail, laid := [(512, 1024)] } :: Rs) w' → K 512 0 w') : F.vmem_Mem_Reserve E (some ⟨b, 0, none⟩) 0 512 K w := by
  refine reserve_spec hE H (by decide) (by decide) (by decide) (by decide) (fun h => by omega) (fun _ r h => absurd h (hr r)) (fun _ _ hu => ?_) fun _ _ a hc w' H' => ?_
  · exfalso
    obtain ⟨_, h | ⟨a, h1, h2⟩, _⟩ := hu
    · omega
    · rw [hl] at h1
      have := placed_nil h1 (by decide)
      omega
  · have ha : a = 512 := by
      rcases hc with ⟨p, r, h1, _⟩ | ⟨_, ⟨_, h1, _⟩ | ⟨_, _, h1, _⟩⟩
      · rw [hp] at h1; cases h1
      · rw [hl] at h1; exact placed_nil h1 (by decide)
      · rw [hl] at h1; exact placed_nil h1 (by decide)
    subst ha
    have e1 : addL V.laid 512 (512 + 512) = [(512, 1024)] := by rw [hl, addL_nil]; rfl
    have e2 : V.pl.tail = V.pl := by rw [hp]; rfl
    rw [e1, e2] at H'
    exact hK w' H'

/-- Pages that are not ready yet are made so: no refusal. -/
theorem commit_ok (H : Sat (VmemP E b V :: Rs) w) {page pages : Int} (h0 : 0 ≤ page) (p0 : 0 < pages) (p1 : page + pages ≤ 34359738368) (hl : ∀ p, page ≤ p → p < page + pages → mem V.laid p) (hn : ∃ p, page ≤ p ∧ p < page + pages ∧ ¬ mem V.ready p)
    (hr : ∀ r, V.rf ≠ true :: r) {K : Int → World → Prop} (hK : ∀ w', Sat (VmemP E b (commitV V page pages) :: Rs) w' → K 0 w') : F.vmem_Mem_Commit E (some ⟨b, 0, none⟩) page pages K w := by
  have hv := H.vok
  have c1 : cnt V.laid page (page + pages) = pages := by have := (cnt_full hv.ok1 (a := page) (b := page + pages) (by omega)).2 hl; omega
  have c2 : cnt V.ready page (page + pages) ≠ pages := fun h => by
    obtain ⟨p, h1, h2, h3⟩ := hn
    exact h3 ((cnt_full hv.ok2 (a := page) (b := page + pages) (by omega)).1 (by omega) p h1 h2)
  refine commit_spec hE H h0 (by omega) (by omega) (by omega) (fun h => absurd ⟨by omega, p1⟩ h) (fun _ h => absurd c1 h) (fun _ _ h => absurd h c2) (fun _ _ _ r h => absurd h (hr r)) fun _ _ _ _ w' H' => hK w' H'

theorem commit_again (H : Sat (VmemP E b V :: Rs) w) {page pages : Int} (h0 : 0 ≤ page) (p0 : 0 < pages) (p1 : page + pages ≤ 34359738368) (hn : ∀ p, page ≤ p → p < page + pages → mem V.ready p)
    {K : Int → World → Prop} (hK : ∀ w', Sat (VmemP E b V :: Rs) w' → K 0 w') : F.vmem_Mem_Commit E (some ⟨b, 0, none⟩) page pages K w := by
  have hv := H.vok
  have c1 : cnt V.laid page (page + pages) = pages := by have := (cnt_full hv.ok1 (a := page) (b := page + pages) (by omega)).2 fun p h1 h2 => hv.rl p (hn p h1 h2); omega
  have c2 : cnt V.ready page (page + pages) = pages := by have := (cnt_full hv.ok2 (a := page) (b := page + pages) (by omega)).2 hn; omega
  refine commit_spec hE H h0 (by omega) (by omega) (by omega) (fun h => absurd ⟨by omega, p1⟩ h) (fun _ h => absurd c1 h) (fun _ _ _ w' hw' => hK w' (H.nothing hw')) (fun _ _ h => absurd c2 h) fun _ _ h => absurd c2 h

theorem commit_refused (H : Sat (VmemP E b V :: Rs) w) {page pages : Int} (h0 : 0 ≤ page) (p0 : 0 < pages) (p1 : page + pages ≤ 34359738368) (hl : ∀ p, page ≤ p → p < page + pages → mem V.laid p) (hn : ∃ p, page ≤ p ∧ p < page + pages ∧ ¬ mem V.ready p)
    {r : List Bool} (hr : V.rf = true :: r) {K : Int → World → Prop} (hK : ∀ w', Sat (VmemP E b { V with rf := r } :: Rs) w' → K 13 w') : F.vmem_Mem_Commit E (some ⟨b, 0, none⟩) page pages K w := by
  have hv := H.vok
  have c1 : cnt V.laid page (page + pages) = pages := by have := (cnt_full hv.ok1 (a := page) (b := page + pages) (by omega)).2 hl; omega
  have c2 : cnt V.ready page (page + pages) ≠ pages := fun h => by
    obtain ⟨p, h1, h2, h3⟩ := hn
    exact h3 ((cnt_full hv.ok2 (a := page) (b := page + pages) (by omega)).1 (by omega) p h1 h2)
  refine commit_spec hE H h0 (by omega) (by omega) (by omega) (fun h => absurd ⟨by omega, p1⟩ h) (fun _ h => absurd c1 h) (fun _ _ h => absurd h c2) (fun _ _ _ r' h w' H' => ?_) fun _ _ _ h => absurd hr (h r)
  rw [hr] at h; cases h
  exact hK w' H'

theorem release_ok (H : Sat (VmemP E b V :: Rs) w) {page pages : Int} (h0 : 0 ≤ page) (p0 : 0 < pages) (p1 : page + pages ≤ 34359738368) (hn : ∀ p, page ≤ p → p < page + pages → mem V.ready p)
    {K : Int → World → Prop} (hK : ∀ w', Sat (VmemP E b (releaseV V page pages) :: Rs) w' → K 0 w') : F.vmem_Mem_Release E (some ⟨b, 0, none⟩) page pages K w := by
  have hv := H.vok
  have c2 : cnt V.ready page (page + pages) = pages := by have := (cnt_full hv.ok2 (a := page) (b := page + pages) (by omega)).2 hn; omega
  exact release_spec hE H h0 (by omega) (by omega) (by omega) (fun h => absurd ⟨by omega, p1⟩ h) (fun _ h => absurd c2 h) fun _ _ w' H' => hK w' H'

theorem vnew_nil (H : Sat Rs w) {K : Option Addr → World → Prop} (hK : ∀ b w', Sat (VmemP E b (newV [] [] []) :: Rs) w' → K (some ⟨b, 0, none⟩) w') : F.vmem_New E ⟨none, 0, 0⟩ ⟨none, 0, 0⟩ ⟨none, 0, 0⟩ K w :=
  vnew_spec (a0 := ⟨none, 0, 0⟩) (a1 := ⟨none, 0, 0⟩) (a2 := ⟨none, 0, 0⟩) H (pl := []) (rf := []) (fl := []) (by simp) (fun _ _ => show ([] : List Value) = [] from rfl) rfl (by decide) (fun _ _ => show ([] : List Value) = [] from rfl) rfl (by decide) (fun _ _ => show ([] : List Value) = [] from rfl) rfl (by decide) hK

theorem vawake_spec (H : Sat Rs w) {K : Bool → World → Prop} (hK : ∀ w', Sat Rs w' → K true w') : F.mallowlaw3_awake E K w := by
  unfold F.mallowlaw3_awake
  refine vnew_nil hE H fun b w2 H2 => CND_f rfl ?_
  refine reserve_first hE H2 rfl rfl (fun r h => by cases h) fun w5 H5 => ?_
  refine commit_ok hE H5 (by decide) (by decide) (by decide) (fun p h1 h2 => mem_one.2 ⟨by omega, by omega⟩) ⟨512, by decide, by decide, mem_nil _⟩ (fun r h => by cases h) fun w7 H7 => ?_
  refine store_spec hE H7 (by decide) (by decide) fun w9 H9 => ?_
  refine load_spec hE H9 (by decide) (by decide) fun w12 H12 => ?_
  have hr : (storeV (commitV { newV [] [] [] with rf := [], laid := [(512, 1024)] } 512 1) 4194304 5).ready = [(512, 513)] := by decide
  refine release_ok hE H12 (by decide) (by decide) (by decide) (fun p h1 h2 => ?_) fun w14 H14 => ?_
  · exact (by rw [show (newV [] [] []).rf.tail = [] from rfl]; rw [hr]; exact mem_one.2 ⟨by omega, by omega⟩)
  refine CND_t rfl (CND_t rfl (CND_t rfl (CND_t (by decide) (CND_t (by decide) (CND_t (by decide) (CND_t rfl ?_))))))
  refine vstate_spec hE H14 (by decide) fun w16 H16 => CND_t (by decide) (vcount_spec H16 fun w18 H18 => ?_)
  have : tot (releaseV (storeV (commitV { newV [] [] [] with rf := [], laid := [(512, 1024)] } 512 1) 4194304 5) 512 1).laid - tot (releaseV (storeV (commitV { newV [] [] [] with rf := [], laid := [(512, 1024)] } 512 1) 4194304 5) 512 1).ready - tot (releaseV (storeV (commitV { newV [] [] [] with rf := [], laid := [(512, 1024)] } 512 1) 4194304 5) 512 1).rel = 511 := by decide
  rw [if_neg (by decide), if_neg (by decide), if_pos rfl]
  have e : (newV [] [] []).rf.tail = [] := rfl
  rw [e, this]
  exact hK w18 H18.tail

end
end Go.Sh

set_option linter.all false
set_option maxRecDepth 40000
set_option maxHeartbeats 4000000
namespace Go.Sh

def argL {α : Type} (n : Nat) (z : Nat → α) : List α := (List.range n).map z
theorem argL_len {α : Type} (n : Nat) (z : Nat → α) : (argL n z).length = n := by simp [argL]
theorem argL_get {α : Type} {n i : Nat} (z : Nat → α) (hi : i < n) : (argL n z)[i]? = some (z i) := by simp [argL, hi]

theorem rowAt_arg {w : World} {k : IntKind} {ok : Int → Prop} {s : SlV} {z : Nat → Int} (h : RowG w (.int k) ok s z) : rowAt w s.base s.len (ints k (argL s.len z)) := by
  cases hb : s.base with
  | none =>
    have : s.len = 0 := by
      rcases Nat.eq_zero_or_pos s.len with e | e
      · exact e
      · obtain ⟨x, hx, _⟩ := h.cell1 e
        rw [hb] at hx; cases hx
    show ints k (argL s.len z) = []
    rw [this]; rfl
  | some a =>
    refine ⟨by simp [ints, argL_len], fun j v hj => ?_⟩
    have hjl : j < s.len := by
      have := (List.getElem?_eq_some_iff.1 hj).1
      simpa [ints, argL_len] using this
    rw [ints_get (argL_get z hjl)] at hj
    cases hj
    obtain ⟨x, hx, hc, _⟩ := h.cell1 hjl
    rw [hb] at hx; cases hx
    exact hc

theorem RowG.old {w w' : World} {k : IntKind} {s : SlV} {z : Nat → Int} (h : RowA w (.int k) s z) (he : Ext Nothing w w') : RowA w' (.int k) s z :=
  ⟨h.1, h.2.1, fun j hj => by
    obtain ⟨x, h1, h2, h3⟩ := h.2.2 j hj
    exact ⟨x, h1, fun i v hv => he.cell (h2 i v hv) fun f => f, h3⟩⟩

/-- A copy of a row, put behind nothing. -/
theorem app_copy {t bytes : Nat} {zs : Array Value} {a : SlV} {vs : List Value} {K : SlV → World → Prop} {Rs : List Pr} {w : World} (H : Sat Rs w) (hz : zs.size = 1) (hrow : ∀ w', Sat Rs w' → rowAt w' a.base a.len vs) (hl : vs.length = a.len) (hlen : a.len ≤ 1099511627776) (hby : bytes ≤ 8)
    (ho : ∀ v ∈ vs, v.oneCell' = true) (hK : ∀ s' w', Sat (Row t 1 s' vs :: Rs) w' → s'.len = a.len → K s' w') :
    AL (.cells ⟨[]⟩ t) w fun b1 w2 => APP t 1 bytes zs ⟨(some (Addr.mk b1 0 none)), 0, 0⟩ a w2 fun s3 w4 => K s3 w4 := by
  refine AL_intro fun w2 hb2 hs2 he2 => ?_
  have H2 : Sat (Row t 1 ⟨some ⟨w.heap.size, 0, none⟩, 0, 0⟩ [] :: Rs) w2 := H.new (P := Row t 1 ⟨some ⟨w.heap.size, 0, none⟩, 0, 0⟩ []) (D := Blk' ⟨some ⟨w.heap.size, 0, none⟩, 0, 0⟩) he2
    ⟨fun _ => Iff.rfl, own_new hb2 rfl (Nat.zero_le _) (by decide)⟩ fun k hk => by obtain ⟨x, hx, rfl⟩ := hk; cases hx; exact Nat.le_refl _
  have hm : (0 + a.len) * bytes ≤ 1099511627776 * 8 := Nat.mul_le_mul (by omega) hby
  exact APP_row H2 hz (by simpa using hrow w2 H2.tail) (by simpa using hl) ho (by simp only; omega) (by simp only; omega) fun s' w' H' hl' => hK s' w' H' (by simpa using hl')

theorem cut_self (a b : Int) : cutL [(a, b)] a b = [] := by
  simp [cutL, cut1]

theorem oneInts (k : IntKind) (l : List Int) : ∀ v ∈ ints k l, v.oneCell' = true := by intro v hv; simp [ints] at hv; obtain ⟨x, _, rfl⟩ := hv; rfl
theorem oneBools (l : List Bool) : ∀ v ∈ bools l, v.oneCell' = true := by intro v hv; simp [bools] at hv; rcases hv with ⟨_, rfl⟩ | ⟨_, rfl⟩ <;> rfl

/-- Between two rounds: so often made ready again. -/
structure FillSt (n : Int) (L : List Int) (V : VS) (i : Int) : Prop where
  laid : V.laid = [(512, 1024)]
  ready : V.ready = [(512, 512 + n)]
  rel : V.rel = []
  rf : V.rf = []
  fl : V.fl = L.drop (i * n).toNat
  wd : ∀ k j, 0 ≤ k → k < n → 0 ≤ j → j < 1024 → V.wd (512 + k) j = if i = 0 then 0 else L.getD ((i - 1) * n + k).toNat 0

/-- Between two pages of a round. -/
def FillIn (E : Env) (w : World) (b : Nat) (s6 : SlV) (L : List Int) (fl : Nat) (n i : Int) (V : VS) (st : Int × Int × Unit) (w' : World) : Prop :=
  0 ≤ st.2.1 ∧ st.2.1 ≤ n ∧ (i = 0 → st.1 = 0) ∧ (0 < i → st.1 = min (fl : Int) ((i - 1) * n + st.2.1)) ∧ Sat (VmemP E b V :: [Row E.t_uint64 1 s6 (ints .u64 L), Old w]) w'

section
variable {E : Env} (hE : EnvS E) {w : World}
include hE

theorem fills_spec {fs : SlV} {zf : Nat → Int} {rounds n : Int} (hf : RowA w (.int .u64) fs zf) (hr : -9223372036854775808 ≤ rounds ∧ rounds < 9223372036854775808) (hn : 0 ≤ n ∧ n < 18446744073709551616)
    {K : Bool → World → Prop} (hK : ∀ w', Ext Nothing w w' → K true w') : F.mallowlaw3_VmemFills E fs rounds n K w := by
  unfold F.mallowlaw3_VmemFills
  simp only [Nat.mul_one]
  have h00 : K true w := hK _ (Ext.refl _ _)
  refine JOIN_in (CND_dec (fun _ j => CND_t rfl h00) fun g1 => CND_dec (fun _ j => CND_t rfl h00) fun g2 => CND_dec (fun _ j => CND_t rfl h00) fun g3 => CND_dec (fun _ j => CND_t rfl h00) fun g4 j => CND_dec (fun _ => h00) fun g5 => ?_)
  generalize hL : argL fs.len zf = L
  have hLl : L.length = fs.len := by rw [← hL]; exact argL_len _ _
  have hrow : ∀ w', Sat [Old w] w' → rowAt w' fs.base fs.len (ints .u64 L) := fun w' h => by rw [← hL]; exact rowAt_arg (RowG.old hf (h.old 0 rfl))
  refine app_copy (Sat.start w) rfl hrow (by simp [ints, hLl]) (by omega) (by decide) (oneInts _ _) fun s6 w7 H7 hl6 => ?_
  refine vnew_spec (a0 := ⟨none, 0, 0⟩) (a1 := ⟨none, 0, 0⟩) (pl := []) (rf := []) (fl := L) H7 (by simp) (fun _ _ => show ([] : List Value) = [] from rfl) rfl (by decide) (fun _ _ => show ([] : List Value) = [] from rfl) rfl (by decide)
    (fun w' h => by have := h.rowAll; rwa [Nat.mul_one] at this) (by rw [hLl, hl6]) (by omega) fun b w9 H9 => CND_f rfl ?_
  refine reserve_first hE H9 rfl rfl (fun r h => by cases h) fun w12 H12 => ?_
  refine JOIN_in (CND_f rfl ?_)
  refine commit_ok hE H12 (by decide) (by omega) (by omega) (fun p h1 h2 => mem_one.2 ⟨by omega, by omega⟩) ⟨512, by omega, by omega, mem_nil _⟩ (fun r h => by cases h) fun w17 H17 j => CND_f rfl ?_
  obtain ⟨V, hst, hH⟩ : ∃ V, FillSt n L V 0 ∧ Sat (VmemP E b V :: [Row E.t_uint64 1 s6 (ints .u64 L), Old w]) w17 := by
    refine ⟨_, ⟨rfl, addL_nil _ _, rfl, rfl, ?_, fun k j _ _ _ _ => ?_⟩, H17⟩
    · show L.drop (cnt [] 512 (512 + n)).toNat = L.drop (0 * n).toNat
      rw [Int.zero_mul]; rfl
    · rw [if_pos rfl]
      show (if 512 ≤ 512 + k ∧ 512 + k < 512 + n ∧ inL [] (512 + k) = true then _ else (0 : Int)) = 0
      rw [if_neg (fun h => by have := h.2.2; cases this)]
  refine LOOP_intro (fun st w' => ∃ V, 0 ≤ st.2.1 ∧ st.2.1 ≤ rounds + 1 ∧ st.1 = min (fs.len : Int) ((max 0 (st.2.1 - 1)) * n) ∧ FillSt n L V st.2.1 ∧ Sat (VmemP E b V :: [Row E.t_uint64 1 s6 (ints .u64 L), Old w]) w') (fun st _ => (rounds + 1 - st.2.1).toNat)
    ⟨V, Int.le_refl _, by show (0 : Int) ≤ rounds + 1; omega, ?_, hst, hH⟩ ?_
  · show (0 : Int) = min (fs.len : Int) ((max 0 ((0 : Int) - 1)) * n)
    rw [show max 0 ((0 : Int) - 1) = 0 by omega, Int.zero_mul]; omega
  rintro ⟨nx, i, v⟩ _ w19 ⟨V, hi0, hi1, hnx, hst, H19⟩
  simp only at hi0 hi1 hnx hst ⊢
  refine CND_dec (fun hle => ?_) fun hgt => ?_
  · have hm0 : 0 ≤ (max 0 (i - 1)) * n := Int.mul_nonneg (by omega) hn.1
    have hm1 : (max 0 (i - 1)) * n ≤ 100 := by
      have := Int.mul_le_mul (show max 0 (i - 1) ≤ 10 by omega) (show n ≤ 10 by omega) hn.1 (by decide)
      omega
    refine LOOP_intro (FillIn E w b s6 L fs.len n i V) (fun st _ => (n - st.2.1).toNat)
      ⟨Int.le_refl _, hn.1, fun e => ?_, fun e => ?_, H19⟩ ?_
    · show nx = 0
      rw [hnx, e, show max 0 ((0 : Int) - 1) = 0 by omega, Int.zero_mul]; omega
    · show nx = min _ ((i - 1) * n + 0)
      rw [hnx, show max 0 (i - 1) = i - 1 by omega, Int.add_zero]
    rintro ⟨nx2, k, v⟩ _ w22 ⟨hk0, hk1, hz, hp, H22⟩
    simp only at hk0 hk1 hz hp ⊢
    refine CND_dec (fun hlt => ?_) fun hge => ?_
    · -- one page
      have hword : V.wd (512 + k) k = if i = 0 then 0 else L.getD ((i - 1) * n + k).toNat 0 := hst.wd k k hk0 hlt hk0 (by omega)
      have hload : loadV V ((512 + k) * 8192 + 8 * k) = (if i = 0 then 0 else L.getD ((i - 1) * n + k).toNat 0, 0) := by
        unfold loadV
        rw [if_neg (by omega), show ((512 + k) * 8192 + 8 * k) / 8192 = 512 + k by omega, show ((512 + k) * 8192 + 8 * k) % 8192 / 8 = k by omega, if_pos (inL_iff.2 (by rw [hst.ready]; exact mem_one.2 ⟨by omega, by omega⟩)), hword]
      have haddr : u64 ((u64 ((u64 (512 + k)) * 8192)) + (u64 (8 * k))) = (512 + k) * 8192 + 8 * k := by
        rw [u64_id (n := 512 + k) (by omega) (by omega), u64_id (n := (512 + k) * 8192) (by omega) (by omega), u64_id (n := 8 * k) (by omega) (by omega), u64_id (by omega) (by omega)]
      have hafter : ∀ (nx3 want : Int) (w26 : World), want = (if i = 0 then 0 else L.getD ((i - 1) * n + k).toNat 0) → (i = 0 → nx3 = 0) → (0 < i → nx3 = min (fs.len : Int) ((i - 1) * n + (k + 1))) → Sat (VmemP E b V :: [Row E.t_uint64 1 s6 (ints .u64 L), Old w]) w26 →
          ∀ (nxt : Int × Int × Unit → World → Prop), (∀ w', Sat (VmemP E b V :: [Row E.t_uint64 1 s6 (ints .u64 L), Old w]) w' → nxt (nx3, u64 (k + 1), ()) w') →
          F.vmem_Mem_Load E (some ⟨b, 0, none⟩) (u64 ((u64 ((u64 (512 + k)) * 8192)) + (u64 (8 * k)))) (fun r32 r33 w34 =>
                      JOIN (Bool × Unit) (fun J35 =>
                        CND ((r32 : Int) != want) (
                          J35 (true, ()) w34
                        ) (
                          J35 ((r33 : Int) != 0, ()) w34
                        )
                      ) fun s36 _ w37 =>
                        CND (s36.1) (
                          K false w37
                        ) (
                          nxt (nx3, u64 (k + 1), ()) w37
                        )
                      ) w26 := by
        intro nx3 want w26 hw _ _ H26 nxt hnxt
        rw [haddr]
        refine load_spec hE H26 (by omega) (by omega) fun w34 H34 => ?_
        rw [hload]
        exact JOIN_in (CND_f (by rw [hw]; simp) fun j => CND_f rfl (hnxt w34 H34))
      have hnext : ∀ (nx3 : Int), (i = 0 → nx3 = 0) → (0 < i → nx3 = min (fs.len : Int) ((i - 1) * n + (k + 1))) → ∀ w', Sat (VmemP E b V :: [Row E.t_uint64 1 s6 (ints .u64 L), Old w]) w' →
          (0 ≤ u64 (k + 1) ∧ u64 (k + 1) ≤ n ∧ (i = 0 → nx3 = 0) ∧ (0 < i → nx3 = min (fs.len : Int) ((i - 1) * n + u64 (k + 1))) ∧ Sat (VmemP E b V :: [Row E.t_uint64 1 s6 (ints .u64 L), Old w]) w') ∧ (n - u64 (k + 1)).toNat < (n - k).toNat := by
        intro nx3 h1 h2 w' H'
        rw [u64_id (n := k + 1) (by omega) (by omega)]
        exact ⟨⟨by omega, by omega, h1, h2, H'⟩, by omega⟩
      have hmax : 0 < i → (i - 1) * n ≤ 100 ∧ 0 ≤ (i - 1) * n := fun h => by rw [show max 0 (i - 1) = i - 1 by omega] at hm1 hm0; exact ⟨hm1, hm0⟩
      refine JOIN_in (JOIN_in (CND_dec (fun hip j => CND_dec (fun hlt2 => ?_) fun hge2 => ?_) fun hip j => CND_f rfl ?_))
      · -- a fill
        have hpv := hp hip
        have hmx := hmax hip
        have hidx : nx2 = (i - 1) * n + k := by omega
        have hnl : nx2.toNat < fs.len := by omega
        obtain ⟨x0, hx0, hc0, _⟩ := (RowG.old hf (H22.old 2 rfl)).cell1 hnl
        rw [hx0]
        simp only [NC_some]
        refine ⟨⟨by omega, hlt2⟩, zf nx2.toNat, hc0, fun j => ?_⟩
        rw [i64_id (n := nx2 + 1) (by omega) (by omega)]
        refine hafter (nx2 + 1) (zf nx2.toNat) w22 ?_ (fun e => by omega) (fun _ => by omega) H22 (fun st w' => FillIn E w b s6 L fs.len n i V st w' ∧ (n - st.2.1).toNat < (n - k).toNat) (hnext (nx2 + 1) (fun e => by omega) fun _ => by omega)
        rw [if_neg (by omega), ← hidx, List.getD_eq_getElem?_getD, ← hL, argL_get zf hnl]; rfl
      · have hpv := hp hip
        have hmx := hmax hip
        refine fun j => hafter nx2 0 w22 ?_ (fun e => by omega) (fun _ => by omega) H22 (fun st w' => FillIn E w b s6 L fs.len n i V st w' ∧ (n - st.2.1).toNat < (n - k).toNat) (hnext nx2 (fun e => by omega) fun _ => by omega)
        rw [if_neg (by omega), List.getD_eq_getElem?_getD, List.getElem?_eq_none (by omega)]; rfl
      · refine fun j => hafter nx2 0 w22 (by rw [if_pos (by omega)]) hz (fun h => by omega) H22 (fun st w' => FillIn E w b s6 L fs.len n i V st w' ∧ (n - st.2.1).toNat < (n - k).toNat) (hnext nx2 hz fun h => by omega)
    · have hke : k = n := by omega
      subst hke
      refine JOIN_in (release_ok hE H22 (by decide) (by omega) (by omega) (fun p h1 h2 => by rw [hst.ready]; exact mem_one.2 ⟨h1, h2⟩) fun w42 H42 => CND_f rfl ?_)
      have r1 : (releaseV V 512 k).ready = [] := by show cutL V.ready _ _ = _; rw [hst.ready, cut_self]
      have r2 : (releaseV V 512 k).rel = [(512, 512 + k)] := by show addL V.rel _ _ = _; rw [hst.rel, addL_nil]
      refine commit_ok hE H42 (by decide) (by omega) (by omega) (fun p h1 h2 => by show mem V.laid p; rw [hst.laid]; exact mem_one.2 ⟨by omega, by omega⟩) ⟨512, by omega, by omega, by rw [r1]; exact mem_nil _⟩ (fun r h => by have h : V.rf = true :: r := h; rw [hst.rf] at h; cases h) fun w44 H44 j => CND_f rfl ?_
      have hmm0 : 0 ≤ i * k := Int.mul_nonneg hi0 hn.1
      refine ⟨⟨_, ?_, ?_, ?_, ?_, H44⟩, ?_⟩
      · show 0 ≤ i64 (i + 1); rw [i64_id (by omega) (by omega)]; omega
      · show i64 (i + 1) ≤ rounds + 1; rw [i64_id (by omega) (by omega)]; omega
      · show nx2 = min (fs.len : Int) (max 0 (i64 (i + 1) - 1) * k)
        rw [i64_id (by omega) (by omega), show max 0 (i + 1 - 1) = i by omega]
        by_cases e : i = 0
        · subst e; rw [hz rfl, Int.zero_mul]; omega
        · rw [hp (by omega), show (i - 1) * k + k = i * k by rw [Int.sub_mul, Int.one_mul]; omega]
      · show FillSt k L (commitV (releaseV V 512 k) 512 k) (i64 (i + 1))
        rw [i64_id (by omega) (by omega)]
        have cr : ∀ p, 512 ≤ p → p ≤ 512 + k → cnt (releaseV V 512 k).rel 512 p = p - 512 := fun p h1 h2 => by rw [r2]; simp only [cnt, cnt1]; omega
        refine ⟨hst.laid, ?_, ?_, ?_, ?_, fun p j hp0 hp1 hj0 hj1 => ?_⟩
        · show addL (releaseV V 512 k).ready _ _ = _; rw [r1, addL_nil]
        · show cutL (releaseV V 512 k).rel _ _ = _; rw [r2, cut_self]
        · show V.rf.tail = _; rw [hst.rf]; rfl
        · show V.fl.drop (cnt (releaseV V 512 k).rel 512 (512 + k)).toNat = _
          rw [cr _ (by omega) (by omega), hst.fl, List.drop_drop]
          congr 1
          rw [Int.add_mul, Int.one_mul]; omega
        · rw [if_neg (by omega), show i + 1 - 1 = i by omega]
          show (if 512 ≤ 512 + p ∧ 512 + p < 512 + k ∧ inL (releaseV V 512 k).rel (512 + p) = true then V.fl.getD (cnt (releaseV V 512 k).rel 512 (512 + p)).toNat 0 else _) = _
          rw [if_pos ⟨by omega, by omega, inL_iff.2 (by rw [r2]; exact mem_one.2 ⟨by omega, by omega⟩)⟩, cr _ (by omega) (by omega), hst.fl]
          rw [List.getD_eq_getElem?_getD, List.getElem?_drop, List.getD_eq_getElem?_getD]
          congr 2
          omega
      · show (rounds + 1 - i64 (i + 1)).toNat < (rounds + 1 - i).toNat
        rw [i64_id (by omega) (by omega)]; omega
  · refine vcount_spec H19 fun w46 H46 => ?_
    rw [if_pos rfl, hst.ready]
    have : tot [((512 : Int), 512 + n)] = n := by simp [tot]; omega
    rw [this]
    exact CND_t (by simp) (vawake_spec hE H46 fun w' H' => hK w' (H'.old 2 rfl))

end
end Go.Sh

set_option linter.all false
set_option maxRecDepth 40000
set_option maxHeartbeats 4000000
namespace Go.Sh

/-- A new row, out of what is written into it at once. -/
theorem AL_row {t n : Nat} {vs : List Value} {Rs : List Pr} {w : World} (H : Sat Rs w) (hn : vs.length = n) (hl : n < 9223372036854775808) {K : Nat → World → Prop} (hK : ∀ b w', Sat (Row t 1 ⟨some ⟨b, 0, none⟩, n, n⟩ vs :: Rs) w' → K b w') : AL (.cells ⟨vs⟩ t) w K :=
  AL_intro fun w' hb hs he => hK _ _ (H.new (P := Row t 1 ⟨some ⟨w.heap.size, 0, none⟩, n, n⟩ vs) (D := Blk' ⟨some ⟨w.heap.size, 0, none⟩, n, n⟩) he
    ⟨fun _ => Iff.rfl, own_new hb (by omega) (Nat.zero_le _) hl⟩ fun k hk => by obtain ⟨x, hx, rfl⟩ := hk; cases hx; exact Nat.le_refl _)

def RefV (k : Nat) : VS := ⟨[(512, 1024)], [], [], fun _ _ => 0, [], List.replicate k true, []⟩

section
variable {E : Env} (hE : EnvS E) {w : World}
include hE

theorem refused_spec {pages n : Int} (hp : 0 ≤ pages ∧ pages < 18446744073709551616) (hn : -9223372036854775808 ≤ n ∧ n < 9223372036854775808)
    {K : Bool → World → Prop} (hK : ∀ w', Ext Nothing w w' → K true w') : F.mallowlaw3_VmemRefused E pages n K w := by
  unfold F.mallowlaw3_VmemRefused
  have h00 : K true w := hK _ (Ext.refl _ _)
  refine JOIN_in (CND_dec (fun _ j => CND_t rfl h00) fun g1 => CND_dec (fun _ j => CND_t rfl h00) fun g2 => CND_dec (fun _ j => CND_t rfl h00) fun g3 j => CND_dec (fun _ => h00) fun g4 => ?_)
  refine AL_row (Sat.start w) rfl (by decide) fun b4 w5 H5 => ?_
  refine LOOP_intro (fun st w' => ∃ i : Nat, st.2.1 = (i : Int) ∧ (i : Int) ≤ n ∧ st.1.len = i + 1 ∧ Sat [Row E.t_bool 1 st.1 (bools (false :: List.replicate i true)), Old w] w') (fun st _ => (n - st.2.1).toNat) ⟨0, rfl, by show (0 : Int) ≤ n; omega, rfl, H5⟩ ?_
  rintro ⟨s, i', v⟩ _ w7 ⟨i, hi, hil, hsl, H7⟩
  simp only at hi hsl H7 ⊢
  subst hi
  refine CND_dec (fun hlt => ?_) fun hge => ?_
  · refine AL_cells H7 fun b9 w10 H10 _ => APP_one (news := [.bool true]) H10 rfl rfl (by simp [Value.oneCell']) (by omega) (by omega) fun s11 w12 H12 hl12 => ?_
    have ei : i64 ((i : Int) + 1) = ((i + 1 : Nat) : Int) := by rw [i64_id (by omega) (by omega)]; omega
    refine ⟨⟨i + 1, ei, by omega, by show s11.len = i + 1 + 1; omega, ?_⟩, by simp only [ei]; omega⟩
    have : bools (false :: List.replicate (i + 1) true) = bools (false :: List.replicate i true) ++ [.bool true] := by
      simp only [bools, List.replicate_succ' (n := i), List.map_cons, List.map_append, List.cons_append, List.map_nil]
    rw [this]; exact H12
  · have hin : (i : Int) = n := by omega
    refine vnew_spec (a0 := ⟨none, 0, 0⟩) (a2 := ⟨none, 0, 0⟩) (pl := []) (rf := false :: List.replicate i true) (fl := []) H7 (by simp) (fun _ _ => show ([] : List Value) = [] from rfl) rfl (by decide)
      (fun w' h => by have := h.rowAll; rwa [Nat.mul_one] at this) (by simp; omega) (by omega) (fun _ _ => show ([] : List Value) = [] from rfl) rfl (by decide) fun b w9 H9 => CND_f rfl ?_
    refine reserve_first hE H9 rfl rfl (fun r h => by cases h) fun w17 H17 => CND_f rfl ?_
    have H17' : Sat (VmemP E b (RefV (i - 0)) :: [Row E.t_bool 1 s (bools (false :: List.replicate i true)), Old w]) w17 := H17
    refine LOOP_intro (fun st w' => ∃ k : Nat, st.1 = (k : Int) ∧ k ≤ i ∧ Sat (VmemP E b (RefV (i - k)) :: [Row E.t_bool 1 s (bools (false :: List.replicate i true)), Old w]) w') (fun st _ => (n - st.1).toNat) ⟨0, rfl, Nat.zero_le _, H17'⟩ ?_
    rintro ⟨k', v⟩ _ w19 ⟨k, hk, hki, H19⟩
    simp only at hk ⊢
    subst hk
    refine CND_dec (fun hlt => ?_) fun hge => ?_
    · have hrf : (RefV (i - k)).rf = true :: List.replicate (i - (k + 1)) true := by
        show List.replicate (i - k) true = _
        rw [show i - k = (i - (k + 1)) + 1 by omega, List.replicate_succ]
      have ek : i64 ((k : Int) + 1) = ((k + 1 : Nat) : Int) := by rw [i64_id (by omega) (by omega)]; omega
      refine JOIN_intro (fun _ w' => Sat (VmemP E b (RefV (i - (k + 1))) :: [Row E.t_bool 1 s (bools (false :: List.replicate i true)), Old w]) w') ⟨by decide, CND_eq (fun _ => ?_) fun _ => ?_⟩ fun st _ w23 H23 => ?_
      · exact commit_refused hE H19 (by decide) (by omega) (by omega) (fun p h1 h2 => mem_one.2 ⟨by omega, by omega⟩) ⟨512, by omega, by omega, mem_nil _⟩ hrf fun w' H' => CND_f rfl H'
      · refine reserve_spec hE H19 (by decide) (by decide) (by decide) (by decide) (fun h => by omega) (fun _ r h w' H' => ?_) (fun _ h => absurd hrf (h _)) fun _ h => absurd hrf (h _)
        rw [hrf] at h; cases h
        exact CND_f rfl H'
      · refine JOIN_in (vcount_spec H23 fun w33 H33 => ?_)
        refine CND_f ?_ (vcount_spec H33 fun w35 H35 j => CND_f ?_ ?_)
        · rw [if_neg (by decide), if_neg (by decide), if_pos rfl]; rfl
        · rw [if_pos rfl]; rfl
        · exact ⟨⟨k + 1, ek, by omega, H35⟩, by simp only [ek]; omega⟩
    · have hke : i - k = 0 := by omega
      rw [hke] at H19
      refine commit_ok hE H19 (by decide) (by omega) (by omega) (fun p h1 h2 => mem_one.2 ⟨by omega, by omega⟩) ⟨512, by omega, by omega, mem_nil _⟩ (fun r h => by cases h) fun w37 H37 => CND_t rfl (vcount_spec H37 fun w39 H39 => ?_)
      have hr : (commitV (RefV 0) 512 pages).ready = [(512, 512 + pages)] := addL_nil _ _
      rw [if_pos rfl, hr]
      refine CND_t (by simp [tot]; omega) ?_
      refine commit_again hE H39 (by decide) (by omega) (by omega) (fun p h1 h2 => by rw [hr]; exact mem_one.2 ⟨h1, h2⟩) fun w41 H41 => CND_t rfl (vawake_spec hE H41 fun w' H' => hK w' (H'.old 2 rfl))

end
end Go.Sh

set_option linter.all false
set_option maxRecDepth 40000
set_option maxHeartbeats 4000000
namespace Go.Sh

/-- Pages from 512 on are ready, and nothing else is there but what is reserved. -/
structure Plain (n : Int) (V : VS) : Prop where
  laid : V.laid = [(512, 1024)]
  ready : ∀ p, mem V.ready p ↔ 512 ≤ p ∧ p < 512 + n
  rel : V.rel = []
  rf : V.rf = []

theorem load_plain {n : Int} {V : VS} (h : Plain n V) {addr : Int} (h8 : addr % 8 = 0) (h1 : 512 ≤ addr / 8192) (h2 : addr / 8192 < 512 + n) : loadV V addr = (V.wd (addr / 8192) (addr % 8192 / 8), 0) := by
  unfold loadV
  rw [if_neg (by omega), if_pos (inL_iff.2 ((h.ready _).2 ⟨h1, h2⟩))]
theorem store_plain {n : Int} {V : VS} (h : Plain n V) {addr : Int} (h8 : addr % 8 = 0) (h1 : 512 ≤ addr / 8192) (h2 : addr / 8192 < 512 + n) : storeE V addr = 0 := by
  unfold storeE
  rw [if_neg (by omega), if_pos (inL_iff.2 ((h.ready _).2 ⟨h1, h2⟩))]

section
variable {E : Env} (hE : EnvS E) {w : World} {Rs : List Pr} {b : Nat} {V : VS}
include hE

/-- Pages are let go and made ready again. -/
theorem again_spec (H : Sat (VmemP E b V :: Rs) w) {n page pages : Int} (hV : Plain n V) (h0 : 512 ≤ page) (p0 : 0 < pages) (p1 : page + pages ≤ 512 + n) (hn : n ≤ 512) {K : Int → World → Prop} {X : World → Prop}
    (hF : ∀ V' w', Plain n V' → V'.fl = V.fl.drop pages.toNat → (∀ p i, V'.wd p i = if page ≤ p ∧ p < page + pages then V.fl.getD (p - page).toNat 0 else V.wd p i) → Sat (VmemP E b V' :: Rs) w' → K 0 w') :
    F.vmem_Mem_Release E (some ⟨b, 0, none⟩) page pages (fun r w' => CND (r != 0) (X w') (F.vmem_Mem_Commit E (some ⟨b, 0, none⟩) page pages K w')) w := by
  have hv := H.vok
  refine release_ok hE H (by omega) p0 (by omega) (fun p h1 h2 => (hV.ready p).2 ⟨by omega, by omega⟩) fun w1 H1 => CND_f rfl ?_
  have r1 : ∀ p, mem (releaseV V page pages).ready p ↔ mem V.ready p ∧ ¬ (page ≤ p ∧ p < page + pages) := fun p => mem_cutL (by omega)
  have r2 : (releaseV V page pages).rel = [(page, page + pages)] := by show addL V.rel _ _ = _; rw [hV.rel, addL_nil]
  have hv1 := H1.vok
  refine commit_ok hE H1 (by omega) p0 (by omega) (fun p h1 h2 => by show mem V.laid p; rw [hV.laid]; exact mem_one.2 ⟨by omega, by omega⟩) ⟨page, by omega, by omega, fun h => ((r1 _).1 h).2 ⟨by omega, by omega⟩⟩ (fun r h => by have h : V.rf = true :: r := h; rw [hV.rf] at h; cases h) fun w2 H2 => ?_
  have cr : ∀ p, page ≤ p → p ≤ page + pages → cnt (releaseV V page pages).rel page p = p - page := fun p h1 h2 => by rw [r2]; simp only [cnt, cnt1]; omega
  refine hF (commitV (releaseV V page pages) page pages) w2 ⟨hV.laid, fun p => ?_, ?_, ?_⟩ ?_ (fun p i => ?_) H2
  · rw [show (commitV (releaseV V page pages) page pages).ready = addL (releaseV V page pages).ready page (page + pages) from rfl, mem_addL hv1.ok2 (by omega) (by omega) (by omega), r1, hV.ready]
    omega
  · show cutL (releaseV V page pages).rel _ _ = _; rw [r2, cut_self]
  · show V.rf.tail = _; rw [hV.rf]; rfl
  · show V.fl.drop (cnt (releaseV V page pages).rel page (page + pages)).toNat = _
    rw [cr _ (by omega) (by omega)]
    congr 1; omega
  · show (if page ≤ p ∧ p < page + pages ∧ inL (releaseV V page pages).rel p = true then V.fl.getD (cnt (releaseV V page pages).rel page p).toNat 0 else (if page ≤ p ∧ p < page + pages then 0 else V.wd p i)) = _
    by_cases e : page ≤ p ∧ p < page + pages
    · rw [if_pos ⟨e.1, e.2, inL_iff.2 (by rw [r2]; exact mem_one.2 e)⟩, if_pos e, cr _ e.1 (by omega)]
    · rw [if_neg (fun h => e ⟨h.1, h.2.1⟩), if_neg e, if_neg e]

theorem keeps_spec {ws : SlV} {zs : Nat → Int} {fill page : Int} (hs : RowA w (.int .u64) ws zs) (hp : -9223372036854775808 ≤ page ∧ page < 9223372036854775808)
    {K : Bool → World → Prop} (hK : ∀ w', Ext Nothing w w' → K true w') : F.mallowlaw3_VmemKeeps E ws fill page K w := by
  unfold F.mallowlaw3_VmemKeeps
  simp only [Nat.mul_one]
  have h00 : K true w := hK _ (Ext.refl _ _)
  refine JOIN_in (CND_dec (fun _ j => CND_t rfl h00) fun g1 => CND_dec (fun _ j => CND_t rfl h00) fun g2 j => CND_dec (fun _ => h00) fun g3 => ?_)
  refine AL_row (n := 1) (Sat.start w) rfl (by decide) fun b4 w5 H5 => ?_
  refine vnew_spec (a0 := ⟨none, 0, 0⟩) (a1 := ⟨none, 0, 0⟩) (pl := []) (rf := []) (fl := [fill]) H5 (by simp) (fun _ _ => show ([] : List Value) = [] from rfl) rfl (by decide) (fun _ _ => show ([] : List Value) = [] from rfl) rfl (by decide)
    (fun w' h => by have := h.rowAll; rwa [Nat.mul_one] at this) rfl (by show 1 ≤ 1099511627776; decide) fun b w7 H7 => CND_f rfl ?_
  refine reserve_first hE H7 rfl rfl (fun r h => by cases h) fun w10 H10 => ?_
  refine JOIN_in (CND_f rfl ?_)
  refine commit_ok hE H10 (by decide) (by omega) (by omega) (fun p h1 h2 => mem_one.2 ⟨by omega, by omega⟩) ⟨512, by omega, by omega, mem_nil _⟩ (fun r h => by cases h) fun w15 H15 j => CND_f rfl ?_
  obtain ⟨V, hP, hfl, hH⟩ : ∃ V, Plain 8 V ∧ V.fl = [fill] ∧ Sat (VmemP E b V :: [Row E.t_uint64 1 ⟨some ⟨b4, 0, none⟩, 1, 1⟩ [.int .u64 fill], Old w]) w15 := by
    refine ⟨_, ⟨rfl, fun p => ?_, rfl, rfl⟩, rfl, H15⟩
    show mem (addL [] 512 (512 + 8)) p ↔ _
    rw [addL_nil]; exact mem_one
  refine LOOP_intro (fun st w' => ∃ (i : Nat) (V : VS), st.1 = (i : Int) ∧ i ≤ ws.len ∧ Plain 8 V ∧ V.fl = [fill] ∧ (∀ j : Nat, j < i → V.wd ((4194304 + 640 * (j : Int)) / 8192) ((4194304 + 640 * (j : Int)) % 8192 / 8) = zs j) ∧
      Sat (VmemP E b V :: [Row E.t_uint64 1 ⟨some ⟨b4, 0, none⟩, 1, 1⟩ [.int .u64 fill], Old w]) w') (fun st _ => (ws.len - st.1).toNat) ⟨0, V, rfl, Nat.zero_le _, hP, hfl, fun j h => by omega, hH⟩ ?_
  rintro ⟨i', v⟩ _ w17 ⟨i, V, hi, hil, hP, hfl, hwd, H17⟩
  simp only at hi ⊢
  subst hi
  have haddr : ∀ i : Nat, i < 100 → u64 ((u64 (512 * 8192)) + (u64 ((u64 ((i : Nat) : Int)) * 640))) = 4194304 + 640 * (i : Int) := fun i hi => by
    rw [u64_id (n := 512 * 8192) (by decide) (by decide), u64_id (n := (i : Int)) (by omega) (by omega), u64_id (n := (i : Int) * 640) (by omega) (by omega), u64_id (by omega) (by omega)]; omega
  refine CND_dec (fun hlt => ?_) fun hge => ?_
  · have hik : i < ws.len := by omega
    obtain ⟨x0, hx0, hc0, _⟩ := (RowG.old hs (H17.old 2 rfl)).cell1 hik
    rw [hx0]
    simp only [NC_some, Int.toNat_natCast]
    refine ⟨⟨by omega, by omega⟩, zs i, hc0, ?_⟩
    rw [haddr i (by omega)]
    have hse := store_plain hP (addr := 4194304 + 640 * (i : Int)) (by omega) (by omega) (by omega)
    refine store_spec hE H17 (by omega) (by omega) fun w22 H22 => ?_
    rw [hse]
    have ei : i64 ((i : Int) + 1) = ((i + 1 : Nat) : Int) := by rw [i64_id (by omega) (by omega)]; omega
    have hsv : storeV V (4194304 + 640 * (i : Int)) (zs i) = { V with wd := fun p k => if p = (4194304 + 640 * (i : Int)) / 8192 ∧ k = (4194304 + 640 * (i : Int)) % 8192 / 8 then zs i else V.wd p k } := by unfold storeV; rw [if_pos hse]
    refine CND_f rfl ⟨⟨i + 1, storeV V (4194304 + 640 * (i : Int)) (zs i), ei, by omega, by rw [hsv]; exact ⟨hP.laid, hP.ready, hP.rel, hP.rf⟩, by rw [hsv]; exact hfl, fun j hj => ?_, H22⟩, by simp only [ei]; omega⟩
    rw [hsv]
    show (if (4194304 + 640 * (j : Int)) / 8192 = (4194304 + 640 * (i : Int)) / 8192 ∧ (4194304 + 640 * (j : Int)) % 8192 / 8 = (4194304 + 640 * (i : Int)) % 8192 / 8 then zs i else V.wd _ _) = zs j
    by_cases e : j = i
    · subst e; rw [if_pos ⟨rfl, rfl⟩]
    · rw [if_neg (by omega), hwd j (by omega)]
  · have hin : i = ws.len := by omega
    subst hin
    rw [u64_id (n := page) (by omega) (by omega), u64_id (n := 512 + page) (by omega) (by omega)]
    refine JOIN_in (again_spec hE H17 hP (by omega) (by decide) (by omega) (by decide) fun V' w29 hP' hfl' hwd' H29 j => CND_f rfl ?_)
    have hw2 : ∀ i : Nat, i < ws.len → loadV V' (4194304 + 640 * (i : Int)) = (if (4194304 + 640 * (i : Int)) / 8192 = 512 + page then fill else zs i, 0) := fun i hi => by
      rw [load_plain hP' (by omega) (by omega) (by omega), hwd']
      by_cases e : (4194304 + 640 * (i : Int)) / 8192 = 512 + page
      · rw [if_pos e, if_pos (by omega), hfl, show ((4194304 + 640 * (i : Int)) / 8192 - (512 + page)).toNat = 0 by omega]; rfl
      · rw [if_neg e, if_neg (by omega), hwd i hi]
    refine LOOP_intro (fun st w' => ∃ (k : Nat), st.1 = (k : Int) ∧ k ≤ ws.len ∧ Sat (VmemP E b V' :: [Row E.t_uint64 1 ⟨some ⟨b4, 0, none⟩, 1, 1⟩ [.int .u64 fill], Old w]) w') (fun st _ => (ws.len - st.1).toNat) ⟨0, rfl, Nat.zero_le _, H29⟩ ?_
    rintro ⟨k', v⟩ _ w31 ⟨k, hk, hkl, H31⟩
    simp only at hk ⊢
    subst hk
    refine CND_dec (fun hlt => LET_intro fun addr ha => ?_) fun hge => ?_
    · rw [haddr k (by omega)] at ha
      have hkk : k < ws.len := by omega
      subst ha
      refine load_spec hE H31 (by omega) (by omega) fun w36 H36 => ?_
      obtain ⟨x0, hx0, hc0, _⟩ := (RowG.old hs (H36.old 2 rfl)).cell1 hkk
      rw [hx0]
      simp only [NC_some, Int.toNat_natCast]
      rw [Int.tdiv_eq_ediv_of_nonneg (by omega), u64_id (n := (4194304 + 640 * (k : Int)) / 8192) (by omega) (by omega), hw2 k hkk]
      have ek : i64 ((k : Int) + 1) = ((k + 1 : Nat) : Int) := by rw [i64_id (by omega) (by omega)]; omega
      have hend : ∀ want, want = (if (4194304 + 640 * (k : Int)) / 8192 = 512 + page then fill else zs k) → ∀ (nx : Int × Unit → World → Prop), nx (i64 ((k : Int) + 1), ()) w36 → 
          JOIN (Bool × Unit) (fun J42 => 8192 ≠ (0 : Int) ∧
            CND (decide (((4194304 + 640 * (k : Int)) / 8192 : Int) < (u64 (512 + 8)))) (
              CND (((if (4194304 + 640 * (k : Int)) / 8192 = 512 + page then fill else zs k) : Int) != want) (J42 (true, ()) w36) (J42 (((0 : Int) : Int) != 0, ()) w36)) (J42 (false, ()) w36)) fun s43 _ w44 =>
            CND (s43.1) (K false w44) (nx (i64 ((k : Int) + 1), ()) w44) := by
        intro want hw nx hnx
        subst hw
        exact JOIN_in ⟨by decide, CND_dec (fun _ => CND_f (by simp) fun j => CND_f rfl hnx) fun _ j => CND_f rfl hnx⟩
      have hI : ∀ w', Sat (VmemP E b V' :: [Row E.t_uint64 1 ⟨some ⟨b4, 0, none⟩, 1, 1⟩ [.int .u64 fill], Old w]) w' → (∃ (k_1 : Nat), i64 ((k : Int) + 1) = (k_1 : Int) ∧ k_1 ≤ ws.len ∧ Sat (VmemP E b V' :: [Row E.t_uint64 1 ⟨some ⟨b4, 0, none⟩, 1, 1⟩ [.int .u64 fill], Old w]) w') ∧ (ws.len - i64 ((k : Int) + 1)).toNat < (ws.len - (k : Int)).toNat := fun w' h =>
        ⟨⟨k + 1, ek, by omega, h⟩, by rw [ek]; omega⟩
      refine ⟨⟨by omega, by omega⟩, zs k, hc0, JOIN_in ⟨by decide, CND_eq (fun e j => hend fill (by rw [if_pos e]) (fun st w' => (∃ (k_1 : Nat), st.1 = (k_1 : Int) ∧ k_1 ≤ ws.len ∧ Sat (VmemP E b V' :: [Row E.t_uint64 1 ⟨some ⟨b4, 0, none⟩, 1, 1⟩ [.int .u64 fill], Old w]) w') ∧ (ws.len - st.1).toNat < (ws.len - (k : Int)).toNat) (hI w36 H36))
        fun e j => hend (zs k) (by rw [if_neg e]) (fun st w' => (∃ (k_1 : Nat), st.1 = (k_1 : Int) ∧ k_1 ≤ ws.len ∧ Sat (VmemP E b V' :: [Row E.t_uint64 1 ⟨some ⟨b4, 0, none⟩, 1, 1⟩ [.int .u64 fill], Old w]) w') ∧ (ws.len - st.1).toNat < (ws.len - (k : Int)).toNat) (hI w36 H36)⟩⟩
    · rw [u64_id (n := (512 + page) * 8192) (by omega) (by omega), u64_id (n := (512 + page) * 8192 + 8184) (by omega) (by omega)]
      refine load_spec hE H31 (by omega) (by omega) fun w47 H47 => ?_
      have : loadV V' ((512 + page) * 8192 + 8184) = (fill, 0) := by
        rw [load_plain hP' (by omega) (by omega) (by omega), hwd', if_pos (by omega), hfl, show (((512 + page) * 8192 + 8184) / 8192 - (512 + page)).toNat = 0 by omega]; rfl
      rw [this]
      exact CND_t (by simp) (CND_t rfl (vawake_spec hE H47 fun w' H' => hK w' (H'.old 2 rfl)))

end
end Go.Sh

set_option linter.all false
set_option maxRecDepth 40000
set_option maxHeartbeats 4000000
namespace Go.Sh

section
variable {E : Env} (hE : EnvS E) {w : World}
include hE

theorem zeroes_spec {fill a n : Int} (hf : 0 ≤ fill ∧ fill < 18446744073709551616) (ha : 0 ≤ a ∧ a < 18446744073709551616) (hn : 0 ≤ n ∧ n < 18446744073709551616)
    {K : Bool → World → Prop} (hK : ∀ w', Ext Nothing w w' → K true w') : F.mallowlaw3_VmemZeroes E fill a n K w := by
  unfold F.mallowlaw3_VmemZeroes
  have h00 : K true w := hK _ (Ext.refl _ _)
  refine JOIN_in (CND_dec (fun _ j => CND_t rfl h00) fun g1 => CND_dec (fun _ j => CND_t rfl h00) fun g2 j => ?_)
  rw [u64_id (n := a + n) (by omega) (by omega)]
  refine CND_dec (fun _ => h00) fun g3 => ?_
  generalize hL : [fill, u64 (fill + 1), u64 (fill + 2), u64 (fill + 3)] = L
  have hLL : [Value.int .u64 fill, .int .u64 (u64 (fill + 1)), .int .u64 (u64 (fill + 2)), .int .u64 (u64 (fill + 3))] = ints .u64 L := by rw [← hL]; rfl
  have hLlen : L.length = 4 := by rw [← hL]; rfl
  rw [hLL]
  refine AL_row (n := 4) (Sat.start w) (by simp [ints, hLlen]) (by decide) fun b4 w5 H5 => ?_
  refine vnew_spec (a0 := ⟨none, 0, 0⟩) (a1 := ⟨none, 0, 0⟩) (pl := []) (rf := []) (fl := L) H5 (by simp) (fun _ _ => show ([] : List Value) = [] from rfl) rfl (by decide) (fun _ _ => show ([] : List Value) = [] from rfl) rfl (by decide)
    (fun w' h => by have := h.rowAll; rwa [Nat.mul_one] at this) hLlen (by show 4 ≤ 1099511627776; decide) fun b w7 H7 => CND_f rfl ?_
  refine reserve_first hE H7 rfl rfl (fun r h => by cases h) fun w10 H10 => ?_
  refine JOIN_in (CND_f rfl ?_)
  refine commit_ok hE H10 (by decide) (by omega) (by omega) (fun p h1 h2 => mem_one.2 ⟨by omega, by omega⟩) ⟨512, by omega, by omega, mem_nil _⟩ (fun r h => by cases h) fun w15 H15 => CND_f rfl ?_
  obtain ⟨V, hP, hfl, hH⟩ : ∃ V, Plain 4 V ∧ V.fl = L ∧ Sat (VmemP E b V :: [Row E.t_uint64 1 ⟨some ⟨b4, 0, none⟩, 4, 4⟩ (ints .u64 L), Old w]) w15 := by
    refine ⟨_, ⟨rfl, fun p => ?_, rfl, rfl⟩, rfl, H15⟩
    show mem (addL [] 512 (512 + 4)) p ↔ _
    rw [addL_nil]; exact mem_one
  refine again_spec hE hH hP (by decide) (by decide) (by decide) (by decide) fun V1 w19 hP1 hfl1 hwd1 H19 j => CND_f rfl ?_
  have hL4 : ∀ k : Int, 0 ≤ k → k < 4 → L.getD k.toNat 0 = u64 (fill + k) := by
    intro k h0 h1
    have : k = 0 ∨ k = 1 ∨ k = 2 ∨ k = 3 := by omega
    rw [← hL]
    rcases this with rfl | rfl | rfl | rfl
    · show fill = u64 (fill + 0); rw [Int.add_zero, u64_id hf.1 hf.2]
    · rfl
    · rfl
    · rfl
  -- the clearing
  rw [u64_id (n := 512 * 8192) (by decide) (by decide), u64_id (n := 8 * a) (by omega) (by omega), u64_id (n := 512 * 8192 + 8 * a) (by omega) (by omega), u64_id (n := 8 * n) (by omega) (by omega), u64_id (n := 512 * 8192 + 4) (by decide) (by decide)]
  have hz0 : zeroE V1 (512 * 8192 + 8 * a) (8 * n) = 0 := by
    unfold zeroE
    rw [if_neg (by omega)]
    by_cases e : 8 * n = 0
    · rw [if_pos e]
    · rw [if_neg e, if_neg (by omega), if_pos]
      have := (cnt_full H19.vok.ok2 (a := (512 * 8192 + 8 * a) / 8192) (b := (512 * 8192 + 8 * a + 8 * n - 1) / 8192 + 1) (by omega)).2 fun p h1 h2 => (hP1.ready p).2 ⟨by omega, by omega⟩
      omega
  refine JOIN_in (zero_spec hE H19 (by omega) (by omega) (by omega) (by omega) fun w24 H24 => ?_)
  rw [hz0]
  have hV2 : zeroV V1 (512 * 8192 + 8 * a) (8 * n) = { V1 with wd := fun p i => if 512 * 8192 + 8 * a ≤ p * 8192 + i * 8 ∧ p * 8192 + i * 8 < 512 * 8192 + 8 * a + 8 * n then 0 else V1.wd p i } := by unfold zeroV; rw [if_pos hz0]
  have hok2 := H24.vok.ok2
  obtain ⟨V2, hP2, hwd2, H24, hok2⟩ : ∃ V2, Plain 4 V2 ∧ (∀ p i, V2.wd p i = if 512 * 8192 + 8 * a ≤ p * 8192 + i * 8 ∧ p * 8192 + i * 8 < 512 * 8192 + 8 * a + 8 * n then 0 else V1.wd p i) ∧ Sat (VmemP E b V2 :: [Row E.t_uint64 1 ⟨some ⟨b4, 0, none⟩, 4, 4⟩ (ints .u64 L), Old w]) w24 ∧ Ok V2.ready :=
    ⟨zeroV V1 (512 * 8192 + 8 * a) (8 * n), by rw [hV2]; exact ⟨hP1.laid, hP1.ready, hP1.rel, hP1.rf⟩, fun _ _ => by rw [hV2], H24, hok2⟩
  refine CND_f rfl (zero_spec hE H24 (by decide) (by decide) (by decide) (by decide) fun w26 H26 => ?_)
  have e11 : ∀ V, zeroE V (512 * 8192 + 4) 8 = 11 := fun V => by unfold zeroE; rw [if_pos (by decide)]
  have z11 : ∀ V, zeroV V (512 * 8192 + 4) 8 = V := fun V => by unfold zeroV; rw [if_neg (by rw [e11]; decide)]
  rw [e11]
  rw [z11] at H26
  refine CND_f rfl (zero_spec hE H26 (by decide) (by decide) (by decide) (by decide) fun w28 H28 j => ?_)
  have e12 : ∀ V : VS, Ok V.ready → (∀ p, mem V.ready p ↔ 512 ≤ p ∧ p < 512 + 4) → zeroE V (512 * 8192) 40960 = 12 := fun V hok hm => by
    unfold zeroE
    rw [if_neg (by decide), if_neg (by decide), if_neg (by decide), if_neg]
    intro h
    have h' : cnt V.ready 512 517 = 5 := h
    have := (cnt_full hok (a := 512) (b := 517) (by decide)).1 (by omega) 516 (by decide) (by decide)
    have := (hm 516).1 this
    omega
  rw [e12 _ hok2 hP2.ready]
  have z12 : ∀ V : VS, Ok V.ready → (∀ p, mem V.ready p ↔ 512 ≤ p ∧ p < 512 + 4) → zeroV V (512 * 8192) 40960 = V := fun V hok hm => by unfold zeroV; rw [if_neg (by rw [e12 V hok hm]; decide)]
  rw [z12 _ hok2 hP2.ready] at H28
  refine CND_f rfl ?_
  refine LOOP_intro (fun st w' => 0 ≤ st.1 ∧ st.1 ≤ 4096 ∧ Sat (VmemP E b V2 :: [Row E.t_uint64 1 ⟨some ⟨b4, 0, none⟩, 4, 4⟩ (ints .u64 L), Old w]) w') (fun st _ => (4096 - st.1).toNat) ⟨Int.le_refl _, by show (0 : Int) ≤ 4096; omega, H28⟩ ?_
  rintro ⟨i, v⟩ _ w30 ⟨i0, i1, H30⟩
  simp only at i0 i1 ⊢
  refine CND_dec (fun hlt => ⟨by decide, LET_intro fun want hw => ?_⟩) fun hge => vawake_spec hE H30 fun w' H' => hK w' (H'.old 2 rfl)
  rw [Int.tdiv_eq_ediv_of_nonneg i0, u64_id (n := i / 1024) (by omega) (by omega)] at hw
  rw [u64_id (n := 8 * i) (by omega) (by omega), u64_id (n := 512 * 8192 + 8 * i) (by omega) (by omega), u64_id (n := i + 1) (by omega) (by omega)]
  have hld : loadV V2 (512 * 8192 + 8 * i) = (if a ≤ i ∧ i < a + n then 0 else want, 0) := by
    rw [load_plain hP2 (by omega) (by omega) (by omega), hwd2, hwd1]
    by_cases e : a ≤ i ∧ i < a + n
    · rw [if_pos e, if_pos (by omega)]
    · rw [if_neg e, if_neg (by omega), if_pos (by omega), hfl, show (512 * 8192 + 8 * i) / 8192 - 512 = i / 1024 by omega, hL4 _ (by omega) (by omega), hw]
  have hend : ∀ x, x = (if a ≤ i ∧ i < a + n then 0 else want) → ∀ (nx : Int × Unit → World → Prop), (∀ w', Sat (VmemP E b V2 :: [Row E.t_uint64 1 ⟨some ⟨b4, 0, none⟩, 4, 4⟩ (ints .u64 L), Old w]) w' → nx (i + 1, ()) w') →
      F.vmem_Mem_Load E (some ⟨b, 0, none⟩) (512 * 8192 + 8 * i) (fun r39 r40 w41 =>
        JOIN (Bool × Unit) (fun J42 => CND ((r39 : Int) != x) (J42 (true, ()) w41) (J42 ((r40 : Int) != 0, ()) w41)) fun s43 _ w44 => CND (s43.1) (K false w44) (nx (i + 1, ()) w44)) w30 := by
    intro x hx nx hnx
    refine load_spec hE H30 (by omega) (by omega) fun w41 H41 => ?_
    rw [hld]
    exact JOIN_in (CND_f (by rw [hx]; simp) fun j => CND_f rfl (hnx w41 H41))
  have hI : ∀ w', Sat (VmemP E b V2 :: [Row E.t_uint64 1 ⟨some ⟨b4, 0, none⟩, 4, 4⟩ (ints .u64 L), Old w]) w' → (0 ≤ i + 1 ∧ i + 1 ≤ 4096 ∧ Sat (VmemP E b V2 :: [Row E.t_uint64 1 ⟨some ⟨b4, 0, none⟩, 4, 4⟩ (ints .u64 L), Old w]) w') ∧ (4096 - (i + 1)).toNat < (4096 - i).toNat := fun w' h => ⟨⟨by omega, by omega, h⟩, by omega⟩
  refine JOIN_in (JOIN_in (CND_dec (fun h1 j => ?_) fun h1 j => CND_f rfl fun j => ?_))
  · refine CND_dec (fun h2 j => ?_) fun h2 j => ?_
    · exact hend 0 (by rw [if_pos ⟨h1, h2⟩]) (fun st w' => (0 ≤ st.1 ∧ st.1 ≤ 4096 ∧ Sat (VmemP E b V2 :: [Row E.t_uint64 1 ⟨some ⟨b4, 0, none⟩, 4, 4⟩ (ints .u64 L), Old w]) w') ∧ (4096 - st.1).toNat < (4096 - i).toNat) hI
    · exact hend want (by rw [if_neg (fun h => h2 h.2)]) (fun st w' => (0 ≤ st.1 ∧ st.1 ≤ 4096 ∧ Sat (VmemP E b V2 :: [Row E.t_uint64 1 ⟨some ⟨b4, 0, none⟩, 4, 4⟩ (ints .u64 L), Old w]) w') ∧ (4096 - st.1).toNat < (4096 - i).toNat) hI
  · exact hend want (by rw [if_neg (fun h => h1 h.1)]) (fun st w' => (0 ≤ st.1 ∧ st.1 ≤ 4096 ∧ Sat (VmemP E b V2 :: [Row E.t_uint64 1 ⟨some ⟨b4, 0, none⟩, 4, 4⟩ (ints .u64 L), Old w]) w') ∧ (4096 - st.1).toNat < (4096 - i).toNat) hI

end
end Go.Sh

set_option linter.all false
set_option maxRecDepth 40000
set_option maxHeartbeats 4000000
namespace Go.Sh

/-- Where a free place from some page on is known, so is the first one. -/
theorem placed_le {l : Iv} {frm pages a c : Int} (h : Placed l frm pages a) (hm : c % 512 = 0) (hc : 512 ≤ c) (hf : frm ≤ c) (hfree : ∀ m, c ≤ m → m < c + pages → ¬ mem l m) : a ≤ c := by
  by_cases e : c < a
  · obtain ⟨m, h1, h2, h3⟩ := h.first c hm hc hf e
    exact absurd h3 (hfree m h1 h2)
  · omega

/-- What stands between two reservations: chunks that were met, and nothing else. -/
structure PlaceSt (P : List Int) (V : VS) (met : Int → Bool) (i : Nat) : Prop where
  ready : V.ready = []
  rel : V.rel = []
  rf : V.rf = []
  pl : V.pl = P.drop i
  metOk : ∀ p, met p = true → p % 512 = 0 ∧ 512 ≤ p ∧ p + 512 ≤ 34359738368
  laid : ∀ m, mem V.laid m ↔ met (m / 512 * 512) = true
  tot : tot V.laid = 512 * i

section
variable {E : Env} (hE : EnvS E) {w : World}
include hE

theorem places_spec {pl hs : SlV} {zp zh : Nat → Int} (hp : RowA w (.int .u64) pl zp) (hh : RowA w (.int .u64) hs zh)
    {K : Bool → World → Prop} (hK : ∀ w', Ext Nothing w w' → K true w') : F.mallowlaw3_VmemPlaces E pl hs K w := by
  unfold F.mallowlaw3_VmemPlaces
  simp only [Nat.mul_one]
  have h00 : K true w := hK _ (Ext.refl _ _)
  refine JOIN_in (CND_dec (fun _ j => CND_t rfl h00) fun g1 j => CND_dec (fun _ => h00) fun g2 => ?_)
  generalize hL : argL pl.len zp = L
  have hLl : L.length = pl.len := by rw [← hL]; exact argL_len _ _
  have hrow : ∀ w', Sat [Old w] w' → rowAt w' pl.base pl.len (ints .u64 L) := fun w' h => by rw [← hL]; exact rowAt_arg (RowG.old hp (h.old 0 rfl))
  refine app_copy (Sat.start w) rfl hrow (by simp [ints, hLl]) (by omega) (by decide) (oneInts _ _) fun s6 w7 H7 hl6 => ?_
  have hLw : ∀ x ∈ L, 0 ≤ x ∧ x < 18446744073709551616 := fun x hx => by
    rw [← hL] at hx
    simp only [argL, List.mem_map, List.mem_range] at hx
    obtain ⟨i, hi, rfl⟩ := hx
    obtain ⟨_, _, _, hw⟩ := hp.cell1 hi
    exact u64_wf hw
  refine vnew_spec (a1 := ⟨none, 0, 0⟩) (a2 := ⟨none, 0, 0⟩) (pl := L) (rf := []) (fl := []) H7 hLw (fun w' h => by have := h.rowAll; rwa [Nat.mul_one] at this) (by rw [hLl, hl6]) (by omega)
    (fun _ _ => show ([] : List Value) = [] from rfl) rfl (by decide) (fun _ _ => show ([] : List Value) = [] from rfl) rfl (by decide) fun b w9 H9 => CND_f rfl ?_
  refine AL_map H9 .u64 fun b10 w11 H11 _ => ?_
  let mv : (Int → Bool) → Int → Option Value := fun met p => if met p = true then some (.bool true) else none
  have H11' : Sat (VmemP E b (newV L [] []) :: [MapF b10 .u64 (mv fun _ => false), Row E.t_uint64 1 s6 (ints .u64 L), Old w]) w11 := H11.perm (.swap _ _ _)
  refine LOOP_intro (fun st w' => ∃ (i : Nat) (V : VS) (met : Int → Bool), st.1 = (i : Int) ∧ i ≤ hs.len ∧ PlaceSt L V met i ∧ Sat (VmemP E b V :: [MapF b10 .u64 (mv met), Row E.t_uint64 1 s6 (ints .u64 L), Old w]) w') (fun st _ => (hs.len - st.1).toNat)
    ⟨0, _, fun _ => false, rfl, Nat.zero_le _, ⟨rfl, rfl, rfl, rfl, fun _ h => (by cases h), fun m => ⟨fun h => absurd h (mem_nil m), fun h => (by cases h)⟩, rfl⟩, H11'⟩ ?_
  rintro ⟨i', v⟩ _ w13 ⟨i, V, met, hi, hil, hS, H13⟩
  simp only at hi ⊢
  subst hi
  refine CND_dec (fun hlt => ?_) fun hge => ?_
  · have hik : i < hs.len := by omega
    obtain ⟨x0, hx0, hc0, hw0⟩ := (RowG.old hh (H13.old 3 rfl)).cell1 hik
    obtain ⟨hn0, hn1⟩ := u64_wf hw0
    rw [hx0]
    simp only [NC_some, Int.toNat_natCast]
    refine ⟨⟨by omega, by omega⟩, zh i, hc0, ?_⟩
    have hok := H13.vok.ok1
    -- there is always a place
    have hroom : ∃ a, a % 512 = 0 ∧ 512 ≤ a ∧ a ≤ 512 * 30 ∧ ∀ m, a ≤ m → m < a + 512 → ¬ mem V.laid m := by
      -- of thirty chunks one is not met: the count of those that are is at most twenty
      by_cases h : ∃ a, a % 512 = 0 ∧ 512 ≤ a ∧ a ≤ 512 * 30 ∧ ∀ m, a ≤ m → m < a + 512 → ¬ mem V.laid m
      · exact h
      · exfalso
        have hall : ∀ m, 512 ≤ m → m < 512 + 512 * 30 → mem V.laid m := fun m h1 h2 => by
          rw [hS.laid]
          by_cases e : met (m / 512 * 512) = true
          · exact e
          · exfalso
            refine h ⟨m / 512 * 512, by omega, by omega, by omega, fun m' h3 h4 hm => e ?_⟩
            have := (hS.laid m').1 hm
            rwa [show m' / 512 * 512 = m / 512 * 512 by omega] at this
        have hc := (cnt_full hok (a := 512) (b := 512 + 512 * 30) (by decide)).2 hall
        have htot : cnt V.laid 512 (512 + 512 * 30) ≤ tot V.laid := by
          have hcap : ∀ (l : Iv) (x y : Int), Ok l → cnt l x y ≤ tot l := by
            intro l x y h
            induction l with
            | nil => exact Int.le_refl _
            | cons p r ih => have := ih h.tail; have := h.2.1; simp only [cnt, tot, cnt1]; omega
          exact hcap _ _ _ hok
        rw [hS.tot] at htot
        omega
    obtain ⟨c, c1, c2, c3, c4⟩ := hroom
    refine reserve_spec hE H13 hn0 hn1 (by decide) (by decide) (fun h => by omega) (fun _ r h => by rw [hS.rf] at h; cases h) (fun _ _ hu w' H' => ?_) fun _ _ at_ hch w19 H19 => ?_
    · exfalso
      obtain ⟨_, _, h | ⟨a, h1, h2⟩⟩ := hu
      · omega
      · have := placed_le h1 c1 c2 (by omega) c4; omega
    · have hft := hch.fits hok (by decide)
      obtain ⟨f1, f2, f3, f4⟩ := hft
      have hat0 : 0 ≤ at_ := by
        rcases hch with ⟨p, r, h1, _, h2⟩ | ⟨_, ⟨_, h1, _⟩ | ⟨_, _, h1, _⟩⟩
        · rw [h2]
          exact (hLw p (List.mem_of_mem_drop (i := i) (by rw [← hS.pl, h1]; simp))).1
        · have := h1.low; omega
        · have := h1.low; omega
      have hno : met at_ = false := by
        cases e : met at_ with
        | false => rfl
        | true =>
          have := (cnt_none hok (a := at_) (b := at_ + 512) (by omega)).1 f4 at_ (by omega) (by omega)
          exact absurd ((hS.laid at_).2 (by rw [show at_ / 512 * 512 = at_ by omega]; exact e)) this
      refine JOIN_in (CND_f rfl (CND_f (by simp; exact f2) ⟨by decide, ?_⟩))
      rw [Int.tmod_eq_emod_of_nonneg hat0]
      refine CND_f (by rw [f1]; rfl) (CND_dec (fun h => by omega) fun _ => LKP_sl (H19.front 1 rfl) fun _ _ => ⟨false, by show ((mv met at_).getD _) = _; show (if met at_ = true then _ else none : Option Value).getD _ = _; rw [hno]; rfl, fun j => CND_f rfl ?_⟩)
      refine MUPD_sl (H19.front 1 rfl) fun w27 H27 => ?_
      have H28 : Sat (VmemP E b { V with rf := V.rf.tail, pl := V.pl.tail, laid := addL V.laid at_ (at_ + 512) } :: [MapF b10 .u64 (mv fun p => if p = at_ then true else met p), Row E.t_uint64 1 s6 (ints .u64 L), Old w]) w27 := by
        have := Sat.back (Ps := [_, MapF b10 .u64 (mv met), _, _]) 1 H27
        have e : mv (fun p => if p = at_ then true else met p) = fun i => if i = at_ then some (.bool true) else mv met i := by
          funext q; by_cases e : q = at_ <;> simp [mv, e]
        rw [e]; exact this
      -- the state behind it
      have hm : ∀ m, mem (addL V.laid at_ (at_ + 512)) m ↔ mem V.laid m ∨ (at_ ≤ m ∧ m < at_ + 512) := fun m => mem_addL hok (by omega) hat0 (by omega) m
      have hS' : PlaceSt L { V with rf := V.rf.tail, pl := V.pl.tail, laid := addL V.laid at_ (at_ + 512) } (fun p => if p = at_ then true else met p) (i + 1) := by
        refine ⟨hS.ready, hS.rel, by show V.rf.tail = []; rw [hS.rf]; rfl, by show V.pl.tail = _; rw [hS.pl, List.tail_drop], fun p h => ?_, fun m => ?_, ?_⟩
        · have h : (if p = at_ then true else met p) = true := h
          by_cases e : p = at_
          · rw [e]; omega
          · rw [if_neg e] at h; exact hS.metOk p h
        · show mem (addL V.laid at_ (at_ + 512)) m ↔ (if m / 512 * 512 = at_ then true else met (m / 512 * 512)) = true
          rw [hm, hS.laid]
          by_cases e : m / 512 * 512 = at_
          · rw [if_pos e]
            exact ⟨fun _ => rfl, fun _ => .inr ⟨by omega, by omega⟩⟩
          · rw [if_neg e]
            exact ⟨fun h => h.elim id fun h => absurd (by omega : m / 512 * 512 = at_) e, .inl⟩
        · show tot (addL V.laid at_ (at_ + 512)) = _
          rw [(addL_spec hok (a := at_) (b := at_ + 512) (by omega) hat0 (by omega)).2.2, f4, hS.tot]; omega
      have ei : i64 ((i : Int) + 1) = ((i + 1 : Nat) : Int) := by rw [i64_id (by omega) (by omega)]; omega
      refine JOIN_intro (fun st w' => st.1 = false ∧ w' = w27) ?_ ?_
      · refine CND_dec (fun hlt2 => ?_) fun _ => ⟨by first | rfl | trivial, by first | rfl | trivial⟩
        have hipl : i < pl.len := by omega
        obtain ⟨y0, hy0, hd0, hv0⟩ := (RowG.old hp (H28.old 3 rfl)).cell1 hipl
        obtain ⟨u0, u1⟩ := u64_wf hv0
        rw [hy0]
        simp only [NC_some]
        have hii : (0 : Int) ≤ (i : Int) ∧ (i : Int) < (pl.len : Int) := ⟨by omega, by omega⟩
        refine ⟨hii, zp i, hd0, CND_dec (fun hpos => ⟨hii, zp i, hd0, by decide, ?_⟩) fun _ => ⟨by first | rfl | trivial, by first | rfl | trivial⟩⟩
        rw [Int.tmod_eq_emod_of_nonneg u0]
        refine CND_eq (fun hmod => ⟨hii, zp i, hd0, CND_dec (fun hlim => ⟨hii, zp i, hd0, CND_ne (fun hne => ⟨hii, zp i, hd0, ?_⟩) fun _ => ⟨by first | rfl | trivial, by first | rfl | trivial⟩⟩) fun _ => ⟨by first | rfl | trivial, by first | rfl | trivial⟩⟩) fun _ => ⟨by first | rfl | trivial, by first | rfl | trivial⟩
        -- another place than the one that was named: that one was met
        have hhead : V.pl = zp i :: L.drop (i + 1) := by
          rw [hS.pl]
          have : L[i]? = some (zp i) := by rw [← hL]; exact argL_get zp hipl
          exact drop_get this
        have hmet : met (zp i) = true := by
          cases e : met (zp i) with
          | true => rfl
          | false =>
            exfalso
            have hfit : fitsV V.laid (zp i) 512 := by
              refine ⟨hmod, by omega, by omega, (cnt_none hok (by omega)).2 fun m h1 h2 hmm => ?_⟩
              have := (hS.laid m).1 hmm
              rw [show m / 512 * 512 = zp i by omega, e] at this; cases this
            rcases hch with ⟨p, r, h1, _, h2⟩ | ⟨hnh, _⟩
            · rw [hhead] at h1; cases h1; exact hne h2
            · exact hnh _ _ hhead hfit
        refine LKP_sl (H28.front 1 rfl) fun _ _ => ⟨true, ?_, by first | rfl | trivial, by first | rfl | trivial⟩
        show ((if (if zp i = at_ then true else met (zp i)) = true then some (Value.bool true) else none).getD _) = _
        rw [hmet]; simp
      · rintro ⟨bb, u⟩ _ w30 ⟨hbb, rfl⟩
        simp only at hbb
        subst hbb
        refine CND_f rfl (JOIN_in (vstate_spec hE H28 hat0 fun w49 H49 => ?_))
        have inl : ∀ x, at_ ≤ x → x < at_ + 512 → inL (addL V.laid at_ (at_ + 512)) x = true := fun x h1 h2 => inL_iff.2 ((hm x).2 (.inr ⟨h1, h2⟩))
        have inr : ∀ x, inL V.ready x = false := fun x => by rw [hS.ready]; rfl
        have ins : ∀ x, inL V.rel x = false := fun x => by rw [hS.rel]; rfl
        rw [if_pos (inl at_ (by omega) (by omega))]
        simp only [inr, ins, Bool.false_eq_true, if_false]
        refine CND_f rfl ?_
        rw [u64_id (n := at_ + 511) (by omega) (by omega)]
        refine vstate_spec hE H49 (by omega) fun w51 H51 j => ?_
        rw [if_pos (inl (at_ + 511) (by omega) (by omega))]
        simp only [inr, ins, Bool.false_eq_true, if_false]
        exact CND_f rfl ⟨⟨i + 1, _, _, ei, by omega, hS', H51⟩, by simp only [ei]; omega⟩
  · have hin : i = hs.len := by omega
    subst hin
    refine vcount_spec H13 fun w53 H53 => ?_
    rw [if_neg (by decide), if_neg (by decide), if_pos rfl, hS.tot, hS.ready, hS.rel, i64_id (by omega) (by omega), u64_id (by omega) (by omega)]
    exact CND_t (by simp [tot]) (vawake_spec hE H53 fun w' H' => hK w' (H'.old 3 rfl))

end
end Go.Sh

set_option linter.all false
set_option maxRecDepth 40000
set_option maxHeartbeats 4000000
namespace Go.Sh

abbrev VAct : AT := .cons (.int .i64) (.cons (.int .u64) (.cons (.int .u64) (.cons (.int .u64) .nil)))

theorem vact_cells {w : World} {s : SlV} {z : Nat → Int × Int × Int × Int × Unit} (h : RowA w VAct s z) {j : Nat} (hj : j < s.len) : ∃ x, s.base = some x ∧
    w.cell? (x.add (j * 4)) = some (.int .i64 (z j).1) ∧ w.cell? ((x.add (j * 4)).add 1) = some (.int .u64 (z j).2.1) ∧ w.cell? ((x.add (j * 4)).add 2) = some (.int .u64 (z j).2.2.1) ∧ w.cell? ((x.add (j * 4)).add 3) = some (.int .u64 (z j).2.2.2.1) ∧
    (-9223372036854775808 ≤ (z j).1 ∧ (z j).1 < 9223372036854775808) ∧ (0 ≤ (z j).2.1 ∧ (z j).2.1 < 18446744073709551616) ∧ (0 ≤ (z j).2.2.1 ∧ (z j).2.2.1 < 18446744073709551616) ∧ (0 ≤ (z j).2.2.2.1 ∧ (z j).2.2.2.1 < 18446744073709551616) := by
  obtain ⟨x, hx, hc, ho⟩ := h.2.2 j hj
  refine ⟨x, hx, ?_, ?_, ?_, ?_, i64_wf ho.1, u64_wf ho.2.1, u64_wf ho.2.2.1, u64_wf ho.2.2.2.1⟩
  · exact hc 0 _ rfl
  · rw [add_add]; exact hc 1 _ rfl
  · rw [add_add]; exact hc 2 _ rfl
  · rw [add_add]; exact hc 3 _ rfl

theorem RowG.oldA {w w' : World} {s : SlV} {z : Nat → Int × Int × Int × Int × Unit} (h : RowA w VAct s z) (he : Ext Nothing w w') : RowA w' VAct s z :=
  ⟨h.1, h.2.1, fun j hj => by
    obtain ⟨x, h1, h2, h3⟩ := h.2.2 j hj
    exact ⟨x, h1, fun i v hv => he.cell (h2 i v hv) fun f => f, h3⟩⟩

/-- Is more asked for than the law reaches? Whatever it says, nothing has changed. -/
theorem heavy_spec {E : Env} {w : World} {Rs : List Pr} (H : Sat Rs w) {a0 a1 a2 l : SlV} {z : Nat → Int × Int × Int × Int × Unit} (hrow : ∀ w', Sat Rs w' → RowA w' VAct l z) {K : Bool → World → Prop} (hk1 : ∀ w', Sat Rs w' → K true w')
    (hk0 : l.len ≤ 120 → a0.len ≤ 120 → a1.len ≤ 120 → a2.len ≤ 2000 → ∀ w', Sat Rs w' → K false w') : F.mallowlaw3_heavy E a0 a1 a2 l K w := by
  unfold F.mallowlaw3_heavy
  refine AL_cells H fun b1 w2 H2 _ => ?_
  have ht := fun w' (h : Sat (Cells b1 E.t_api_Answers [.slice a0.base a0.len a0.cap, .slice a1.base a1.len a1.cap, .slice a2.base a2.len a2.cap] :: Rs) w') => hk1 w' h.tail
  refine JOIN_in (CND_dec (fun _ j => CND_t rfl (ht _ H2)) fun g1 => ⟨a0, H2.cell0 rfl, CND_dec (fun _ j => CND_t rfl (ht _ H2)) fun g2 => ⟨a1, H2.cell rfl, CND_dec (fun _ j => CND_t rfl (ht _ H2)) fun g3 => ⟨a2, H2.cell rfl, fun j => CND_dec (fun _ => ht _ H2) fun g4 => ?_⟩⟩⟩)
  refine LOOP_intro (fun st w' => 0 ≤ st.2.1 ∧ st.2.1 ≤ l.len ∧ w' = w2) (fun st _ => (l.len - st.2.1).toNat) ⟨Int.le_refl _, by show (0 : Int) ≤ l.len; omega, rfl⟩ ?_
  rintro ⟨p, i, v⟩ _ w10 ⟨i0, i1, rfl⟩
  simp only at i0 i1 ⊢
  refine CND_dec (fun hlt => ?_) fun hge => hk0 (by omega) (by omega) (by omega) (by omega) w10 H2.tail
  obtain ⟨x, hx, c0, c1, c2, c3, _⟩ := vact_cells (hrow _ H2.tail) (j := i.toNat) (by omega)
  rw [hx]
  simp only [NC_some]
  have hii : (0 : Int) ≤ i ∧ i < (l.len : Int) := ⟨i0, by omega⟩
  rw [i64_id (n := i + 1) (by omega) (by omega)]
  refine JOIN_intro (fun _ w' => w' = w10) ?_ ?_
  · refine JOIN_in ⟨hii, _, c0, CND_eq (fun _ => ⟨hii, _, c2, fun j => CND_dec (fun _ => ⟨hii, _, c2, CND_dec (fun _ => ht _ H2) fun _ => ⟨hii, _, c2, CND_dec (fun _ => ht _ H2) fun _ => rfl⟩⟩) fun _ => rfl⟩) fun _ j => CND_f rfl rfl⟩
  · rintro ⟨p', v⟩ _ w14 rfl
    have hn : ∀ q : Int, (0 ≤ i + 1 ∧ i + 1 ≤ (l.len : Int) ∧ w14 = w14) ∧ ((l.len : Int) - (i + 1)).toNat < ((l.len : Int) - i).toNat := fun _ => ⟨⟨by omega, by omega, rfl⟩, by omega⟩
    refine JOIN_in ⟨hii, _, c0, CND_eq (fun _ => ⟨hii, _, c2, CND_dec (fun _ => ⟨hii, _, c2, fun j => CND_dec (fun _ => ht _ H2) fun _ => hn p'⟩) fun _ j => CND_f rfl (hn p')⟩) fun _ j => CND_f rfl (hn p')⟩

/-- The state of a page. -/
def stV (V : VS) (p : Int) : Int := if inL V.laid p then if inL V.ready p then 2 else if inL V.rel p then 3 else 1 else 0

/-- The ways that a page may go. -/
def Goes3 (what s s' : Int) : Prop := s = s' ∨ (what = 1 ∧ s = 0 ∧ s' = 1) ∨ (what = 2 ∧ s ≠ 0 ∧ s' = 2) ∨ (what = 3 ∧ s = 2 ∧ s' = 3)

theorem stV_cases {V : VS} (h : VOk V) (p : Int) : (stV V p = 0 ∧ ¬ mem V.laid p ∧ ¬ mem V.ready p ∧ ¬ mem V.rel p) ∨ (stV V p = 1 ∧ mem V.laid p ∧ ¬ mem V.ready p ∧ ¬ mem V.rel p) ∨ (stV V p = 2 ∧ mem V.laid p ∧ mem V.ready p ∧ ¬ mem V.rel p) ∨ (stV V p = 3 ∧ mem V.laid p ∧ ¬ mem V.ready p ∧ mem V.rel p) := by
  unfold stV
  by_cases h1 : mem V.laid p
  · rw [if_pos (inL_iff.2 h1)]
    by_cases h2 : mem V.ready p
    · rw [if_pos (inL_iff.2 h2)]; exact .inr (.inr (.inl ⟨rfl, h1, h2, h.re p h2⟩))
    · rw [if_neg (fun e => h2 (inL_iff.1 e))]
      by_cases h3 : mem V.rel p
      · rw [if_pos (inL_iff.2 h3)]; exact .inr (.inr (.inr ⟨rfl, h1, h2, h3⟩))
      · rw [if_neg (fun e => h3 (inL_iff.1 e))]; exact .inr (.inl ⟨rfl, h1, h2, h3⟩)
  · rw [if_neg (fun e => h1 (inL_iff.1 e))]; exact .inl ⟨rfl, h1, fun e => h1 (h.rl p e), fun e => h1 (h.el p e)⟩

theorem goes_reserve {V V' : VS} (h : VOk V) (h' : VOk V') {at_ n : Int} (hr : V'.ready = V.ready) (hl : V'.rel = V.rel) (hm : ∀ p, mem V'.laid p ↔ mem V.laid p ∨ (at_ ≤ p ∧ p < at_ + n)) (p : Int) : Goes3 1 (stV V p) (stV V' p) := by
  have c1 := stV_cases h p
  have c2 := stV_cases h' p
  rw [hr, hl, hm] at c2
  unfold Goes3
  by_cases e : mem V.laid p <;> by_cases e2 : mem V.ready p <;> by_cases e3 : mem V.rel p <;> simp only [e, e2, e3, not_true_eq_false, not_false_eq_true, true_or, false_or, and_true, and_false, or_false, true_and, false_and] at c1 c2 <;> omega

theorem goes_commit {V V' : VS} (h : VOk V) (h' : VOk V') {page n : Int} (hl : V'.laid = V.laid) (hin : ∀ p, page ≤ p → p < page + n → mem V.laid p) (hr : ∀ p, mem V'.ready p ↔ mem V.ready p ∨ (page ≤ p ∧ p < page + n)) (he : ∀ p, mem V'.rel p ↔ mem V.rel p ∧ ¬ (page ≤ p ∧ p < page + n)) (p : Int) : Goes3 2 (stV V p) (stV V' p) := by
  have c1 := stV_cases h p
  have c2 := stV_cases h' p
  rw [hl, hr, he] at c2
  unfold Goes3
  by_cases ei : page ≤ p ∧ p < page + n
  · have := hin p ei.1 ei.2
    simp only [this, ei, not_true_eq_false, and_false, or_true, true_and, false_and, or_false, false_or] at c1 c2
    omega
  · have e0 : (page ≤ p ∧ p < page + n) = False := eq_false ei
    rw [e0] at c2
    simp only [or_false, not_false_eq_true, and_true] at c2
    left
    rcases c1 with ⟨a1, a2, a3, a4⟩ | ⟨a1, a2, a3, a4⟩ | ⟨a1, a2, a3, a4⟩ | ⟨a1, a2, a3, a4⟩ <;> rcases c2 with ⟨b1, b2, b3, b4⟩ | ⟨b1, b2, b3, b4⟩ | ⟨b1, b2, b3, b4⟩ | ⟨b1, b2, b3, b4⟩ <;> first
      | contradiction
      | (rw [a1, b1])

theorem goes_release {V V' : VS} (h : VOk V) (h' : VOk V') {page n : Int} (hl : V'.laid = V.laid) (hin : ∀ p, page ≤ p → p < page + n → mem V.ready p) (hr : ∀ p, mem V'.ready p ↔ mem V.ready p ∧ ¬ (page ≤ p ∧ p < page + n)) (he : ∀ p, mem V'.rel p ↔ mem V.rel p ∨ (page ≤ p ∧ p < page + n)) (p : Int) : Goes3 3 (stV V p) (stV V' p) := by
  have c1 := stV_cases h p
  have c2 := stV_cases h' p
  rw [hl, hr, he] at c2
  unfold Goes3
  by_cases ei : page ≤ p ∧ p < page + n
  · have h1 := hin p ei.1 ei.2
    have h2 := h.rl p h1
    have h3 := h.re p h1
    simp only [h1, h2, h3, ei, not_true_eq_false, and_false, or_true, true_and, false_and, or_false, false_or, and_true, not_false_eq_true] at c1 c2
    omega
  · have e0 : (page ≤ p ∧ p < page + n) = False := eq_false ei
    rw [e0] at c2
    simp only [or_false, not_false_eq_true, and_true] at c2
    left
    rcases c1 with ⟨a1, a2, a3, a4⟩ | ⟨a1, a2, a3, a4⟩ | ⟨a1, a2, a3, a4⟩ | ⟨a1, a2, a3, a4⟩ <;> rcases c2 with ⟨b1, b2, b3, b4⟩ | ⟨b1, b2, b3, b4⟩ | ⟨b1, b2, b3, b4⟩ | ⟨b1, b2, b3, b4⟩ <;> first
      | contradiction
      | (rw [a1, b1])

theorem goes_same {V V' : VS} {what : Int} (h1 : V'.laid = V.laid) (h2 : V'.ready = V.ready) (h3 : V'.rel = V.rel) (p : Int) : Goes3 what (stV V p) (stV V' p) := .inl (by unfold stV; rw [h1, h2, h3])

/-- Numbers in a row. -/
def nums (n : Nat) (u : Int → Int) : List Value := (List.range n).map fun i : Nat => .int .i64 (u i)
theorem nums_getI {n : Nat} {u : Int → Int} {i : Int} (h0 : 0 ≤ i) (hi : i < n) : (nums n u)[0 + i.toNat]? = some (.int .i64 (u i)) := by
  rw [Nat.zero_add]
  have : i.toNat < n := by omega
  simp only [nums, List.getElem?_map, List.getElem?_range this, Option.map_some]
  rw [show ((i.toNat : Nat) : Int) = i by omega]
theorem nums_len {n : Nat} {u : Int → Int} : (nums n u).length = n := by simp [nums]
theorem nums_set {n : Nat} {u : Int → Int} {i : Int} (h0 : 0 ≤ i) (v : Int) : (nums n u).set (0 + i.toNat) (.int .i64 v) = nums n fun j => if j = i then v else u j := by
  rw [Nat.zero_add]
  apply List.ext_getElem?
  intro j
  rw [List.getElem?_set]
  by_cases hj : j < n
  · simp only [nums, List.getElem?_map, List.getElem?_range hj, Option.map_some, List.length_map, List.length_range]
    by_cases e : i.toNat = j
    · rw [if_pos e, if_pos (by omega), if_pos (by omega)]
    · rw [if_neg e, if_neg (by omega)]
  · simp only [nums, List.length_map, List.length_range, List.getElem?_map]
    rw [List.getElem?_eq_none (by simp; omega)]
    simp
    omega
theorem mkZero_nums (n : Nat) : mkZero #[.int .i64 0] n = ⟨nums n fun _ => 0⟩ := by
  apply Array.ext'
  apply List.ext_getElem?
  intro i
  by_cases hi : i < n
  · simp [mkZero, nums, hi, Nat.mod_one]
  · rw [List.getElem?_eq_none (by simp [mkZero]; omega), List.getElem?_eq_none (by simp [nums]; omega)]

section
variable {E : Env} (hE : EnvS E) {w : World}
include hE

theorem states_spec {l : SlV} {z : Nat → Int × Int × Int × Int × Unit} (hl : RowA w VAct l z) {K : Bool → World → Prop} (hK : ∀ w', Ext Nothing w w' → K true w') : F.mallowlaw3_VmemStates E l K w := by
  unfold F.mallowlaw3_VmemStates
  simp only [Nat.mul_one, show Int.toNat 60 = 60 from rfl]
  refine heavy_spec (Sat.start w) (fun w' h => hl.oldA (h.old 0 rfl)) (fun w' h => CND_t rfl (hK _ (h.old 0 rfl))) fun hlen _ _ _ w2 H2 => CND_f rfl ?_
  refine vnew_nil hE H2 fun b w4 H4 => CND_f rfl ⟨⟨by decide, by decide, by decide, by decide⟩, ?_⟩
  rw [mkZero_nums]
  refine AL_cells H4 fun b5 w6 H6 _ => ?_
  have H6' := H6.perm (.swap _ _ _)
  refine LOOP_intro (fun st w' => ∃ (i : Nat) (V : VS), st.1 = (i : Int) ∧ i ≤ l.len ∧ Sat (VmemP E b V :: [Cells b5 E.t_int (nums 60 fun k => stV V (508 + k)), Old w]) w') (fun st _ => (l.len - st.1).toNat) ⟨0, newV [] [] [], rfl, Nat.zero_le _, H6'⟩ ?_
  rintro ⟨i', v⟩ _ w8 ⟨i, V, hi, hil, H8⟩
  simp only at hi ⊢
  subst hi
  refine CND_dec (fun hlt => ?_) fun hge => ?_
  · have hik : i < l.len := by omega
    have hii : (0 : Int) ≤ (i : Int) ∧ (i : Int) < (l.len : Int) := ⟨by omega, by omega⟩
    obtain ⟨x, hx, c0, _⟩ := vact_cells (hl.oldA (H8.old 2 rfl)) hik
    have Hd := H8.drew
    obtain ⟨x', hx', d0, d1, d2, d3, wf0, wf1, wf2, wf3⟩ := vact_cells (hl.oldA (Hd.old 2 rfl)) hik
    have hxx : x' = x := by rw [hx] at hx'; exact (Option.some.inj hx').symm
    subst hxx
    rw [hx]
    simp only [NC_some, Int.toNat_natCast]
    have ei : i64 ((i : Int) + 1) = ((i + 1 : Nat) : Int) := by rw [i64_id (by omega) (by omega)]; omega
    refine ⟨hii, _, c0, ?_⟩
    generalize hwhat : (z i).1 = what at c0 d0 wf0
    have hv := H8.vok
    refine JOIN_st (fun _ w' => ∃ V', (∀ p, Goes3 what (stV V p) (stV V' p)) ∧ Sat (VmemP E b V' :: [Cells b5 E.t_int (nums 60 fun k => stV V (508 + k)), Old w]) w') ?_ ?_
    · have hsame : ∀ {w'}, Sat (VmemP E b V :: [Cells b5 E.t_int (nums 60 fun k => stV V (508 + k)), Old w]) w' → ∃ V', (∀ p, Goes3 what (stV V p) (stV V' p)) ∧ Sat (VmemP E b V' :: [Cells b5 E.t_int (nums 60 fun k => stV V (508 + k)), Old w]) w' := fun h => ⟨V, fun p => .inl rfl, h⟩
      have hother : ∀ {V' : VS} {w'}, Sat (VmemP E b V' :: [Cells b5 E.t_int (nums 60 fun k => stV V (508 + k)), Old w]) w' → V'.laid = V.laid → V'.ready = V.ready → V'.rel = V.rel → ∃ V', (∀ p, Goes3 what (stV V p) (stV V' p)) ∧ Sat (VmemP E b V' :: [Cells b5 E.t_int (nums 60 fun k => stV V (508 + k)), Old w]) w' := fun h h1 h2 h3 => ⟨_, goes_same h1 h2 h3, h⟩
      refine CND_eq (fun e1 => ?_) fun e1 => CND_eq (fun e2 => ?_) fun e2 => CND_eq (fun e3 => ?_) fun e3 => CND_eq (fun e5 => ?_) fun e5 => CND_eq (fun e6 => ?_) fun e6 => hsame H8
      · refine ⟨hii, _, d1, hii, _, d2, reserve_spec hE Hd wf1.1 wf1.2 wf2.1 wf2.2 (fun _ => hsame Hd) (fun _ r _ w' H' => hother H' rfl rfl rfl) (fun _ _ _ w' H' => hother H' rfl rfl rfl) fun hb _ at_ hc w' H' => ⟨_, fun p => ?_, H'⟩⟩
        rw [e1]
        have hft := hc.fits hv.ok1 (by omega)
        have h1 := hft.1
        have h2 := hft.2.2.1
        have hmem : ∀ q, mem (addL V.laid at_ (at_ + (z i).2.2.1)) q ↔ mem V.laid q ∨ (at_ ≤ q ∧ q < at_ + (z i).2.2.1) := by
          intro q
          by_cases hat : 0 ≤ at_
          · exact mem_addL hv.ok1 (by omega) hat (by omega) q
          · exfalso
            rcases hc with ⟨p, r, hp, hf, h3⟩ | ⟨_, ⟨_, h3, _⟩ | ⟨_, _, h3, _⟩⟩
            · obtain ⟨g, hI, _⟩ := Sat.vmem.1 H8
              have := (hI.plw p (by rw [hp]; simp)).1
              omega
            · have := h3.low; omega
            · have := h3.low; omega
        exact goes_reserve hv H'.vok rfl rfl hmem p
      · refine ⟨hii, _, d1, hii, _, d2, commit_spec hE Hd wf1.1 wf1.2 wf2.1 wf2.2 (fun _ => hsame Hd) (fun _ _ w' hw' => hsame (Hd.nothing hw')) (fun _ _ _ w' hw' => hsame (Hd.nothing hw')) (fun _ _ _ r _ w' H' => hother H' rfl rfl rfl) fun hr hc _ _ w' H' => ⟨_, fun p => ?_, H'⟩⟩
        rw [e2]
        have r1 := hr.1
        have r2 := hr.2
        have hin := (cnt_full hv.ok1 (a := (z i).2.1) (b := (z i).2.1 + (z i).2.2.1) (by omega)).1 (by omega)
        exact goes_commit hv H'.vok rfl hin (fun q => mem_addL hv.ok2 (by omega) wf1.1 (by omega) q) (fun q => mem_cutL (by omega)) p
      · refine ⟨hii, _, d1, hii, _, d2, release_spec hE Hd wf1.1 wf1.2 wf2.1 wf2.2 (fun _ => hsame Hd) (fun _ _ w' hw' => hsame (Hd.nothing hw')) fun hr hc w' H' => ⟨_, fun p => ?_, H'⟩⟩
        rw [e3]
        have r1 := hr.1
        have r2 := hr.2
        have hin := (cnt_full hv.ok2 (a := (z i).2.1) (b := (z i).2.1 + (z i).2.2.1) (by omega)).1 (by omega)
        exact goes_release hv H'.vok rfl hin (fun q => mem_cutL (by omega)) (fun q => mem_addL hv.ok3 (by omega) wf1.1 (by omega) q) p
      · refine ⟨hii, _, d3, hii, _, d2, store_spec hE Hd wf3.1 wf3.2 fun w' H' => ?_⟩
        by_cases e : storeE V (z i).2.2.2.1 = 0
        · refine hother H' ?_ ?_ ?_ <;> (unfold storeV; rw [if_pos e])
        · have : storeV V (z i).2.2.2.1 (z i).2.2.1 = V := by unfold storeV; rw [if_neg e]
          rw [this] at H'; exact hsame H'
      · refine ⟨hii, _, d3, hii, _, d2, zero_spec hE Hd wf3.1 wf3.2 wf2.1 wf2.2 fun w' H' => ?_⟩
        by_cases e : zeroE V (z i).2.2.2.1 (z i).2.2.1 = 0
        · refine hother H' ?_ ?_ ?_ <;> (unfold zeroV; rw [if_pos e])
        · have : zeroV V (z i).2.2.2.1 (z i).2.2.1 = V := by unfold zeroV; rw [if_neg e]
          rw [this] at H'; exact hsame H'
    · rintro st _ w14 ⟨V', hgo, H14⟩
      refine LOOP_intro (fun st w' => 0 ≤ st.1 ∧ st.1 ≤ 60 ∧ Sat (VmemP E b V' :: [Cells b5 E.t_int (nums 60 fun k => if k < st.1 then stV V' (508 + k) else stV V (508 + k)), Old w]) w') (fun st _ => (60 - st.1).toNat) ⟨Int.le_refl _, by show (0 : Int) ≤ 60; omega, ?_⟩ ?_
      · have : nums 60 (fun k => if k < (0 : Int) then stV V' (508 + k) else stV V (508 + k)) = nums 60 fun k => stV V (508 + k) := by
          unfold nums; apply List.map_congr_left; intro k _; dsimp only; rw [if_neg (by omega)]
        show Sat (VmemP E b V' :: [Cells b5 E.t_int (nums 60 fun k => if k < (0 : Int) then _ else _), Old w]) w14
        rw [this]; exact H14
      rintro ⟨k, v⟩ _ w47 ⟨k0, k1, H47⟩
      simp only at k0 k1 H47 ⊢
      refine CND_dec (fun hlt2 => ?_) fun hge2 => ?_
      · rw [u64_id (n := k) (by omega) (by omega), u64_id (n := 508 + k) (by omega) (by omega), i64_id (n := k + 1) (by omega) (by omega)]
        refine vstate_spec hE H47 (by omega) fun w50 H50 => ?_
        have hcell : w50.cell? ((Addr.mk b5 0 none).add k.toNat) = some (.int .i64 (stV V (508 + k))) := by
          have := (H50.front 1 rfl).cell (nums_getI (n := 60) (u := fun k_1 => if k_1 < k then stV V' (508 + k_1) else stV V (508 + k_1)) k0 hlt2)
          rwa [if_neg (by omega)] at this
        have hb : (0 : Int) ≤ k ∧ k < ((60 : Nat) : Int) := ⟨k0, by omega⟩
        refine ⟨hb, _, hcell, CND_eq (fun heq => ?_) fun hne => ?_⟩
        · refine ⟨⟨by show 0 ≤ k + 1; omega, by show k + 1 ≤ 60; omega, ?_⟩, by show (60 - (k + 1)).toNat < (60 - k).toNat; omega⟩
          have : nums 60 (fun j => if j < k + 1 then stV V' (508 + j) else stV V (508 + j)) = nums 60 fun j => if j < k then stV V' (508 + j) else stV V (508 + j) := by
            unfold nums; apply List.map_congr_left; intro j _; dsimp only
            by_cases e : (j : Int) = k
            · rw [if_pos (by omega), if_neg (by omega), e]; congr 1
            · by_cases e2 : (j : Int) < k
              · rw [if_pos (by omega), if_pos e2]
              · rw [if_neg (by omega), if_neg e2]
          show Sat (VmemP E b V' :: [Cells b5 E.t_int (nums 60 fun j => if j < k + 1 then _ else _), Old w]) w50
          rw [this]; exact H50
        · have hg := hgo (508 + k)
          refine JOIN_st (fun st w' => st.1 = true ∧ w' = w50) ?_ ?_
          · rcases hg with h | ⟨h1, h2, h3⟩ | ⟨h1, h2, h3⟩ | ⟨h1, h2, h3⟩
            · exact absurd h.symm hne
            · exact CND_eq (fun _ => ⟨hb, _, hcell, CND_eq (fun _ => CND_eq (fun _ => ⟨by first | rfl | trivial, by first | rfl | trivial⟩) fun h => absurd h3 h) fun h => absurd h2 h⟩) fun h => absurd h1 h
            · exact CND_eq (fun h => by omega) fun _ => CND_eq (fun _ => ⟨hb, _, hcell, CND_ne (fun _ => CND_eq (fun _ => ⟨by first | rfl | trivial, by first | rfl | trivial⟩) fun h => absurd h3 h) fun h => absurd h h2⟩) fun h => absurd h1 h
            · exact CND_eq (fun h => by omega) fun _ => CND_eq (fun h => by omega) fun _ => CND_eq (fun _ => ⟨hb, _, hcell, CND_eq (fun _ => ⟨by have h4 : stV V' (508 + k) = 3 := h3; unfold stV at h4; simpa using h4, by first | rfl | trivial⟩) fun h => absurd h2 h⟩) fun h => absurd h1 h
          · rintro ⟨bb, u⟩ _ w54 ⟨hbb, rfl⟩
            simp only at hbb
            subst hbb
            refine CND_f rfl ⟨hb, st_cell (H50.front 1 rfl) rfl (by rw [nums_len]; omega) fun w68 H68 => ?_⟩
            rw [nums_set k0] at H68
            have H69 := Sat.back (Ps := [_, Cells b5 E.t_int _, _]) 1 H68
            refine ⟨⟨by show 0 ≤ k + 1; omega, by show k + 1 ≤ 60; omega, ?_⟩, by show (60 - (k + 1)).toNat < (60 - k).toNat; omega⟩
            have : nums 60 (fun j => if j < k + 1 then stV V' (508 + j) else stV V (508 + j)) = nums 60 fun j => if j = k then stV V' (508 + k) else if j < k then stV V' (508 + j) else stV V (508 + j) := by
              unfold nums; apply List.map_congr_left; intro j _; dsimp only
              by_cases e : (j : Int) = k
              · rw [if_pos (by omega), if_pos e, e]
              · rw [if_neg e]
                by_cases e2 : (j : Int) < k
                · rw [if_pos (by omega), if_pos e2]
                · rw [if_neg (by omega), if_neg e2]
            show Sat (VmemP E b V' :: [Cells b5 E.t_int (nums 60 fun j => if j < k + 1 then _ else _), Old w]) w68
            rw [this]; exact H69
      · have hke : k = 60 := by omega
        subst hke
        refine ⟨⟨i + 1, V', ei, by omega, ?_⟩, by simp only [ei]; omega⟩
        have : nums 60 (fun k_1 => if k_1 < (60 : Int) then stV V' (508 + k_1) else stV V (508 + k_1)) = nums 60 fun k => stV V' (508 + k) := by
          unfold nums; apply List.map_congr_left; intro j hj; dsimp only
          rw [List.mem_range] at hj
          rw [if_pos (by omega)]
        rw [this] at H47; exact H47
  · have hv := H8.vok
    have hz : ∀ x, 34359738368 ≤ x → inL V.laid x = false := fun x hx => by
      cases e : inL V.laid x with
      | false => rfl
      | true => have := (hv.lim x (inL_iff.1 e)).2; omega
    refine vstate_spec hE H8 (by decide) fun w70 H70 => ?_
    rw [hz _ (by decide), if_neg (by decide)]
    refine CND_t rfl (vstate_spec hE H70 (by decide) fun w72 H72 => ?_)
    rw [hz _ (by decide), if_neg (by decide)]
    exact CND_t rfl (vawake_spec hE H72 fun w' H' => hK w' (H'.old 2 rfl))

end
end Go.Sh

namespace Go.Proofs.Ytelbllakgljffaa.vmemStates
open Go.ChangeShapes Go.WideShapes Go.ChangeAt Go.RowKit
set_option linter.unusedVariables false
set_option linter.unusedSimpArgs false

theorem own : ownKnob Try.prog.godebug = none := by kernel_rfl
theorem laidOut : laidOutB Try.prog = true := by kernel_rfl

theorem walk (x : Go.Sh.ArgTs [.sl (.cons (.int .i64) (.cons (.int .u64) (.cons (.int .u64) (.cons (.int .u64) (.nil)))))]) (w : World) (h : Go.Sh.argOks w [.sl (.cons (.int .i64) (.cons (.int .u64) (.cons (.int .u64) (.cons (.int .u64) (.nil)))))] x) :
    Calls Try.prog 9 ⟨Go.Sh.argVals [.sl (.cons (.int .i64) (.cons (.int .u64) (.cons (.int .u64) (.cons (.int .u64) (.nil)))))] x⟩ w fun e w' => e = .returned (.bool true) ∧ Below w.heap.size w w' := by
  obtain ⟨a0, u⟩ := x
  obtain ⟨w0, _⟩ := h
  obtain ⟨z0, w0⟩ := w0
  refine (Go.Sh.fits9 _ w (fun v w' => v = .bool true ∧ Below w.heap.size w w') Go.Sh.noP ?_).2.mono ?_
  · show Go.Sh.F.mallowlaw3_VmemStates Go.Sh.env a0 (fun r w' => Value.bool r = .bool true ∧ Below w.heap.size w w') w
    exact Go.Sh.states_spec Go.Sh.envS w0 fun w' h => ⟨rfl, h.below (Nat.le_refl _) fun _ f => f.elim⟩
  · intro e w' hE
    obtain ⟨v, rfl, rfl, h⟩ := hE.val
    exact ⟨rfl, h⟩

set_option maxRecDepth 100000 in
theorem lifted (os : Os) (started : os.Started) (H : Type) (enc : TypeId × Value → H) :
    ReturnsInHanded {} Try.checked os 9 .any (Rows.vmemStatesSpec.pre6 enc Try.prog Try.f9 Rows.vmemStatesRow.domain false) (Rows.vmemStatesSpec.post enc Try.prog Try.f9 false true false false) := by
  refine returnsInHanded_of_change (C := Try.checked) own started (by kernel_rfl) Try.func9
    (ChangeSpec.witness6 (enc := enc) (C := Try.checked) false ⟨#[], #[.slice none 0 0], []⟩ 8 (by kernel_rfl) (by kernel_rfl) (by kernel_rfl) (by kernel_rfl)) ?_
  intro W base args ds gs before hval0 hW hcnd _
  have hW' := hW
  obtain ⟨p, q, hA, hV, rfl, hfz, hnd⟩ := hW
  obtain ⟨rfl, rfl⟩ := trodVars_none hV
  have hargs := Go.Sh.args_of (P := Try.prog) (shs := [.sl (.cons (.int .i64) (.cons (.int .u64) (.cons (.int .u64) (.cons (.int .u64) (.nil)))))]) (by kernel_rfl) (fun j t v ht hv => hval0 j t v (by simpa using ht) (by simpa using hv)) hA
  obtain ⟨x, hx, hok⟩ := Go.Sh.argVals_of hargs
  obtain rfl : args = ⟨Go.Sh.argVals [.sl (.cons (.int .i64) (.cons (.int .u64) (.cons (.int .u64) (.cons (.int .u64) (.nil)))))] x⟩ := Array.toList_inj.1 (by simpa using hx)
  have hlen := Go.Sh.trodAll_len hA
  obtain ⟨d0, rfl⟩ : ∃ d0, ds = [d0] := by
    have hl : ds.length = 1 := hlen
    match ds, hl with
    | [d0], _ => exact ⟨d0, rfl⟩
  refine (walk x W hok).mono fun e W' ⟨he, bel⟩ => ?_
  subst he
  exact ⟨_, rfl, _, _, _, [], _, [], hW', trodAll_mk1 (shut_bool Try.underlying4 _), Go.Sh.trodAll_below laidOut bel (by kernel_rfl) hA, rfl, bel.frame _, fun h => by cases h⟩

theorem over : Rows.vmemStatesRow.holds Try.pinned (OpenSpec.ofChange Rows.vmemStatesSpec) :=
  OpenClaim.holds_of_wide 9 Try.f9 rfl rfl rfl rfl rfl rfl rfl ⟨rfl, rfl, rfl, rfl, rfl⟩ rfl rfl rfl rfl rfl (by kernel_rfl) Try.func9 (by kernel_rfl)
    (of_decide_eq_true (by kernel_rfl)) (by unfold Func.isWrapper; first | (rw [if_pos (by decide +kernel)]; kernel_rfl) | (rw [if_neg (by decide +kernel)]; exact ⟨rfl, rfl⟩))
    (fun os started H enc _ => lifted os started H enc)

/-- ████ THE STATEMENT ████ -/
theorem proved : Rows.VmemStatesSaid := over
#print axioms proved
end Go.Proofs.Ytelbllakgljffaa.vmemStates
