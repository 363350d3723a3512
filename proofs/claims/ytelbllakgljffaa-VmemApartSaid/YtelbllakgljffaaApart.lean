/- The law VmemApart holds: for every input the Go function returns true and leaves its arguments alone. No further condition. -/
import Derived.Test.YtelbllakgljffaaV
import Derived.Test.YtelbllakgljffaaA
import Derived.Test.YtelbllakgljffaaM
import Derived.Test.YtelbllakgljffaaT
import Derived.Test.YtelbllakgljffaaRows
import Derived.WalkKit
import Derived.ProofKit
import Derived.OpenShut
set_option linter.all false
set_option maxRecDepth 40000
set_option maxHeartbeats 4000000
namespace Go.Sh

theorem mem_one {a b p : Int} : mem [(a, b)] p ↔ a ≤ p ∧ p < b := by
  rw [mem_cons]
  have := mem_nil p
  simp only [this, or_false]

section
variable {E : Env} {b : Nat} {V : VS} {Rs : List Pr} {w : World}

theorem placed_nil {hint pages a : Int} (h : Placed [] hint pages a) (hh : hint ≤ 512) : a = 512 := by
  have h1 := h.low
  by_cases e : 512 < a
  · obtain ⟨m, _, _, h4⟩ := h.first 512 (by decide) (by decide) hh e
    exact absurd h4 (mem_nil _)
  · omega

theorem vcount_spec (H : Sat (VmemP E b V :: Rs) w) {k : Int} {K : Int → World → Prop}
    (hK : ∀ w', Sat (VmemP E b V :: Rs) w' → K (if k = 2 then tot V.ready else if k = 3 then tot V.rel else if k = 1 then tot V.laid - tot V.ready - tot V.rel else 0) w') :
    F.vmem_Mem_Count E (some ⟨b, 0, none⟩) k K w := countS_spec H (fun w' hw' => hK w' (H.nothing hw')) H.vok.sums

variable (hE : EnvS E)
include hE

theorem vstate_spec (H : Sat (VmemP E b V :: Rs) w) {x : Int} (h0 : 0 ≤ x) {K : Int → World → Prop}
    (hK : ∀ w', Sat (VmemP E b V :: Rs) w' → K (if inL V.laid x then if inL V.ready x then 2 else if inL V.rel x then 3 else 1 else 0) w') : F.vmem_Mem_State E (some ⟨b, 0, none⟩) x K w :=
  stateS_spec hE H h0 fun w' hw' => hK w' (H.nothing hw')

/-- The first pages that are reserved, with nothing said of places. -/
theorem reserve_first (H : Sat (VmemP E b V :: Rs) w) (hl : V.laid = []) (hp : V.pl = []) (hr : ∀ r, V.rf ≠ true :: r) {K : Int → Int → World → Prop}
    (hK : ∀ w', Sat (VmemP E b { V with rf := V.rf.tail, laid := [(512, 1024)] } :: Rs) w' → K 512 0 w') : F.vmem_Mem_Reserve E (some ⟨b, 0, none⟩) 0 512 K w := by
  refine reserve_spec hE H (by decide) (by decide) (by decide) (by decide) (fun h => by omega) (fun _ r h => absurd h (hr r)) (fun _ _ hu => ?_) fun _ _ a hc w' H' => ?_
  · exfalso
    obtain ⟨_, h | ⟨a, h1, h2⟩, _⟩ := hu
    · omega
    · rw [hl] at h1
      have := placed_nil h1 (by decide)
      omega
  · have ha : a = 512 := by
      rcases hc with ⟨p, r, h1, _⟩ | ⟨_, ⟨_, h1, _⟩ | ⟨_, _, h1, _⟩⟩
      · rw [hp] at h1; cases h1
      · rw [hl] at h1; exact placed_nil h1 (by decide)
      · rw [hl] at h1; exact placed_nil h1 (by decide)
    subst ha
    have e1 : addL V.laid 512 (512 + 512) = [(512, 1024)] := by rw [hl, addL_nil]; rfl
    have e2 : V.pl.tail = V.pl := by rw [hp]; rfl
    rw [e1, e2] at H'
    exact hK w' H'

/-- Pages that are not ready yet are made so: no refusal. -/
theorem commit_ok (H : Sat (VmemP E b V :: Rs) w) {page pages : Int} (h0 : 0 ≤ page) (p0 : 0 < pages) (p1 : page + pages ≤ 34359738368) (hl : ∀ p, page ≤ p → p < page + pages → mem V.laid p) (hn : ∃ p, page ≤ p ∧ p < page + pages ∧ ¬ mem V.ready p)
    (hr : ∀ r, V.rf ≠ true :: r) {K : Int → World → Prop} (hK : ∀ w', Sat (VmemP E b (commitV V page pages) :: Rs) w' → K 0 w') : F.vmem_Mem_Commit E (some ⟨b, 0, none⟩) page pages K w := by
  have hv := H.vok
  have c1 : cnt V.laid page (page + pages) = pages := by have := (cnt_full hv.ok1 (a := page) (b := page + pages) (by omega)).2 hl; omega
  have c2 : cnt V.ready page (page + pages) ≠ pages := fun h => by
    obtain ⟨p, h1, h2, h3⟩ := hn
    exact h3 ((cnt_full hv.ok2 (a := page) (b := page + pages) (by omega)).1 (by omega) p h1 h2)
  refine commit_spec hE H h0 (by omega) (by omega) (by omega) (fun h => absurd ⟨by omega, p1⟩ h) (fun _ h => absurd c1 h) (fun _ _ h => absurd h c2) (fun _ _ _ r h => absurd h (hr r)) fun _ _ _ _ w' H' => hK w' H'

theorem commit_again (H : Sat (VmemP E b V :: Rs) w) {page pages : Int} (h0 : 0 ≤ page) (p0 : 0 < pages) (p1 : page + pages ≤ 34359738368) (hn : ∀ p, page ≤ p → p < page + pages → mem V.ready p)
    {K : Int → World → Prop} (hK : ∀ w', Sat (VmemP E b V :: Rs) w' → K 0 w') : F.vmem_Mem_Commit E (some ⟨b, 0, none⟩) page pages K w := by
  have hv := H.vok
  have c1 : cnt V.laid page (page + pages) = pages := by have := (cnt_full hv.ok1 (a := page) (b := page + pages) (by omega)).2 fun p h1 h2 => hv.rl p (hn p h1 h2); omega
  have c2 : cnt V.ready page (page + pages) = pages := by have := (cnt_full hv.ok2 (a := page) (b := page + pages) (by omega)).2 hn; omega
  refine commit_spec hE H h0 (by omega) (by omega) (by omega) (fun h => absurd ⟨by omega, p1⟩ h) (fun _ h => absurd c1 h) (fun _ _ _ w' hw' => hK w' (H.nothing hw')) (fun _ _ h => absurd c2 h) fun _ _ h => absurd c2 h

theorem commit_refused (H : Sat (VmemP E b V :: Rs) w) {page pages : Int} (h0 : 0 ≤ page) (p0 : 0 < pages) (p1 : page + pages ≤ 34359738368) (hl : ∀ p, page ≤ p → p < page + pages → mem V.laid p) (hn : ∃ p, page ≤ p ∧ p < page + pages ∧ ¬ mem V.ready p)
    {r : List Bool} (hr : V.rf = true :: r) {K : Int → World → Prop} (hK : ∀ w', Sat (VmemP E b { V with rf := r } :: Rs) w' → K 13 w') : F.vmem_Mem_Commit E (some ⟨b, 0, none⟩) page pages K w := by
  have hv := H.vok
  have c1 : cnt V.laid page (page + pages) = pages := by have := (cnt_full hv.ok1 (a := page) (b := page + pages) (by omega)).2 hl; omega
  have c2 : cnt V.ready page (page + pages) ≠ pages := fun h => by
    obtain ⟨p, h1, h2, h3⟩ := hn
    exact h3 ((cnt_full hv.ok2 (a := page) (b := page + pages) (by omega)).1 (by omega) p h1 h2)
  refine commit_spec hE H h0 (by omega) (by omega) (by omega) (fun h => absurd ⟨by omega, p1⟩ h) (fun _ h => absurd c1 h) (fun _ _ h => absurd h c2) (fun _ _ _ r' h w' H' => ?_) fun _ _ _ h => absurd hr (h r)
  rw [hr] at h; cases h
  exact hK w' H'

theorem release_ok (H : Sat (VmemP E b V :: Rs) w) {page pages : Int} (h0 : 0 ≤ page) (p0 : 0 < pages) (p1 : page + pages ≤ 34359738368) (hn : ∀ p, page ≤ p → p < page + pages → mem V.ready p)
    {K : Int → World → Prop} (hK : ∀ w', Sat (VmemP E b (releaseV V page pages) :: Rs) w' → K 0 w') : F.vmem_Mem_Release E (some ⟨b, 0, none⟩) page pages K w := by
  have hv := H.vok
  have c2 : cnt V.ready page (page + pages) = pages := by have := (cnt_full hv.ok2 (a := page) (b := page + pages) (by omega)).2 hn; omega
  exact release_spec hE H h0 (by omega) (by omega) (by omega) (fun h => absurd ⟨by omega, p1⟩ h) (fun _ h => absurd c2 h) fun _ _ w' H' => hK w' H'

theorem vnew_nil (H : Sat Rs w) {K : Option Addr → World → Prop} (hK : ∀ b w', Sat (VmemP E b (newV [] [] []) :: Rs) w' → K (some ⟨b, 0, none⟩) w') : F.vmem_New E ⟨none, 0, 0⟩ ⟨none, 0, 0⟩ ⟨none, 0, 0⟩ K w :=
  vnew_spec (a0 := ⟨none, 0, 0⟩) (a1 := ⟨none, 0, 0⟩) (a2 := ⟨none, 0, 0⟩) H (pl := []) (rf := []) (fl := []) (by simp) (fun _ _ => show ([] : List Value) = [] from rfl) rfl (by decide) (fun _ _ => show ([] : List Value) = [] from rfl) rfl (by decide) (fun _ _ => show ([] : List Value) = [] from rfl) rfl (by decide) hK

theorem vawake_spec (H : Sat Rs w) {K : Bool → World → Prop} (hK : ∀ w', Sat Rs w' → K true w') : F.mallowlaw3_awake E K w := by
  unfold F.mallowlaw3_awake
  refine vnew_nil hE H fun b w2 H2 => CND_f rfl ?_
  refine reserve_first hE H2 rfl rfl (fun r h => by cases h) fun w5 H5 => ?_
  refine commit_ok hE H5 (by decide) (by decide) (by decide) (fun p h1 h2 => mem_one.2 ⟨by omega, by omega⟩) ⟨512, by decide, by decide, mem_nil _⟩ (fun r h => by cases h) fun w7 H7 => ?_
  refine store_spec hE H7 (by decide) (by decide) fun w9 H9 => ?_
  refine load_spec hE H9 (by decide) (by decide) fun w12 H12 => ?_
  have hr : (storeV (commitV { newV [] [] [] with rf := [], laid := [(512, 1024)] } 512 1) 4194304 5).ready = [(512, 513)] := by decide
  refine release_ok hE H12 (by decide) (by decide) (by decide) (fun p h1 h2 => ?_) fun w14 H14 => ?_
  · exact (by rw [show (newV [] [] []).rf.tail = [] from rfl]; rw [hr]; exact mem_one.2 ⟨by omega, by omega⟩)
  refine CND_t rfl (CND_t rfl (CND_t rfl (CND_t (by decide) (CND_t (by decide) (CND_t (by decide) (CND_t rfl ?_))))))
  refine vstate_spec hE H14 (by decide) fun w16 H16 => CND_t (by decide) (vcount_spec H16 fun w18 H18 => ?_)
  have : tot (releaseV (storeV (commitV { newV [] [] [] with rf := [], laid := [(512, 1024)] } 512 1) 4194304 5) 512 1).laid - tot (releaseV (storeV (commitV { newV [] [] [] with rf := [], laid := [(512, 1024)] } 512 1) 4194304 5) 512 1).ready - tot (releaseV (storeV (commitV { newV [] [] [] with rf := [], laid := [(512, 1024)] } 512 1) 4194304 5) 512 1).rel = 511 := by decide
  rw [if_neg (by decide), if_neg (by decide), if_pos rfl]
  have e : (newV [] [] []).rf.tail = [] := rfl
  rw [e, this]
  exact hK w18 H18.tail

end
end Go.Sh

set_option linter.all false
set_option maxRecDepth 40000
set_option maxHeartbeats 4000000
namespace Go.Sh

def argL {α : Type} (n : Nat) (z : Nat → α) : List α := (List.range n).map z
theorem argL_len {α : Type} (n : Nat) (z : Nat → α) : (argL n z).length = n := by simp [argL]
theorem argL_get {α : Type} {n i : Nat} (z : Nat → α) (hi : i < n) : (argL n z)[i]? = some (z i) := by simp [argL, hi]

theorem rowAt_arg {w : World} {k : IntKind} {ok : Int → Prop} {s : SlV} {z : Nat → Int} (h : RowG w (.int k) ok s z) : rowAt w s.base s.len (ints k (argL s.len z)) := by
  cases hb : s.base with
  | none =>
    have : s.len = 0 := by
      rcases Nat.eq_zero_or_pos s.len with e | e
      · exact e
      · obtain ⟨x, hx, _⟩ := h.cell1 e
        rw [hb] at hx; cases hx
    show ints k (argL s.len z) = []
    rw [this]; rfl
  | some a =>
    refine ⟨by simp [ints, argL_len], fun j v hj => ?_⟩
    have hjl : j < s.len := by
      have := (List.getElem?_eq_some_iff.1 hj).1
      simpa [ints, argL_len] using this
    rw [ints_get (argL_get z hjl)] at hj
    cases hj
    obtain ⟨x, hx, hc, _⟩ := h.cell1 hjl
    rw [hb] at hx; cases hx
    exact hc

theorem RowG.old {w w' : World} {k : IntKind} {s : SlV} {z : Nat → Int} (h : RowA w (.int k) s z) (he : Ext Nothing w w') : RowA w' (.int k) s z :=
  ⟨h.1, h.2.1, fun j hj => by
    obtain ⟨x, h1, h2, h3⟩ := h.2.2 j hj
    exact ⟨x, h1, fun i v hv => he.cell (h2 i v hv) fun f => f, h3⟩⟩

/-- A copy of a row, put behind nothing. -/
theorem app_copy {t bytes : Nat} {zs : Array Value} {a : SlV} {vs : List Value} {K : SlV → World → Prop} {Rs : List Pr} {w : World} (H : Sat Rs w) (hz : zs.size = 1) (hrow : ∀ w', Sat Rs w' → rowAt w' a.base a.len vs) (hl : vs.length = a.len) (hlen : a.len ≤ 1099511627776) (hby : bytes ≤ 8)
    (ho : ∀ v ∈ vs, v.oneCell' = true) (hK : ∀ s' w', Sat (Row t 1 s' vs :: Rs) w' → s'.len = a.len → K s' w') :
    AL (.cells ⟨[]⟩ t) w fun b1 w2 => APP t 1 bytes zs ⟨(some (Addr.mk b1 0 none)), 0, 0⟩ a w2 fun s3 w4 => K s3 w4 := by
  refine AL_intro fun w2 hb2 hs2 he2 => ?_
  have H2 : Sat (Row t 1 ⟨some ⟨w.heap.size, 0, none⟩, 0, 0⟩ [] :: Rs) w2 := H.new (P := Row t 1 ⟨some ⟨w.heap.size, 0, none⟩, 0, 0⟩ []) (D := Blk' ⟨some ⟨w.heap.size, 0, none⟩, 0, 0⟩) he2
    ⟨fun _ => Iff.rfl, own_new hb2 rfl (Nat.zero_le _) (by decide)⟩ fun k hk => by obtain ⟨x, hx, rfl⟩ := hk; cases hx; exact Nat.le_refl _
  have hm : (0 + a.len) * bytes ≤ 1099511627776 * 8 := Nat.mul_le_mul (by omega) hby
  exact APP_row H2 hz (by simpa using hrow w2 H2.tail) (by simpa using hl) ho (by simp only; omega) (by simp only; omega) fun s' w' H' hl' => hK s' w' H' (by simpa using hl')

theorem cut_self (a b : Int) : cutL [(a, b)] a b = [] := by
  simp [cutL, cut1]

theorem oneInts (k : IntKind) (l : List Int) : ∀ v ∈ ints k l, v.oneCell' = true := by intro v hv; simp [ints] at hv; obtain ⟨x, _, rfl⟩ := hv; rfl
theorem oneBools (l : List Bool) : ∀ v ∈ bools l, v.oneCell' = true := by intro v hv; simp [bools] at hv; rcases hv with ⟨_, rfl⟩ | ⟨_, rfl⟩ <;> rfl

/-- Between two rounds: so often made ready again. -/
structure FillSt (n : Int) (L : List Int) (V : VS) (i : Int) : Prop where
  laid : V.laid = [(512, 1024)]
  ready : V.ready = [(512, 512 + n)]
  rel : V.rel = []
  rf : V.rf = []
  fl : V.fl = L.drop (i * n).toNat
  wd : ∀ k j, 0 ≤ k → k < n → 0 ≤ j → j < 1024 → V.wd (512 + k) j = if i = 0 then 0 else L.getD ((i - 1) * n + k).toNat 0

/-- Between two pages of a round. -/
def FillIn (E : Env) (w : World) (b : Nat) (s6 : SlV) (L : List Int) (fl : Nat) (n i : Int) (V : VS) (st : Int × Int × Unit) (w' : World) : Prop :=
  0 ≤ st.2.1 ∧ st.2.1 ≤ n ∧ (i = 0 → st.1 = 0) ∧ (0 < i → st.1 = min (fl : Int) ((i - 1) * n + st.2.1)) ∧ Sat (VmemP E b V :: [Row E.t_uint64 1 s6 (ints .u64 L), Old w]) w'

section
variable {E : Env} (hE : EnvS E) {w : World}
include hE

theorem fills_spec {fs : SlV} {zf : Nat → Int} {rounds n : Int} (hf : RowA w (.int .u64) fs zf) (hr : -9223372036854775808 ≤ rounds ∧ rounds < 9223372036854775808) (hn : 0 ≤ n ∧ n < 18446744073709551616)
    {K : Bool → World → Prop} (hK : ∀ w', Ext Nothing w w' → K true w') : F.mallowlaw3_VmemFills E fs rounds n K w := by
  unfold F.mallowlaw3_VmemFills
  simp only [Nat.mul_one]
  have h00 : K true w := hK _ (Ext.refl _ _)
  refine JOIN_in (CND_dec (fun _ j => CND_t rfl h00) fun g1 => CND_dec (fun _ j => CND_t rfl h00) fun g2 => CND_dec (fun _ j => CND_t rfl h00) fun g3 => CND_dec (fun _ j => CND_t rfl h00) fun g4 j => CND_dec (fun _ => h00) fun g5 => ?_)
  generalize hL : argL fs.len zf = L
  have hLl : L.length = fs.len := by rw [← hL]; exact argL_len _ _
  have hrow : ∀ w', Sat [Old w] w' → rowAt w' fs.base fs.len (ints .u64 L) := fun w' h => by rw [← hL]; exact rowAt_arg (RowG.old hf (h.old 0 rfl))
  refine app_copy (Sat.start w) rfl hrow (by simp [ints, hLl]) (by omega) (by decide) (oneInts _ _) fun s6 w7 H7 hl6 => ?_
  refine vnew_spec (a0 := ⟨none, 0, 0⟩) (a1 := ⟨none, 0, 0⟩) (pl := []) (rf := []) (fl := L) H7 (by simp) (fun _ _ => show ([] : List Value) = [] from rfl) rfl (by decide) (fun _ _ => show ([] : List Value) = [] from rfl) rfl (by decide)
    (fun w' h => by have := h.rowAll; rwa [Nat.mul_one] at this) (by rw [hLl, hl6]) (by omega) fun b w9 H9 => CND_f rfl ?_
  refine reserve_first hE H9 rfl rfl (fun r h => by cases h) fun w12 H12 => ?_
  refine JOIN_in (CND_f rfl ?_)
  refine commit_ok hE H12 (by decide) (by omega) (by omega) (fun p h1 h2 => mem_one.2 ⟨by omega, by omega⟩) ⟨512, by omega, by omega, mem_nil _⟩ (fun r h => by cases h) fun w17 H17 j => CND_f rfl ?_
  obtain ⟨V, hst, hH⟩ : ∃ V, FillSt n L V 0 ∧ Sat (VmemP E b V :: [Row E.t_uint64 1 s6 (ints .u64 L), Old w]) w17 := by
    refine ⟨_, ⟨rfl, addL_nil _ _, rfl, rfl, ?_, fun k j _ _ _ _ => ?_⟩, H17⟩
    · show L.drop (cnt [] 512 (512 + n)).toNat = L.drop (0 * n).toNat
      rw [Int.zero_mul]; rfl
    · rw [if_pos rfl]
      show (if 512 ≤ 512 + k ∧ 512 + k < 512 + n ∧ inL [] (512 + k) = true then _ else (0 : Int)) = 0
      rw [if_neg (fun h => by have := h.2.2; cases this)]
  refine LOOP_intro (fun st w' => ∃ V, 0 ≤ st.2.1 ∧ st.2.1 ≤ rounds + 1 ∧ st.1 = min (fs.len : Int) ((max 0 (st.2.1 - 1)) * n) ∧ FillSt n L V st.2.1 ∧ Sat (VmemP E b V :: [Row E.t_uint64 1 s6 (ints .u64 L), Old w]) w') (fun st _ => (rounds + 1 - st.2.1).toNat)
    ⟨V, Int.le_refl _, by show (0 : Int) ≤ rounds + 1; omega, ?_, hst, hH⟩ ?_
  · show (0 : Int) = min (fs.len : Int) ((max 0 ((0 : Int) - 1)) * n)
    rw [show max 0 ((0 : Int) - 1) = 0 by omega, Int.zero_mul]; omega
  rintro ⟨nx, i, v⟩ _ w19 ⟨V, hi0, hi1, hnx, hst, H19⟩
  simp only at hi0 hi1 hnx hst ⊢
  refine CND_dec (fun hle => ?_) fun hgt => ?_
  · have hm0 : 0 ≤ (max 0 (i - 1)) * n := Int.mul_nonneg (by omega) hn.1
    have hm1 : (max 0 (i - 1)) * n ≤ 100 := by
      have := Int.mul_le_mul (show max 0 (i - 1) ≤ 10 by omega) (show n ≤ 10 by omega) hn.1 (by decide)
      omega
    refine LOOP_intro (FillIn E w b s6 L fs.len n i V) (fun st _ => (n - st.2.1).toNat)
      ⟨Int.le_refl _, hn.1, fun e => ?_, fun e => ?_, H19⟩ ?_
    · show nx = 0
      rw [hnx, e, show max 0 ((0 : Int) - 1) = 0 by omega, Int.zero_mul]; omega
    · show nx = min _ ((i - 1) * n + 0)
      rw [hnx, show max 0 (i - 1) = i - 1 by omega, Int.add_zero]
    rintro ⟨nx2, k, v⟩ _ w22 ⟨hk0, hk1, hz, hp, H22⟩
    simp only at hk0 hk1 hz hp ⊢
    refine CND_dec (fun hlt => ?_) fun hge => ?_
    · -- one page
      have hword : V.wd (512 + k) k = if i = 0 then 0 else L.getD ((i - 1) * n + k).toNat 0 := hst.wd k k hk0 hlt hk0 (by omega)
      have hload : loadV V ((512 + k) * 8192 + 8 * k) = (if i = 0 then 0 else L.getD ((i - 1) * n + k).toNat 0, 0) := by
        unfold loadV
        rw [if_neg (by omega), show ((512 + k) * 8192 + 8 * k) / 8192 = 512 + k by omega, show ((512 + k) * 8192 + 8 * k) % 8192 / 8 = k by omega, if_pos (inL_iff.2 (by rw [hst.ready]; exact mem_one.2 ⟨by omega, by omega⟩)), hword]
      have haddr : u64 ((u64 ((u64 (512 + k)) * 8192)) + (u64 (8 * k))) = (512 + k) * 8192 + 8 * k := by
        rw [u64_id (n := 512 + k) (by omega) (by omega), u64_id (n := (512 + k) * 8192) (by omega) (by omega), u64_id (n := 8 * k) (by omega) (by omega), u64_id (by omega) (by omega)]
      have hafter : ∀ (nx3 want : Int) (w26 : World), want = (if i = 0 then 0 else L.getD ((i - 1) * n + k).toNat 0) → (i = 0 → nx3 = 0) → (0 < i → nx3 = min (fs.len : Int) ((i - 1) * n + (k + 1))) → Sat (VmemP E b V :: [Row E.t_uint64 1 s6 (ints .u64 L), Old w]) w26 →
          ∀ (nxt : Int × Int × Unit → World → Prop), (∀ w', Sat (VmemP E b V :: [Row E.t_uint64 1 s6 (ints .u64 L), Old w]) w' → nxt (nx3, u64 (k + 1), ()) w') →
          F.vmem_Mem_Load E (some ⟨b, 0, none⟩) (u64 ((u64 ((u64 (512 + k)) * 8192)) + (u64 (8 * k)))) (fun r32 r33 w34 =>
                      JOIN (Bool × Unit) (fun J35 =>
                        CND ((r32 : Int) != want) (
                          J35 (true, ()) w34
                        ) (
                          J35 ((r33 : Int) != 0, ()) w34
                        )
                      ) fun s36 _ w37 =>
                        CND (s36.1) (
                          K false w37
                        ) (
                          nxt (nx3, u64 (k + 1), ()) w37
                        )
                      ) w26 := by
        intro nx3 want w26 hw _ _ H26 nxt hnxt
        rw [haddr]
        refine load_spec hE H26 (by omega) (by omega) fun w34 H34 => ?_
        rw [hload]
        exact JOIN_in (CND_f (by rw [hw]; simp) fun j => CND_f rfl (hnxt w34 H34))
      have hnext : ∀ (nx3 : Int), (i = 0 → nx3 = 0) → (0 < i → nx3 = min (fs.len : Int) ((i - 1) * n + (k + 1))) → ∀ w', Sat (VmemP E b V :: [Row E.t_uint64 1 s6 (ints .u64 L), Old w]) w' →
          (0 ≤ u64 (k + 1) ∧ u64 (k + 1) ≤ n ∧ (i = 0 → nx3 = 0) ∧ (0 < i → nx3 = min (fs.len : Int) ((i - 1) * n + u64 (k + 1))) ∧ Sat (VmemP E b V :: [Row E.t_uint64 1 s6 (ints .u64 L), Old w]) w') ∧ (n - u64 (k + 1)).toNat < (n - k).toNat := by
        intro nx3 h1 h2 w' H'
        rw [u64_id (n := k + 1) (by omega) (by omega)]
        exact ⟨⟨by omega, by omega, h1, h2, H'⟩, by omega⟩
      have hmax : 0 < i → (i - 1) * n ≤ 100 ∧ 0 ≤ (i - 1) * n := fun h => by rw [show max 0 (i - 1) = i - 1 by omega] at hm1 hm0; exact ⟨hm1, hm0⟩
      refine JOIN_in (JOIN_in (CND_dec (fun hip j => CND_dec (fun hlt2 => ?_) fun hge2 => ?_) fun hip j => CND_f rfl ?_))
      · -- a fill
        have hpv := hp hip
        have hmx := hmax hip
        have hidx : nx2 = (i - 1) * n + k := by omega
        have hnl : nx2.toNat < fs.len := by omega
        obtain ⟨x0, hx0, hc0, _⟩ := (RowG.old hf (H22.old 2 rfl)).cell1 hnl
        rw [hx0]
        simp only [NC_some]
        refine ⟨⟨by omega, hlt2⟩, zf nx2.toNat, hc0, fun j => ?_⟩
        rw [i64_id (n := nx2 + 1) (by omega) (by omega)]
        refine hafter (nx2 + 1) (zf nx2.toNat) w22 ?_ (fun e => by omega) (fun _ => by omega) H22 (fun st w' => FillIn E w b s6 L fs.len n i V st w' ∧ (n - st.2.1).toNat < (n - k).toNat) (hnext (nx2 + 1) (fun e => by omega) fun _ => by omega)
        rw [if_neg (by omega), ← hidx, List.getD_eq_getElem?_getD, ← hL, argL_get zf hnl]; rfl
      · have hpv := hp hip
        have hmx := hmax hip
        refine fun j => hafter nx2 0 w22 ?_ (fun e => by omega) (fun _ => by omega) H22 (fun st w' => FillIn E w b s6 L fs.len n i V st w' ∧ (n - st.2.1).toNat < (n - k).toNat) (hnext nx2 (fun e => by omega) fun _ => by omega)
        rw [if_neg (by omega), List.getD_eq_getElem?_getD, List.getElem?_eq_none (by omega)]; rfl
      · refine fun j => hafter nx2 0 w22 (by rw [if_pos (by omega)]) hz (fun h => by omega) H22 (fun st w' => FillIn E w b s6 L fs.len n i V st w' ∧ (n - st.2.1).toNat < (n - k).toNat) (hnext nx2 hz fun h => by omega)
    · have hke : k = n := by omega
      subst hke
      refine JOIN_in (release_ok hE H22 (by decide) (by omega) (by omega) (fun p h1 h2 => by rw [hst.ready]; exact mem_one.2 ⟨h1, h2⟩) fun w42 H42 => CND_f rfl ?_)
      have r1 : (releaseV V 512 k).ready = [] := by show cutL V.ready _ _ = _; rw [hst.ready, cut_self]
      have r2 : (releaseV V 512 k).rel = [(512, 512 + k)] := by show addL V.rel _ _ = _; rw [hst.rel, addL_nil]
      refine commit_ok hE H42 (by decide) (by omega) (by omega) (fun p h1 h2 => by show mem V.laid p; rw [hst.laid]; exact mem_one.2 ⟨by omega, by omega⟩) ⟨512, by omega, by omega, by rw [r1]; exact mem_nil _⟩ (fun r h => by have h : V.rf = true :: r := h; rw [hst.rf] at h; cases h) fun w44 H44 j => CND_f rfl ?_
      have hmm0 : 0 ≤ i * k := Int.mul_nonneg hi0 hn.1
      refine ⟨⟨_, ?_, ?_, ?_, ?_, H44⟩, ?_⟩
      · show 0 ≤ i64 (i + 1); rw [i64_id (by omega) (by omega)]; omega
      · show i64 (i + 1) ≤ rounds + 1; rw [i64_id (by omega) (by omega)]; omega
      · show nx2 = min (fs.len : Int) (max 0 (i64 (i + 1) - 1) * k)
        rw [i64_id (by omega) (by omega), show max 0 (i + 1 - 1) = i by omega]
        by_cases e : i = 0
        · subst e; rw [hz rfl, Int.zero_mul]; omega
        · rw [hp (by omega), show (i - 1) * k + k = i * k by rw [Int.sub_mul, Int.one_mul]; omega]
      · show FillSt k L (commitV (releaseV V 512 k) 512 k) (i64 (i + 1))
        rw [i64_id (by omega) (by omega)]
        have cr : ∀ p, 512 ≤ p → p ≤ 512 + k → cnt (releaseV V 512 k).rel 512 p = p - 512 := fun p h1 h2 => by rw [r2]; simp only [cnt, cnt1]; omega
        refine ⟨hst.laid, ?_, ?_, ?_, ?_, fun p j hp0 hp1 hj0 hj1 => ?_⟩
        · show addL (releaseV V 512 k).ready _ _ = _; rw [r1, addL_nil]
        · show cutL (releaseV V 512 k).rel _ _ = _; rw [r2, cut_self]
        · show V.rf.tail = _; rw [hst.rf]; rfl
        · show V.fl.drop (cnt (releaseV V 512 k).rel 512 (512 + k)).toNat = _
          rw [cr _ (by omega) (by omega), hst.fl, List.drop_drop]
          congr 1
          rw [Int.add_mul, Int.one_mul]; omega
        · rw [if_neg (by omega), show i + 1 - 1 = i by omega]
          show (if 512 ≤ 512 + p ∧ 512 + p < 512 + k ∧ inL (releaseV V 512 k).rel (512 + p) = true then V.fl.getD (cnt (releaseV V 512 k).rel 512 (512 + p)).toNat 0 else _) = _
          rw [if_pos ⟨by omega, by omega, inL_iff.2 (by rw [r2]; exact mem_one.2 ⟨by omega, by omega⟩)⟩, cr _ (by omega) (by omega), hst.fl]
          rw [List.getD_eq_getElem?_getD, List.getElem?_drop, List.getD_eq_getElem?_getD]
          congr 2
          omega
      · show (rounds + 1 - i64 (i + 1)).toNat < (rounds + 1 - i).toNat
        rw [i64_id (by omega) (by omega)]; omega
  · refine vcount_spec H19 fun w46 H46 => ?_
    rw [if_pos rfl, hst.ready]
    have : tot [((512 : Int), 512 + n)] = n := by simp [tot]; omega
    rw [this]
    exact CND_t (by simp) (vawake_spec hE H46 fun w' H' => hK w' (H'.old 2 rfl))

end
end Go.Sh

set_option linter.all false
set_option maxRecDepth 40000
set_option maxHeartbeats 4000000
namespace Go.Sh

/-- A new row, out of what is written into it at once. -/
theorem AL_row {t n : Nat} {vs : List Value} {Rs : List Pr} {w : World} (H : Sat Rs w) (hn : vs.length = n) (hl : n < 9223372036854775808) {K : Nat → World → Prop} (hK : ∀ b w', Sat (Row t 1 ⟨some ⟨b, 0, none⟩, n, n⟩ vs :: Rs) w' → K b w') : AL (.cells ⟨vs⟩ t) w K :=
  AL_intro fun w' hb hs he => hK _ _ (H.new (P := Row t 1 ⟨some ⟨w.heap.size, 0, none⟩, n, n⟩ vs) (D := Blk' ⟨some ⟨w.heap.size, 0, none⟩, n, n⟩) he
    ⟨fun _ => Iff.rfl, own_new hb (by omega) (Nat.zero_le _) hl⟩ fun k hk => by obtain ⟨x, hx, rfl⟩ := hk; cases hx; exact Nat.le_refl _)

def RefV (k : Nat) : VS := ⟨[(512, 1024)], [], [], fun _ _ => 0, [], List.replicate k true, []⟩

section
variable {E : Env} (hE : EnvS E) {w : World}
include hE

theorem refused_spec {pages n : Int} (hp : 0 ≤ pages ∧ pages < 18446744073709551616) (hn : -9223372036854775808 ≤ n ∧ n < 9223372036854775808)
    {K : Bool → World → Prop} (hK : ∀ w', Ext Nothing w w' → K true w') : F.mallowlaw3_VmemRefused E pages n K w := by
  unfold F.mallowlaw3_VmemRefused
  have h00 : K true w := hK _ (Ext.refl _ _)
  refine JOIN_in (CND_dec (fun _ j => CND_t rfl h00) fun g1 => CND_dec (fun _ j => CND_t rfl h00) fun g2 => CND_dec (fun _ j => CND_t rfl h00) fun g3 j => CND_dec (fun _ => h00) fun g4 => ?_)
  refine AL_row (Sat.start w) rfl (by decide) fun b4 w5 H5 => ?_
  refine LOOP_intro (fun st w' => ∃ i : Nat, st.2.1 = (i : Int) ∧ (i : Int) ≤ n ∧ st.1.len = i + 1 ∧ Sat [Row E.t_bool 1 st.1 (bools (false :: List.replicate i true)), Old w] w') (fun st _ => (n - st.2.1).toNat) ⟨0, rfl, by show (0 : Int) ≤ n; omega, rfl, H5⟩ ?_
  rintro ⟨s, i', v⟩ _ w7 ⟨i, hi, hil, hsl, H7⟩
  simp only at hi hsl H7 ⊢
  subst hi
  refine CND_dec (fun hlt => ?_) fun hge => ?_
  · refine AL_cells H7 fun b9 w10 H10 _ => APP_one (news := [.bool true]) H10 rfl rfl (by simp [Value.oneCell']) (by omega) (by omega) fun s11 w12 H12 hl12 => ?_
    have ei : i64 ((i : Int) + 1) = ((i + 1 : Nat) : Int) := by rw [i64_id (by omega) (by omega)]; omega
    refine ⟨⟨i + 1, ei, by omega, by show s11.len = i + 1 + 1; omega, ?_⟩, by simp only [ei]; omega⟩
    have : bools (false :: List.replicate (i + 1) true) = bools (false :: List.replicate i true) ++ [.bool true] := by
      simp only [bools, List.replicate_succ' (n := i), List.map_cons, List.map_append, List.cons_append, List.map_nil]
    rw [this]; exact H12
  · have hin : (i : Int) = n := by omega
    refine vnew_spec (a0 := ⟨none, 0, 0⟩) (a2 := ⟨none, 0, 0⟩) (pl := []) (rf := false :: List.replicate i true) (fl := []) H7 (by simp) (fun _ _ => show ([] : List Value) = [] from rfl) rfl (by decide)
      (fun w' h => by have := h.rowAll; rwa [Nat.mul_one] at this) (by simp; omega) (by omega) (fun _ _ => show ([] : List Value) = [] from rfl) rfl (by decide) fun b w9 H9 => CND_f rfl ?_
    refine reserve_first hE H9 rfl rfl (fun r h => by cases h) fun w17 H17 => CND_f rfl ?_
    have H17' : Sat (VmemP E b (RefV (i - 0)) :: [Row E.t_bool 1 s (bools (false :: List.replicate i true)), Old w]) w17 := H17
    refine LOOP_intro (fun st w' => ∃ k : Nat, st.1 = (k : Int) ∧ k ≤ i ∧ Sat (VmemP E b (RefV (i - k)) :: [Row E.t_bool 1 s (bools (false :: List.replicate i true)), Old w]) w') (fun st _ => (n - st.1).toNat) ⟨0, rfl, Nat.zero_le _, H17'⟩ ?_
    rintro ⟨k', v⟩ _ w19 ⟨k, hk, hki, H19⟩
    simp only at hk ⊢
    subst hk
    refine CND_dec (fun hlt => ?_) fun hge => ?_
    · have hrf : (RefV (i - k)).rf = true :: List.replicate (i - (k + 1)) true := by
        show List.replicate (i - k) true = _
        rw [show i - k = (i - (k + 1)) + 1 by omega, List.replicate_succ]
      have ek : i64 ((k : Int) + 1) = ((k + 1 : Nat) : Int) := by rw [i64_id (by omega) (by omega)]; omega
      refine JOIN_intro (fun _ w' => Sat (VmemP E b (RefV (i - (k + 1))) :: [Row E.t_bool 1 s (bools (false :: List.replicate i true)), Old w]) w') ⟨by decide, CND_eq (fun _ => ?_) fun _ => ?_⟩ fun st _ w23 H23 => ?_
      · exact commit_refused hE H19 (by decide) (by omega) (by omega) (fun p h1 h2 => mem_one.2 ⟨by omega, by omega⟩) ⟨512, by omega, by omega, mem_nil _⟩ hrf fun w' H' => CND_f rfl H'
      · refine reserve_spec hE H19 (by decide) (by decide) (by decide) (by decide) (fun h => by omega) (fun _ r h w' H' => ?_) (fun _ h => absurd hrf (h _)) fun _ h => absurd hrf (h _)
        rw [hrf] at h; cases h
        exact CND_f rfl H'
      · refine JOIN_in (vcount_spec H23 fun w33 H33 => ?_)
        refine CND_f ?_ (vcount_spec H33 fun w35 H35 j => CND_f ?_ ?_)
        · rw [if_neg (by decide), if_neg (by decide), if_pos rfl]; rfl
        · rw [if_pos rfl]; rfl
        · exact ⟨⟨k + 1, ek, by omega, H35⟩, by simp only [ek]; omega⟩
    · have hke : i - k = 0 := by omega
      rw [hke] at H19
      refine commit_ok hE H19 (by decide) (by omega) (by omega) (fun p h1 h2 => mem_one.2 ⟨by omega, by omega⟩) ⟨512, by omega, by omega, mem_nil _⟩ (fun r h => by cases h) fun w37 H37 => CND_t rfl (vcount_spec H37 fun w39 H39 => ?_)
      have hr : (commitV (RefV 0) 512 pages).ready = [(512, 512 + pages)] := addL_nil _ _
      rw [if_pos rfl, hr]
      refine CND_t (by simp [tot]; omega) ?_
      refine commit_again hE H39 (by decide) (by omega) (by omega) (fun p h1 h2 => by rw [hr]; exact mem_one.2 ⟨h1, h2⟩) fun w41 H41 => CND_t rfl (vawake_spec hE H41 fun w' H' => hK w' (H'.old 2 rfl))

end
end Go.Sh

set_option linter.all false
set_option maxRecDepth 40000
set_option maxHeartbeats 4000000
namespace Go.Sh

/-- Pages from 512 on are ready, and nothing else is there but what is reserved. -/
structure Plain (n : Int) (V : VS) : Prop where
  laid : V.laid = [(512, 1024)]
  ready : ∀ p, mem V.ready p ↔ 512 ≤ p ∧ p < 512 + n
  rel : V.rel = []
  rf : V.rf = []

theorem load_plain {n : Int} {V : VS} (h : Plain n V) {addr : Int} (h8 : addr % 8 = 0) (h1 : 512 ≤ addr / 8192) (h2 : addr / 8192 < 512 + n) : loadV V addr = (V.wd (addr / 8192) (addr % 8192 / 8), 0) := by
  unfold loadV
  rw [if_neg (by omega), if_pos (inL_iff.2 ((h.ready _).2 ⟨h1, h2⟩))]
theorem store_plain {n : Int} {V : VS} (h : Plain n V) {addr : Int} (h8 : addr % 8 = 0) (h1 : 512 ≤ addr / 8192) (h2 : addr / 8192 < 512 + n) : storeE V addr = 0 := by
  unfold storeE
  rw [if_neg (by omega), if_pos (inL_iff.2 ((h.ready _).2 ⟨h1, h2⟩))]

section
variable {E : Env} (hE : EnvS E) {w : World} {Rs : List Pr} {b : Nat} {V : VS}
include hE

/-- Pages are let go and made ready again. -/
theorem again_spec (H : Sat (VmemP E b V :: Rs) w) {n page pages : Int} (hV : Plain n V) (h0 : 512 ≤ page) (p0 : 0 < pages) (p1 : page + pages ≤ 512 + n) (hn : n ≤ 512) {K : Int → World → Prop} {X : World → Prop}
    (hF : ∀ V' w', Plain n V' → V'.fl = V.fl.drop pages.toNat → (∀ p i, V'.wd p i = if page ≤ p ∧ p < page + pages then V.fl.getD (p - page).toNat 0 else V.wd p i) → Sat (VmemP E b V' :: Rs) w' → K 0 w') :
    F.vmem_Mem_Release E (some ⟨b, 0, none⟩) page pages (fun r w' => CND (r != 0) (X w') (F.vmem_Mem_Commit E (some ⟨b, 0, none⟩) page pages K w')) w := by
  have hv := H.vok
  refine release_ok hE H (by omega) p0 (by omega) (fun p h1 h2 => (hV.ready p).2 ⟨by omega, by omega⟩) fun w1 H1 => CND_f rfl ?_
  have r1 : ∀ p, mem (releaseV V page pages).ready p ↔ mem V.ready p ∧ ¬ (page ≤ p ∧ p < page + pages) := fun p => mem_cutL (by omega)
  have r2 : (releaseV V page pages).rel = [(page, page + pages)] := by show addL V.rel _ _ = _; rw [hV.rel, addL_nil]
  have hv1 := H1.vok
  refine commit_ok hE H1 (by omega) p0 (by omega) (fun p h1 h2 => by show mem V.laid p; rw [hV.laid]; exact mem_one.2 ⟨by omega, by omega⟩) ⟨page, by omega, by omega, fun h => ((r1 _).1 h).2 ⟨by omega, by omega⟩⟩ (fun r h => by have h : V.rf = true :: r := h; rw [hV.rf] at h; cases h) fun w2 H2 => ?_
  have cr : ∀ p, page ≤ p → p ≤ page + pages → cnt (releaseV V page pages).rel page p = p - page := fun p h1 h2 => by rw [r2]; simp only [cnt, cnt1]; omega
  refine hF (commitV (releaseV V page pages) page pages) w2 ⟨hV.laid, fun p => ?_, ?_, ?_⟩ ?_ (fun p i => ?_) H2
  · rw [show (commitV (releaseV V page pages) page pages).ready = addL (releaseV V page pages).ready page (page + pages) from rfl, mem_addL hv1.ok2 (by omega) (by omega) (by omega), r1, hV.ready]
    omega
  · show cutL (releaseV V page pages).rel _ _ = _; rw [r2, cut_self]
  · show V.rf.tail = _; rw [hV.rf]; rfl
  · show V.fl.drop (cnt (releaseV V page pages).rel page (page + pages)).toNat = _
    rw [cr _ (by omega) (by omega)]
    congr 1; omega
  · show (if page ≤ p ∧ p < page + pages ∧ inL (releaseV V page pages).rel p = true then V.fl.getD (cnt (releaseV V page pages).rel page p).toNat 0 else (if page ≤ p ∧ p < page + pages then 0 else V.wd p i)) = _
    by_cases e : page ≤ p ∧ p < page + pages
    · rw [if_pos ⟨e.1, e.2, inL_iff.2 (by rw [r2]; exact mem_one.2 e)⟩, if_pos e, cr _ e.1 (by omega)]
    · rw [if_neg (fun h => e ⟨h.1, h.2.1⟩), if_neg e, if_neg e]

theorem keeps_spec {ws : SlV} {zs : Nat → Int} {fill page : Int} (hs : RowA w (.int .u64) ws zs) (hp : -9223372036854775808 ≤ page ∧ page < 9223372036854775808)
    {K : Bool → World → Prop} (hK : ∀ w', Ext Nothing w w' → K true w') : F.mallowlaw3_VmemKeeps E ws fill page K w := by
  unfold F.mallowlaw3_VmemKeeps
  simp only [Nat.mul_one]
  have h00 : K true w := hK _ (Ext.refl _ _)
  refine JOIN_in (CND_dec (fun _ j => CND_t rfl h00) fun g1 => CND_dec (fun _ j => CND_t rfl h00) fun g2 j => CND_dec (fun _ => h00) fun g3 => ?_)
  refine AL_row (n := 1) (Sat.start w) rfl (by decide) fun b4 w5 H5 => ?_
  refine vnew_spec (a0 := ⟨none, 0, 0⟩) (a1 := ⟨none, 0, 0⟩) (pl := []) (rf := []) (fl := [fill]) H5 (by simp) (fun _ _ => show ([] : List Value) = [] from rfl) rfl (by decide) (fun _ _ => show ([] : List Value) = [] from rfl) rfl (by decide)
    (fun w' h => by have := h.rowAll; rwa [Nat.mul_one] at this) rfl (by show 1 ≤ 1099511627776; decide) fun b w7 H7 => CND_f rfl ?_
  refine reserve_first hE H7 rfl rfl (fun r h => by cases h) fun w10 H10 => ?_
  refine JOIN_in (CND_f rfl ?_)
  refine commit_ok hE H10 (by decide) (by omega) (by omega) (fun p h1 h2 => mem_one.2 ⟨by omega, by omega⟩) ⟨512, by omega, by omega, mem_nil _⟩ (fun r h => by cases h) fun w15 H15 j => CND_f rfl ?_
  obtain ⟨V, hP, hfl, hH⟩ : ∃ V, Plain 8 V ∧ V.fl = [fill] ∧ Sat (VmemP E b V :: [Row E.t_uint64 1 ⟨some ⟨b4, 0, none⟩, 1, 1⟩ [.int .u64 fill], Old w]) w15 := by
    refine ⟨_, ⟨rfl, fun p => ?_, rfl, rfl⟩, rfl, H15⟩
    show mem (addL [] 512 (512 + 8)) p ↔ _
    rw [addL_nil]; exact mem_one
  refine LOOP_intro (fun st w' => ∃ (i : Nat) (V : VS), st.1 = (i : Int) ∧ i ≤ ws.len ∧ Plain 8 V ∧ V.fl = [fill] ∧ (∀ j : Nat, j < i → V.wd ((4194304 + 640 * (j : Int)) / 8192) ((4194304 + 640 * (j : Int)) % 8192 / 8) = zs j) ∧
      Sat (VmemP E b V :: [Row E.t_uint64 1 ⟨some ⟨b4, 0, none⟩, 1, 1⟩ [.int .u64 fill], Old w]) w') (fun st _ => (ws.len - st.1).toNat) ⟨0, V, rfl, Nat.zero_le _, hP, hfl, fun j h => by omega, hH⟩ ?_
  rintro ⟨i', v⟩ _ w17 ⟨i, V, hi, hil, hP, hfl, hwd, H17⟩
  simp only at hi ⊢
  subst hi
  have haddr : ∀ i : Nat, i < 100 → u64 ((u64 (512 * 8192)) + (u64 ((u64 ((i : Nat) : Int)) * 640))) = 4194304 + 640 * (i : Int) := fun i hi => by
    rw [u64_id (n := 512 * 8192) (by decide) (by decide), u64_id (n := (i : Int)) (by omega) (by omega), u64_id (n := (i : Int) * 640) (by omega) (by omega), u64_id (by omega) (by omega)]; omega
  refine CND_dec (fun hlt => ?_) fun hge => ?_
  · have hik : i < ws.len := by omega
    obtain ⟨x0, hx0, hc0, _⟩ := (RowG.old hs (H17.old 2 rfl)).cell1 hik
    rw [hx0]
    simp only [NC_some, Int.toNat_natCast]
    refine ⟨⟨by omega, by omega⟩, zs i, hc0, ?_⟩
    rw [haddr i (by omega)]
    have hse := store_plain hP (addr := 4194304 + 640 * (i : Int)) (by omega) (by omega) (by omega)
    refine store_spec hE H17 (by omega) (by omega) fun w22 H22 => ?_
    rw [hse]
    have ei : i64 ((i : Int) + 1) = ((i + 1 : Nat) : Int) := by rw [i64_id (by omega) (by omega)]; omega
    have hsv : storeV V (4194304 + 640 * (i : Int)) (zs i) = { V with wd := fun p k => if p = (4194304 + 640 * (i : Int)) / 8192 ∧ k = (4194304 + 640 * (i : Int)) % 8192 / 8 then zs i else V.wd p k } := by unfold storeV; rw [if_pos hse]
    refine CND_f rfl ⟨⟨i + 1, storeV V (4194304 + 640 * (i : Int)) (zs i), ei, by omega, by rw [hsv]; exact ⟨hP.laid, hP.ready, hP.rel, hP.rf⟩, by rw [hsv]; exact hfl, fun j hj => ?_, H22⟩, by simp only [ei]; omega⟩
    rw [hsv]
    show (if (4194304 + 640 * (j : Int)) / 8192 = (4194304 + 640 * (i : Int)) / 8192 ∧ (4194304 + 640 * (j : Int)) % 8192 / 8 = (4194304 + 640 * (i : Int)) % 8192 / 8 then zs i else V.wd _ _) = zs j
    by_cases e : j = i
    · subst e; rw [if_pos ⟨rfl, rfl⟩]
    · rw [if_neg (by omega), hwd j (by omega)]
  · have hin : i = ws.len := by omega
    subst hin
    rw [u64_id (n := page) (by omega) (by omega), u64_id (n := 512 + page) (by omega) (by omega)]
    refine JOIN_in (again_spec hE H17 hP (by omega) (by decide) (by omega) (by decide) fun V' w29 hP' hfl' hwd' H29 j => CND_f rfl ?_)
    have hw2 : ∀ i : Nat, i < ws.len → loadV V' (4194304 + 640 * (i : Int)) = (if (4194304 + 640 * (i : Int)) / 8192 = 512 + page then fill else zs i, 0) := fun i hi => by
      rw [load_plain hP' (by omega) (by omega) (by omega), hwd']
      by_cases e : (4194304 + 640 * (i : Int)) / 8192 = 512 + page
      · rw [if_pos e, if_pos (by omega), hfl, show ((4194304 + 640 * (i : Int)) / 8192 - (512 + page)).toNat = 0 by omega]; rfl
      · rw [if_neg e, if_neg (by omega), hwd i hi]
    refine LOOP_intro (fun st w' => ∃ (k : Nat), st.1 = (k : Int) ∧ k ≤ ws.len ∧ Sat (VmemP E b V' :: [Row E.t_uint64 1 ⟨some ⟨b4, 0, none⟩, 1, 1⟩ [.int .u64 fill], Old w]) w') (fun st _ => (ws.len - st.1).toNat) ⟨0, rfl, Nat.zero_le _, H29⟩ ?_
    rintro ⟨k', v⟩ _ w31 ⟨k, hk, hkl, H31⟩
    simp only at hk ⊢
    subst hk
    refine CND_dec (fun hlt => LET_intro fun addr ha => ?_) fun hge => ?_
    · rw [haddr k (by omega)] at ha
      have hkk : k < ws.len := by omega
      subst ha
      refine load_spec hE H31 (by omega) (by omega) fun w36 H36 => ?_
      obtain ⟨x0, hx0, hc0, _⟩ := (RowG.old hs (H36.old 2 rfl)).cell1 hkk
      rw [hx0]
      simp only [NC_some, Int.toNat_natCast]
      rw [Int.tdiv_eq_ediv_of_nonneg (by omega), u64_id (n := (4194304 + 640 * (k : Int)) / 8192) (by omega) (by omega), hw2 k hkk]
      have ek : i64 ((k : Int) + 1) = ((k + 1 : Nat) : Int) := by rw [i64_id (by omega) (by omega)]; omega
      have hend : ∀ want, want = (if (4194304 + 640 * (k : Int)) / 8192 = 512 + page then fill else zs k) → ∀ (nx : Int × Unit → World → Prop), nx (i64 ((k : Int) + 1), ()) w36 → 
          JOIN (Bool × Unit) (fun J42 => 8192 ≠ (0 : Int) ∧
            CND (decide (((4194304 + 640 * (k : Int)) / 8192 : Int) < (u64 (512 + 8)))) (
              CND (((if (4194304 + 640 * (k : Int)) / 8192 = 512 + page then fill else zs k) : Int) != want) (J42 (true, ()) w36) (J42 (((0 : Int) : Int) != 0, ()) w36)) (J42 (false, ()) w36)) fun s43 _ w44 =>
            CND (s43.1) (K false w44) (nx (i64 ((k : Int) + 1), ()) w44) := by
        intro want hw nx hnx
        subst hw
        exact JOIN_in ⟨by decide, CND_dec (fun _ => CND_f (by simp) fun j => CND_f rfl hnx) fun _ j => CND_f rfl hnx⟩
      have hI : ∀ w', Sat (VmemP E b V' :: [Row E.t_uint64 1 ⟨some ⟨b4, 0, none⟩, 1, 1⟩ [.int .u64 fill], Old w]) w' → (∃ (k_1 : Nat), i64 ((k : Int) + 1) = (k_1 : Int) ∧ k_1 ≤ ws.len ∧ Sat (VmemP E b V' :: [Row E.t_uint64 1 ⟨some ⟨b4, 0, none⟩, 1, 1⟩ [.int .u64 fill], Old w]) w') ∧ (ws.len - i64 ((k : Int) + 1)).toNat < (ws.len - (k : Int)).toNat := fun w' h =>
        ⟨⟨k + 1, ek, by omega, h⟩, by rw [ek]; omega⟩
      refine ⟨⟨by omega, by omega⟩, zs k, hc0, JOIN_in ⟨by decide, CND_eq (fun e j => hend fill (by rw [if_pos e]) (fun st w' => (∃ (k_1 : Nat), st.1 = (k_1 : Int) ∧ k_1 ≤ ws.len ∧ Sat (VmemP E b V' :: [Row E.t_uint64 1 ⟨some ⟨b4, 0, none⟩, 1, 1⟩ [.int .u64 fill], Old w]) w') ∧ (ws.len - st.1).toNat < (ws.len - (k : Int)).toNat) (hI w36 H36))
        fun e j => hend (zs k) (by rw [if_neg e]) (fun st w' => (∃ (k_1 : Nat), st.1 = (k_1 : Int) ∧ k_1 ≤ ws.len ∧ Sat (VmemP E b V' :: [Row E.t_uint64 1 ⟨some ⟨b4, 0, none⟩, 1, 1⟩ [.int .u64 fill], Old w]) w') ∧ (ws.len - st.1).toNat < (ws.len - (k : Int)).toNat) (hI w36 H36)⟩⟩
    · rw [u64_id (n := (512 + page) * 8192) (by omega) (by omega), u64_id (n := (512 + page) * 8192 + 8184) (by omega) (by omega)]
      refine load_spec hE H31 (by omega) (by omega) fun w47 H47 => ?_
      have : loadV V' ((512 + page) * 8192 + 8184) = (fill, 0) := by
        rw [load_plain hP' (by omega) (by omega) (by omega), hwd', if_pos (by omega), hfl, show (((512 + page) * 8192 + 8184) / 8192 - (512 + page)).toNat = 0 by omega]; rfl
      rw [this]
      exact CND_t (by simp) (CND_t rfl (vawake_spec hE H47 fun w' H' => hK w' (H'.old 2 rfl)))

end
end Go.Sh

set_option linter.all false
set_option maxRecDepth 40000
set_option maxHeartbeats 4000000
namespace Go.Sh

section
variable {E : Env} (hE : EnvS E) {w : World}
include hE

theorem zeroes_spec {fill a n : Int} (hf : 0 ≤ fill ∧ fill < 18446744073709551616) (ha : 0 ≤ a ∧ a < 18446744073709551616) (hn : 0 ≤ n ∧ n < 18446744073709551616)
    {K : Bool → World → Prop} (hK : ∀ w', Ext Nothing w w' → K true w') : F.mallowlaw3_VmemZeroes E fill a n K w := by
  unfold F.mallowlaw3_VmemZeroes
  have h00 : K true w := hK _ (Ext.refl _ _)
  refine JOIN_in (CND_dec (fun _ j => CND_t rfl h00) fun g1 => CND_dec (fun _ j => CND_t rfl h00) fun g2 j => ?_)
  rw [u64_id (n := a + n) (by omega) (by omega)]
  refine CND_dec (fun _ => h00) fun g3 => ?_
  generalize hL : [fill, u64 (fill + 1), u64 (fill + 2), u64 (fill + 3)] = L
  have hLL : [Value.int .u64 fill, .int .u64 (u64 (fill + 1)), .int .u64 (u64 (fill + 2)), .int .u64 (u64 (fill + 3))] = ints .u64 L := by rw [← hL]; rfl
  have hLlen : L.length = 4 := by rw [← hL]; rfl
  rw [hLL]
  refine AL_row (n := 4) (Sat.start w) (by simp [ints, hLlen]) (by decide) fun b4 w5 H5 => ?_
  refine vnew_spec (a0 := ⟨none, 0, 0⟩) (a1 := ⟨none, 0, 0⟩) (pl := []) (rf := []) (fl := L) H5 (by simp) (fun _ _ => show ([] : List Value) = [] from rfl) rfl (by decide) (fun _ _ => show ([] : List Value) = [] from rfl) rfl (by decide)
    (fun w' h => by have := h.rowAll; rwa [Nat.mul_one] at this) hLlen (by show 4 ≤ 1099511627776; decide) fun b w7 H7 => CND_f rfl ?_
  refine reserve_first hE H7 rfl rfl (fun r h => by cases h) fun w10 H10 => ?_
  refine JOIN_in (CND_f rfl ?_)
  refine commit_ok hE H10 (by decide) (by omega) (by omega) (fun p h1 h2 => mem_one.2 ⟨by omega, by omega⟩) ⟨512, by omega, by omega, mem_nil _⟩ (fun r h => by cases h) fun w15 H15 => CND_f rfl ?_
  obtain ⟨V, hP, hfl, hH⟩ : ∃ V, Plain 4 V ∧ V.fl = L ∧ Sat (VmemP E b V :: [Row E.t_uint64 1 ⟨some ⟨b4, 0, none⟩, 4, 4⟩ (ints .u64 L), Old w]) w15 := by
    refine ⟨_, ⟨rfl, fun p => ?_, rfl, rfl⟩, rfl, H15⟩
    show mem (addL [] 512 (512 + 4)) p ↔ _
    rw [addL_nil]; exact mem_one
  refine again_spec hE hH hP (by decide) (by decide) (by decide) (by decide) fun V1 w19 hP1 hfl1 hwd1 H19 j => CND_f rfl ?_
  have hL4 : ∀ k : Int, 0 ≤ k → k < 4 → L.getD k.toNat 0 = u64 (fill + k) := by
    intro k h0 h1
    have : k = 0 ∨ k = 1 ∨ k = 2 ∨ k = 3 := by omega
    rw [← hL]
    rcases this with rfl | rfl | rfl | rfl
    · show fill = u64 (fill + 0); rw [Int.add_zero, u64_id hf.1 hf.2]
    · rfl
    · rfl
    · rfl
  -- the clearing
  rw [u64_id (n := 512 * 8192) (by decide) (by decide), u64_id (n := 8 * a) (by omega) (by omega), u64_id (n := 512 * 8192 + 8 * a) (by omega) (by omega), u64_id (n := 8 * n) (by omega) (by omega), u64_id (n := 512 * 8192 + 4) (by decide) (by decide)]
  have hz0 : zeroE V1 (512 * 8192 + 8 * a) (8 * n) = 0 := by
    unfold zeroE
    rw [if_neg (by omega)]
    by_cases e : 8 * n = 0
    · rw [if_pos e]
    · rw [if_neg e, if_neg (by omega), if_pos]
      have := (cnt_full H19.vok.ok2 (a := (512 * 8192 + 8 * a) / 8192) (b := (512 * 8192 + 8 * a + 8 * n - 1) / 8192 + 1) (by omega)).2 fun p h1 h2 => (hP1.ready p).2 ⟨by omega, by omega⟩
      omega
  refine JOIN_in (zero_spec hE H19 (by omega) (by omega) (by omega) (by omega) fun w24 H24 => ?_)
  rw [hz0]
  have hV2 : zeroV V1 (512 * 8192 + 8 * a) (8 * n) = { V1 with wd := fun p i => if 512 * 8192 + 8 * a ≤ p * 8192 + i * 8 ∧ p * 8192 + i * 8 < 512 * 8192 + 8 * a + 8 * n then 0 else V1.wd p i } := by unfold zeroV; rw [if_pos hz0]
  have hok2 := H24.vok.ok2
  obtain ⟨V2, hP2, hwd2, H24, hok2⟩ : ∃ V2, Plain 4 V2 ∧ (∀ p i, V2.wd p i = if 512 * 8192 + 8 * a ≤ p * 8192 + i * 8 ∧ p * 8192 + i * 8 < 512 * 8192 + 8 * a + 8 * n then 0 else V1.wd p i) ∧ Sat (VmemP E b V2 :: [Row E.t_uint64 1 ⟨some ⟨b4, 0, none⟩, 4, 4⟩ (ints .u64 L), Old w]) w24 ∧ Ok V2.ready :=
    ⟨zeroV V1 (512 * 8192 + 8 * a) (8 * n), by rw [hV2]; exact ⟨hP1.laid, hP1.ready, hP1.rel, hP1.rf⟩, fun _ _ => by rw [hV2], H24, hok2⟩
  refine CND_f rfl (zero_spec hE H24 (by decide) (by decide) (by decide) (by decide) fun w26 H26 => ?_)
  have e11 : ∀ V, zeroE V (512 * 8192 + 4) 8 = 11 := fun V => by unfold zeroE; rw [if_pos (by decide)]
  have z11 : ∀ V, zeroV V (512 * 8192 + 4) 8 = V := fun V => by unfold zeroV; rw [if_neg (by rw [e11]; decide)]
  rw [e11]
  rw [z11] at H26
  refine CND_f rfl (zero_spec hE H26 (by decide) (by decide) (by decide) (by decide) fun w28 H28 j => ?_)
  have e12 : ∀ V : VS, Ok V.ready → (∀ p, mem V.ready p ↔ 512 ≤ p ∧ p < 512 + 4) → zeroE V (512 * 8192) 40960 = 12 := fun V hok hm => by
    unfold zeroE
    rw [if_neg (by decide), if_neg (by decide), if_neg (by decide), if_neg]
    intro h
    have h' : cnt V.ready 512 517 = 5 := h
    have := (cnt_full hok (a := 512) (b := 517) (by decide)).1 (by omega) 516 (by decide) (by decide)
    have := (hm 516).1 this
    omega
  rw [e12 _ hok2 hP2.ready]
  have z12 : ∀ V : VS, Ok V.ready → (∀ p, mem V.ready p ↔ 512 ≤ p ∧ p < 512 + 4) → zeroV V (512 * 8192) 40960 = V := fun V hok hm => by unfold zeroV; rw [if_neg (by rw [e12 V hok hm]; decide)]
  rw [z12 _ hok2 hP2.ready] at H28
  refine CND_f rfl ?_
  refine LOOP_intro (fun st w' => 0 ≤ st.1 ∧ st.1 ≤ 4096 ∧ Sat (VmemP E b V2 :: [Row E.t_uint64 1 ⟨some ⟨b4, 0, none⟩, 4, 4⟩ (ints .u64 L), Old w]) w') (fun st _ => (4096 - st.1).toNat) ⟨Int.le_refl _, by show (0 : Int) ≤ 4096; omega, H28⟩ ?_
  rintro ⟨i, v⟩ _ w30 ⟨i0, i1, H30⟩
  simp only at i0 i1 ⊢
  refine CND_dec (fun hlt => ⟨by decide, LET_intro fun want hw => ?_⟩) fun hge => vawake_spec hE H30 fun w' H' => hK w' (H'.old 2 rfl)
  rw [Int.tdiv_eq_ediv_of_nonneg i0, u64_id (n := i / 1024) (by omega) (by omega)] at hw
  rw [u64_id (n := 8 * i) (by omega) (by omega), u64_id (n := 512 * 8192 + 8 * i) (by omega) (by omega), u64_id (n := i + 1) (by omega) (by omega)]
  have hld : loadV V2 (512 * 8192 + 8 * i) = (if a ≤ i ∧ i < a + n then 0 else want, 0) := by
    rw [load_plain hP2 (by omega) (by omega) (by omega), hwd2, hwd1]
    by_cases e : a ≤ i ∧ i < a + n
    · rw [if_pos e, if_pos (by omega)]
    · rw [if_neg e, if_neg (by omega), if_pos (by omega), hfl, show (512 * 8192 + 8 * i) / 8192 - 512 = i / 1024 by omega, hL4 _ (by omega) (by omega), hw]
  have hend : ∀ x, x = (if a ≤ i ∧ i < a + n then 0 else want) → ∀ (nx : Int × Unit → World → Prop), (∀ w', Sat (VmemP E b V2 :: [Row E.t_uint64 1 ⟨some ⟨b4, 0, none⟩, 4, 4⟩ (ints .u64 L), Old w]) w' → nx (i + 1, ()) w') →
      F.vmem_Mem_Load E (some ⟨b, 0, none⟩) (512 * 8192 + 8 * i) (fun r39 r40 w41 =>
        JOIN (Bool × Unit) (fun J42 => CND ((r39 : Int) != x) (J42 (true, ()) w41) (J42 ((r40 : Int) != 0, ()) w41)) fun s43 _ w44 => CND (s43.1) (K false w44) (nx (i + 1, ()) w44)) w30 := by
    intro x hx nx hnx
    refine load_spec hE H30 (by omega) (by omega) fun w41 H41 => ?_
    rw [hld]
    exact JOIN_in (CND_f (by rw [hx]; simp) fun j => CND_f rfl (hnx w41 H41))
  have hI : ∀ w', Sat (VmemP E b V2 :: [Row E.t_uint64 1 ⟨some ⟨b4, 0, none⟩, 4, 4⟩ (ints .u64 L), Old w]) w' → (0 ≤ i + 1 ∧ i + 1 ≤ 4096 ∧ Sat (VmemP E b V2 :: [Row E.t_uint64 1 ⟨some ⟨b4, 0, none⟩, 4, 4⟩ (ints .u64 L), Old w]) w') ∧ (4096 - (i + 1)).toNat < (4096 - i).toNat := fun w' h => ⟨⟨by omega, by omega, h⟩, by omega⟩
  refine JOIN_in (JOIN_in (CND_dec (fun h1 j => ?_) fun h1 j => CND_f rfl fun j => ?_))
  · refine CND_dec (fun h2 j => ?_) fun h2 j => ?_
    · exact hend 0 (by rw [if_pos ⟨h1, h2⟩]) (fun st w' => (0 ≤ st.1 ∧ st.1 ≤ 4096 ∧ Sat (VmemP E b V2 :: [Row E.t_uint64 1 ⟨some ⟨b4, 0, none⟩, 4, 4⟩ (ints .u64 L), Old w]) w') ∧ (4096 - st.1).toNat < (4096 - i).toNat) hI
    · exact hend want (by rw [if_neg (fun h => h2 h.2)]) (fun st w' => (0 ≤ st.1 ∧ st.1 ≤ 4096 ∧ Sat (VmemP E b V2 :: [Row E.t_uint64 1 ⟨some ⟨b4, 0, none⟩, 4, 4⟩ (ints .u64 L), Old w]) w') ∧ (4096 - st.1).toNat < (4096 - i).toNat) hI
  · exact hend want (by rw [if_neg (fun h => h1 h.1)]) (fun st w' => (0 ≤ st.1 ∧ st.1 ≤ 4096 ∧ Sat (VmemP E b V2 :: [Row E.t_uint64 1 ⟨some ⟨b4, 0, none⟩, 4, 4⟩ (ints .u64 L), Old w]) w') ∧ (4096 - st.1).toNat < (4096 - i).toNat) hI

end
end Go.Sh

set_option linter.all false
set_option maxRecDepth 40000
set_option maxHeartbeats 4000000
namespace Go.Sh

/-- Where a free place from some page on is known, so is the first one. -/
theorem placed_le {l : Iv} {frm pages a c : Int} (h : Placed l frm pages a) (hm : c % 512 = 0) (hc : 512 ≤ c) (hf : frm ≤ c) (hfree : ∀ m, c ≤ m → m < c + pages → ¬ mem l m) : a ≤ c := by
  by_cases e : c < a
  · obtain ⟨m, h1, h2, h3⟩ := h.first c hm hc hf e
    exact absurd h3 (hfree m h1 h2)
  · omega

/-- What stands between two reservations: chunks that were met, and nothing else. -/
structure PlaceSt (P : List Int) (V : VS) (met : Int → Bool) (i : Nat) : Prop where
  ready : V.ready = []
  rel : V.rel = []
  rf : V.rf = []
  pl : V.pl = P.drop i
  metOk : ∀ p, met p = true → p % 512 = 0 ∧ 512 ≤ p ∧ p + 512 ≤ 34359738368
  laid : ∀ m, mem V.laid m ↔ met (m / 512 * 512) = true
  tot : tot V.laid = 512 * i

section
variable {E : Env} (hE : EnvS E) {w : World}
include hE

theorem places_spec {pl hs : SlV} {zp zh : Nat → Int} (hp : RowA w (.int .u64) pl zp) (hh : RowA w (.int .u64) hs zh)
    {K : Bool → World → Prop} (hK : ∀ w', Ext Nothing w w' → K true w') : F.mallowlaw3_VmemPlaces E pl hs K w := by
  unfold F.mallowlaw3_VmemPlaces
  simp only [Nat.mul_one]
  have h00 : K true w := hK _ (Ext.refl _ _)
  refine JOIN_in (CND_dec (fun _ j => CND_t rfl h00) fun g1 j => CND_dec (fun _ => h00) fun g2 => ?_)
  generalize hL : argL pl.len zp = L
  have hLl : L.length = pl.len := by rw [← hL]; exact argL_len _ _
  have hrow : ∀ w', Sat [Old w] w' → rowAt w' pl.base pl.len (ints .u64 L) := fun w' h => by rw [← hL]; exact rowAt_arg (RowG.old hp (h.old 0 rfl))
  refine app_copy (Sat.start w) rfl hrow (by simp [ints, hLl]) (by omega) (by decide) (oneInts _ _) fun s6 w7 H7 hl6 => ?_
  have hLw : ∀ x ∈ L, 0 ≤ x ∧ x < 18446744073709551616 := fun x hx => by
    rw [← hL] at hx
    simp only [argL, List.mem_map, List.mem_range] at hx
    obtain ⟨i, hi, rfl⟩ := hx
    obtain ⟨_, _, _, hw⟩ := hp.cell1 hi
    exact u64_wf hw
  refine vnew_spec (a1 := ⟨none, 0, 0⟩) (a2 := ⟨none, 0, 0⟩) (pl := L) (rf := []) (fl := []) H7 hLw (fun w' h => by have := h.rowAll; rwa [Nat.mul_one] at this) (by rw [hLl, hl6]) (by omega)
    (fun _ _ => show ([] : List Value) = [] from rfl) rfl (by decide) (fun _ _ => show ([] : List Value) = [] from rfl) rfl (by decide) fun b w9 H9 => CND_f rfl ?_
  refine AL_map H9 .u64 fun b10 w11 H11 _ => ?_
  let mv : (Int → Bool) → Int → Option Value := fun met p => if met p = true then some (.bool true) else none
  have H11' : Sat (VmemP E b (newV L [] []) :: [MapF b10 .u64 (mv fun _ => false), Row E.t_uint64 1 s6 (ints .u64 L), Old w]) w11 := H11.perm (.swap _ _ _)
  refine LOOP_intro (fun st w' => ∃ (i : Nat) (V : VS) (met : Int → Bool), st.1 = (i : Int) ∧ i ≤ hs.len ∧ PlaceSt L V met i ∧ Sat (VmemP E b V :: [MapF b10 .u64 (mv met), Row E.t_uint64 1 s6 (ints .u64 L), Old w]) w') (fun st _ => (hs.len - st.1).toNat)
    ⟨0, _, fun _ => false, rfl, Nat.zero_le _, ⟨rfl, rfl, rfl, rfl, fun _ h => (by cases h), fun m => ⟨fun h => absurd h (mem_nil m), fun h => (by cases h)⟩, rfl⟩, H11'⟩ ?_
  rintro ⟨i', v⟩ _ w13 ⟨i, V, met, hi, hil, hS, H13⟩
  simp only at hi ⊢
  subst hi
  refine CND_dec (fun hlt => ?_) fun hge => ?_
  · have hik : i < hs.len := by omega
    obtain ⟨x0, hx0, hc0, hw0⟩ := (RowG.old hh (H13.old 3 rfl)).cell1 hik
    obtain ⟨hn0, hn1⟩ := u64_wf hw0
    rw [hx0]
    simp only [NC_some, Int.toNat_natCast]
    refine ⟨⟨by omega, by omega⟩, zh i, hc0, ?_⟩
    have hok := H13.vok.ok1
    -- there is always a place
    have hroom : ∃ a, a % 512 = 0 ∧ 512 ≤ a ∧ a ≤ 512 * 30 ∧ ∀ m, a ≤ m → m < a + 512 → ¬ mem V.laid m := by
      -- of thirty chunks one is not met: the count of those that are is at most twenty
      by_cases h : ∃ a, a % 512 = 0 ∧ 512 ≤ a ∧ a ≤ 512 * 30 ∧ ∀ m, a ≤ m → m < a + 512 → ¬ mem V.laid m
      · exact h
      · exfalso
        have hall : ∀ m, 512 ≤ m → m < 512 + 512 * 30 → mem V.laid m := fun m h1 h2 => by
          rw [hS.laid]
          by_cases e : met (m / 512 * 512) = true
          · exact e
          · exfalso
            refine h ⟨m / 512 * 512, by omega, by omega, by omega, fun m' h3 h4 hm => e ?_⟩
            have := (hS.laid m').1 hm
            rwa [show m' / 512 * 512 = m / 512 * 512 by omega] at this
        have hc := (cnt_full hok (a := 512) (b := 512 + 512 * 30) (by decide)).2 hall
        have htot : cnt V.laid 512 (512 + 512 * 30) ≤ tot V.laid := by
          have hcap : ∀ (l : Iv) (x y : Int), Ok l → cnt l x y ≤ tot l := by
            intro l x y h
            induction l with
            | nil => exact Int.le_refl _
            | cons p r ih => have := ih h.tail; have := h.2.1; simp only [cnt, tot, cnt1]; omega
          exact hcap _ _ _ hok
        rw [hS.tot] at htot
        omega
    obtain ⟨c, c1, c2, c3, c4⟩ := hroom
    refine reserve_spec hE H13 hn0 hn1 (by decide) (by decide) (fun h => by omega) (fun _ r h => by rw [hS.rf] at h; cases h) (fun _ _ hu w' H' => ?_) fun _ _ at_ hch w19 H19 => ?_
    · exfalso
      obtain ⟨_, _, h | ⟨a, h1, h2⟩⟩ := hu
      · omega
      · have := placed_le h1 c1 c2 (by omega) c4; omega
    · have hft := hch.fits hok (by decide)
      obtain ⟨f1, f2, f3, f4⟩ := hft
      have hat0 : 0 ≤ at_ := by
        rcases hch with ⟨p, r, h1, _, h2⟩ | ⟨_, ⟨_, h1, _⟩ | ⟨_, _, h1, _⟩⟩
        · rw [h2]
          exact (hLw p (List.mem_of_mem_drop (i := i) (by rw [← hS.pl, h1]; simp))).1
        · have := h1.low; omega
        · have := h1.low; omega
      have hno : met at_ = false := by
        cases e : met at_ with
        | false => rfl
        | true =>
          have := (cnt_none hok (a := at_) (b := at_ + 512) (by omega)).1 f4 at_ (by omega) (by omega)
          exact absurd ((hS.laid at_).2 (by rw [show at_ / 512 * 512 = at_ by omega]; exact e)) this
      refine JOIN_in (CND_f rfl (CND_f (by simp; exact f2) ⟨by decide, ?_⟩))
      rw [Int.tmod_eq_emod_of_nonneg hat0]
      refine CND_f (by rw [f1]; rfl) (CND_dec (fun h => by omega) fun _ => LKP_sl (H19.front 1 rfl) fun _ _ => ⟨false, by show ((mv met at_).getD _) = _; show (if met at_ = true then _ else none : Option Value).getD _ = _; rw [hno]; rfl, fun j => CND_f rfl ?_⟩)
      refine MUPD_sl (H19.front 1 rfl) fun w27 H27 => ?_
      have H28 : Sat (VmemP E b { V with rf := V.rf.tail, pl := V.pl.tail, laid := addL V.laid at_ (at_ + 512) } :: [MapF b10 .u64 (mv fun p => if p = at_ then true else met p), Row E.t_uint64 1 s6 (ints .u64 L), Old w]) w27 := by
        have := Sat.back (Ps := [_, MapF b10 .u64 (mv met), _, _]) 1 H27
        have e : mv (fun p => if p = at_ then true else met p) = fun i => if i = at_ then some (.bool true) else mv met i := by
          funext q; by_cases e : q = at_ <;> simp [mv, e]
        rw [e]; exact this
      -- the state behind it
      have hm : ∀ m, mem (addL V.laid at_ (at_ + 512)) m ↔ mem V.laid m ∨ (at_ ≤ m ∧ m < at_ + 512) := fun m => mem_addL hok (by omega) hat0 (by omega) m
      have hS' : PlaceSt L { V with rf := V.rf.tail, pl := V.pl.tail, laid := addL V.laid at_ (at_ + 512) } (fun p => if p = at_ then true else met p) (i + 1) := by
        refine ⟨hS.ready, hS.rel, by show V.rf.tail = []; rw [hS.rf]; rfl, by show V.pl.tail = _; rw [hS.pl, List.tail_drop], fun p h => ?_, fun m => ?_, ?_⟩
        · have h : (if p = at_ then true else met p) = true := h
          by_cases e : p = at_
          · rw [e]; omega
          · rw [if_neg e] at h; exact hS.metOk p h
        · show mem (addL V.laid at_ (at_ + 512)) m ↔ (if m / 512 * 512 = at_ then true else met (m / 512 * 512)) = true
          rw [hm, hS.laid]
          by_cases e : m / 512 * 512 = at_
          · rw [if_pos e]
            exact ⟨fun _ => rfl, fun _ => .inr ⟨by omega, by omega⟩⟩
          · rw [if_neg e]
            exact ⟨fun h => h.elim id fun h => absurd (by omega : m / 512 * 512 = at_) e, .inl⟩
        · show tot (addL V.laid at_ (at_ + 512)) = _
          rw [(addL_spec hok (a := at_) (b := at_ + 512) (by omega) hat0 (by omega)).2.2, f4, hS.tot]; omega
      have ei : i64 ((i : Int) + 1) = ((i + 1 : Nat) : Int) := by rw [i64_id (by omega) (by omega)]; omega
      refine JOIN_intro (fun st w' => st.1 = false ∧ w' = w27) ?_ ?_
      · refine CND_dec (fun hlt2 => ?_) fun _ => ⟨by first | rfl | trivial, by first | rfl | trivial⟩
        have hipl : i < pl.len := by omega
        obtain ⟨y0, hy0, hd0, hv0⟩ := (RowG.old hp (H28.old 3 rfl)).cell1 hipl
        obtain ⟨u0, u1⟩ := u64_wf hv0
        rw [hy0]
        simp only [NC_some]
        have hii : (0 : Int) ≤ (i : Int) ∧ (i : Int) < (pl.len : Int) := ⟨by omega, by omega⟩
        refine ⟨hii, zp i, hd0, CND_dec (fun hpos => ⟨hii, zp i, hd0, by decide, ?_⟩) fun _ => ⟨by first | rfl | trivial, by first | rfl | trivial⟩⟩
        rw [Int.tmod_eq_emod_of_nonneg u0]
        refine CND_eq (fun hmod => ⟨hii, zp i, hd0, CND_dec (fun hlim => ⟨hii, zp i, hd0, CND_ne (fun hne => ⟨hii, zp i, hd0, ?_⟩) fun _ => ⟨by first | rfl | trivial, by first | rfl | trivial⟩⟩) fun _ => ⟨by first | rfl | trivial, by first | rfl | trivial⟩⟩) fun _ => ⟨by first | rfl | trivial, by first | rfl | trivial⟩
        -- another place than the one that was named: that one was met
        have hhead : V.pl = zp i :: L.drop (i + 1) := by
          rw [hS.pl]
          have : L[i]? = some (zp i) := by rw [← hL]; exact argL_get zp hipl
          exact drop_get this
        have hmet : met (zp i) = true := by
          cases e : met (zp i) with
          | true => rfl
          | false =>
            exfalso
            have hfit : fitsV V.laid (zp i) 512 := by
              refine ⟨hmod, by omega, by omega, (cnt_none hok (by omega)).2 fun m h1 h2 hmm => ?_⟩
              have := (hS.laid m).1 hmm
              rw [show m / 512 * 512 = zp i by omega, e] at this; cases this
            rcases hch with ⟨p, r, h1, _, h2⟩ | ⟨hnh, _⟩
            · rw [hhead] at h1; cases h1; exact hne h2
            · exact hnh _ _ hhead hfit
        refine LKP_sl (H28.front 1 rfl) fun _ _ => ⟨true, ?_, by first | rfl | trivial, by first | rfl | trivial⟩
        show ((if (if zp i = at_ then true else met (zp i)) = true then some (Value.bool true) else none).getD _) = _
        rw [hmet]; simp
      · rintro ⟨bb, u⟩ _ w30 ⟨hbb, rfl⟩
        simp only at hbb
        subst hbb
        refine CND_f rfl (JOIN_in (vstate_spec hE H28 hat0 fun w49 H49 => ?_))
        have inl : ∀ x, at_ ≤ x → x < at_ + 512 → inL (addL V.laid at_ (at_ + 512)) x = true := fun x h1 h2 => inL_iff.2 ((hm x).2 (.inr ⟨h1, h2⟩))
        have inr : ∀ x, inL V.ready x = false := fun x => by rw [hS.ready]; rfl
        have ins : ∀ x, inL V.rel x = false := fun x => by rw [hS.rel]; rfl
        rw [if_pos (inl at_ (by omega) (by omega))]
        simp only [inr, ins, Bool.false_eq_true, if_false]
        refine CND_f rfl ?_
        rw [u64_id (n := at_ + 511) (by omega) (by omega)]
        refine vstate_spec hE H49 (by omega) fun w51 H51 j => ?_
        rw [if_pos (inl (at_ + 511) (by omega) (by omega))]
        simp only [inr, ins, Bool.false_eq_true, if_false]
        exact CND_f rfl ⟨⟨i + 1, _, _, ei, by omega, hS', H51⟩, by simp only [ei]; omega⟩
  · have hin : i = hs.len := by omega
    subst hin
    refine vcount_spec H13 fun w53 H53 => ?_
    rw [if_neg (by decide), if_neg (by decide), if_pos rfl, hS.tot, hS.ready, hS.rel, i64_id (by omega) (by omega), u64_id (by omega) (by omega)]
    exact CND_t (by simp [tot]) (vawake_spec hE H53 fun w' H' => hK w' (H'.old 3 rfl))

end
end Go.Sh

set_option linter.all false
set_option maxRecDepth 40000
set_option maxHeartbeats 4000000
namespace Go.Sh

abbrev VAct : AT := .cons (.int .i64) (.cons (.int .u64) (.cons (.int .u64) (.cons (.int .u64) .nil)))

theorem vact_cells {w : World} {s : SlV} {z : Nat → Int × Int × Int × Int × Unit} (h : RowA w VAct s z) {j : Nat} (hj : j < s.len) : ∃ x, s.base = some x ∧
    w.cell? (x.add (j * 4)) = some (.int .i64 (z j).1) ∧ w.cell? ((x.add (j * 4)).add 1) = some (.int .u64 (z j).2.1) ∧ w.cell? ((x.add (j * 4)).add 2) = some (.int .u64 (z j).2.2.1) ∧ w.cell? ((x.add (j * 4)).add 3) = some (.int .u64 (z j).2.2.2.1) ∧
    (-9223372036854775808 ≤ (z j).1 ∧ (z j).1 < 9223372036854775808) ∧ (0 ≤ (z j).2.1 ∧ (z j).2.1 < 18446744073709551616) ∧ (0 ≤ (z j).2.2.1 ∧ (z j).2.2.1 < 18446744073709551616) ∧ (0 ≤ (z j).2.2.2.1 ∧ (z j).2.2.2.1 < 18446744073709551616) := by
  obtain ⟨x, hx, hc, ho⟩ := h.2.2 j hj
  refine ⟨x, hx, ?_, ?_, ?_, ?_, i64_wf ho.1, u64_wf ho.2.1, u64_wf ho.2.2.1, u64_wf ho.2.2.2.1⟩
  · exact hc 0 _ rfl
  · rw [add_add]; exact hc 1 _ rfl
  · rw [add_add]; exact hc 2 _ rfl
  · rw [add_add]; exact hc 3 _ rfl

theorem RowG.oldA {w w' : World} {s : SlV} {z : Nat → Int × Int × Int × Int × Unit} (h : RowA w VAct s z) (he : Ext Nothing w w') : RowA w' VAct s z :=
  ⟨h.1, h.2.1, fun j hj => by
    obtain ⟨x, h1, h2, h3⟩ := h.2.2 j hj
    exact ⟨x, h1, fun i v hv => he.cell (h2 i v hv) fun f => f, h3⟩⟩

/-- Is more asked for than the law reaches? Whatever it says, nothing has changed. -/
theorem heavy_spec {E : Env} {w : World} {Rs : List Pr} (H : Sat Rs w) {a0 a1 a2 l : SlV} {z : Nat → Int × Int × Int × Int × Unit} (hrow : ∀ w', Sat Rs w' → RowA w' VAct l z) {K : Bool → World → Prop} (hk1 : ∀ w', Sat Rs w' → K true w')
    (hk0 : l.len ≤ 120 → a0.len ≤ 120 → a1.len ≤ 120 → a2.len ≤ 2000 → ∀ w', Sat Rs w' → K false w') : F.mallowlaw3_heavy E a0 a1 a2 l K w := by
  unfold F.mallowlaw3_heavy
  refine AL_cells H fun b1 w2 H2 _ => ?_
  have ht := fun w' (h : Sat (Cells b1 E.t_api_Answers [.slice a0.base a0.len a0.cap, .slice a1.base a1.len a1.cap, .slice a2.base a2.len a2.cap] :: Rs) w') => hk1 w' h.tail
  refine JOIN_in (CND_dec (fun _ j => CND_t rfl (ht _ H2)) fun g1 => ⟨a0, H2.cell0 rfl, CND_dec (fun _ j => CND_t rfl (ht _ H2)) fun g2 => ⟨a1, H2.cell rfl, CND_dec (fun _ j => CND_t rfl (ht _ H2)) fun g3 => ⟨a2, H2.cell rfl, fun j => CND_dec (fun _ => ht _ H2) fun g4 => ?_⟩⟩⟩)
  refine LOOP_intro (fun st w' => 0 ≤ st.2.1 ∧ st.2.1 ≤ l.len ∧ w' = w2) (fun st _ => (l.len - st.2.1).toNat) ⟨Int.le_refl _, by show (0 : Int) ≤ l.len; omega, rfl⟩ ?_
  rintro ⟨p, i, v⟩ _ w10 ⟨i0, i1, rfl⟩
  simp only at i0 i1 ⊢
  refine CND_dec (fun hlt => ?_) fun hge => hk0 (by omega) (by omega) (by omega) (by omega) w10 H2.tail
  obtain ⟨x, hx, c0, c1, c2, c3, _⟩ := vact_cells (hrow _ H2.tail) (j := i.toNat) (by omega)
  rw [hx]
  simp only [NC_some]
  have hii : (0 : Int) ≤ i ∧ i < (l.len : Int) := ⟨i0, by omega⟩
  rw [i64_id (n := i + 1) (by omega) (by omega)]
  refine JOIN_intro (fun _ w' => w' = w10) ?_ ?_
  · refine JOIN_in ⟨hii, _, c0, CND_eq (fun _ => ⟨hii, _, c2, fun j => CND_dec (fun _ => ⟨hii, _, c2, CND_dec (fun _ => ht _ H2) fun _ => ⟨hii, _, c2, CND_dec (fun _ => ht _ H2) fun _ => rfl⟩⟩) fun _ => rfl⟩) fun _ j => CND_f rfl rfl⟩
  · rintro ⟨p', v⟩ _ w14 rfl
    have hn : ∀ q : Int, (0 ≤ i + 1 ∧ i + 1 ≤ (l.len : Int) ∧ w14 = w14) ∧ ((l.len : Int) - (i + 1)).toNat < ((l.len : Int) - i).toNat := fun _ => ⟨⟨by omega, by omega, rfl⟩, by omega⟩
    refine JOIN_in ⟨hii, _, c0, CND_eq (fun _ => ⟨hii, _, c2, CND_dec (fun _ => ⟨hii, _, c2, fun j => CND_dec (fun _ => ht _ H2) fun _ => hn p'⟩) fun _ j => CND_f rfl (hn p')⟩) fun _ j => CND_f rfl (hn p')⟩

/-- The state of a page. -/
def stV (V : VS) (p : Int) : Int := if inL V.laid p then if inL V.ready p then 2 else if inL V.rel p then 3 else 1 else 0

/-- The ways that a page may go. -/
def Goes3 (what s s' : Int) : Prop := s = s' ∨ (what = 1 ∧ s = 0 ∧ s' = 1) ∨ (what = 2 ∧ s ≠ 0 ∧ s' = 2) ∨ (what = 3 ∧ s = 2 ∧ s' = 3)

theorem stV_cases {V : VS} (h : VOk V) (p : Int) : (stV V p = 0 ∧ ¬ mem V.laid p ∧ ¬ mem V.ready p ∧ ¬ mem V.rel p) ∨ (stV V p = 1 ∧ mem V.laid p ∧ ¬ mem V.ready p ∧ ¬ mem V.rel p) ∨ (stV V p = 2 ∧ mem V.laid p ∧ mem V.ready p ∧ ¬ mem V.rel p) ∨ (stV V p = 3 ∧ mem V.laid p ∧ ¬ mem V.ready p ∧ mem V.rel p) := by
  unfold stV
  by_cases h1 : mem V.laid p
  · rw [if_pos (inL_iff.2 h1)]
    by_cases h2 : mem V.ready p
    · rw [if_pos (inL_iff.2 h2)]; exact .inr (.inr (.inl ⟨rfl, h1, h2, h.re p h2⟩))
    · rw [if_neg (fun e => h2 (inL_iff.1 e))]
      by_cases h3 : mem V.rel p
      · rw [if_pos (inL_iff.2 h3)]; exact .inr (.inr (.inr ⟨rfl, h1, h2, h3⟩))
      · rw [if_neg (fun e => h3 (inL_iff.1 e))]; exact .inr (.inl ⟨rfl, h1, h2, h3⟩)
  · rw [if_neg (fun e => h1 (inL_iff.1 e))]; exact .inl ⟨rfl, h1, fun e => h1 (h.rl p e), fun e => h1 (h.el p e)⟩

theorem goes_reserve {V V' : VS} (h : VOk V) (h' : VOk V') {at_ n : Int} (hr : V'.ready = V.ready) (hl : V'.rel = V.rel) (hm : ∀ p, mem V'.laid p ↔ mem V.laid p ∨ (at_ ≤ p ∧ p < at_ + n)) (p : Int) : Goes3 1 (stV V p) (stV V' p) := by
  have c1 := stV_cases h p
  have c2 := stV_cases h' p
  rw [hr, hl, hm] at c2
  unfold Goes3
  by_cases e : mem V.laid p <;> by_cases e2 : mem V.ready p <;> by_cases e3 : mem V.rel p <;> simp only [e, e2, e3, not_true_eq_false, not_false_eq_true, true_or, false_or, and_true, and_false, or_false, true_and, false_and] at c1 c2 <;> omega

theorem goes_commit {V V' : VS} (h : VOk V) (h' : VOk V') {page n : Int} (hl : V'.laid = V.laid) (hin : ∀ p, page ≤ p → p < page + n → mem V.laid p) (hr : ∀ p, mem V'.ready p ↔ mem V.ready p ∨ (page ≤ p ∧ p < page + n)) (he : ∀ p, mem V'.rel p ↔ mem V.rel p ∧ ¬ (page ≤ p ∧ p < page + n)) (p : Int) : Goes3 2 (stV V p) (stV V' p) := by
  have c1 := stV_cases h p
  have c2 := stV_cases h' p
  rw [hl, hr, he] at c2
  unfold Goes3
  by_cases ei : page ≤ p ∧ p < page + n
  · have := hin p ei.1 ei.2
    simp only [this, ei, not_true_eq_false, and_false, or_true, true_and, false_and, or_false, false_or] at c1 c2
    omega
  · have e0 : (page ≤ p ∧ p < page + n) = False := eq_false ei
    rw [e0] at c2
    simp only [or_false, not_false_eq_true, and_true] at c2
    left
    rcases c1 with ⟨a1, a2, a3, a4⟩ | ⟨a1, a2, a3, a4⟩ | ⟨a1, a2, a3, a4⟩ | ⟨a1, a2, a3, a4⟩ <;> rcases c2 with ⟨b1, b2, b3, b4⟩ | ⟨b1, b2, b3, b4⟩ | ⟨b1, b2, b3, b4⟩ | ⟨b1, b2, b3, b4⟩ <;> first
      | contradiction
      | (rw [a1, b1])

theorem goes_release {V V' : VS} (h : VOk V) (h' : VOk V') {page n : Int} (hl : V'.laid = V.laid) (hin : ∀ p, page ≤ p → p < page + n → mem V.ready p) (hr : ∀ p, mem V'.ready p ↔ mem V.ready p ∧ ¬ (page ≤ p ∧ p < page + n)) (he : ∀ p, mem V'.rel p ↔ mem V.rel p ∨ (page ≤ p ∧ p < page + n)) (p : Int) : Goes3 3 (stV V p) (stV V' p) := by
  have c1 := stV_cases h p
  have c2 := stV_cases h' p
  rw [hl, hr, he] at c2
  unfold Goes3
  by_cases ei : page ≤ p ∧ p < page + n
  · have h1 := hin p ei.1 ei.2
    have h2 := h.rl p h1
    have h3 := h.re p h1
    simp only [h1, h2, h3, ei, not_true_eq_false, and_false, or_true, true_and, false_and, or_false, false_or, and_true, not_false_eq_true] at c1 c2
    omega
  · have e0 : (page ≤ p ∧ p < page + n) = False := eq_false ei
    rw [e0] at c2
    simp only [or_false, not_false_eq_true, and_true] at c2
    left
    rcases c1 with ⟨a1, a2, a3, a4⟩ | ⟨a1, a2, a3, a4⟩ | ⟨a1, a2, a3, a4⟩ | ⟨a1, a2, a3, a4⟩ <;> rcases c2 with ⟨b1, b2, b3, b4⟩ | ⟨b1, b2, b3, b4⟩ | ⟨b1, b2, b3, b4⟩ | ⟨b1, b2, b3, b4⟩ <;> first
      | contradiction
      | (rw [a1, b1])

theorem goes_same {V V' : VS} {what : Int} (h1 : V'.laid = V.laid) (h2 : V'.ready = V.ready) (h3 : V'.rel = V.rel) (p : Int) : Goes3 what (stV V p) (stV V' p) := .inl (by unfold stV; rw [h1, h2, h3])

/-- Numbers in a row. -/
def nums (n : Nat) (u : Int → Int) : List Value := (List.range n).map fun i : Nat => .int .i64 (u i)
theorem nums_getI {n : Nat} {u : Int → Int} {i : Int} (h0 : 0 ≤ i) (hi : i < n) : (nums n u)[0 + i.toNat]? = some (.int .i64 (u i)) := by
  rw [Nat.zero_add]
  have : i.toNat < n := by omega
  simp only [nums, List.getElem?_map, List.getElem?_range this, Option.map_some]
  rw [show ((i.toNat : Nat) : Int) = i by omega]
theorem nums_len {n : Nat} {u : Int → Int} : (nums n u).length = n := by simp [nums]
theorem nums_set {n : Nat} {u : Int → Int} {i : Int} (h0 : 0 ≤ i) (v : Int) : (nums n u).set (0 + i.toNat) (.int .i64 v) = nums n fun j => if j = i then v else u j := by
  rw [Nat.zero_add]
  apply List.ext_getElem?
  intro j
  rw [List.getElem?_set]
  by_cases hj : j < n
  · simp only [nums, List.getElem?_map, List.getElem?_range hj, Option.map_some, List.length_map, List.length_range]
    by_cases e : i.toNat = j
    · rw [if_pos e, if_pos (by omega), if_pos (by omega)]
    · rw [if_neg e, if_neg (by omega)]
  · simp only [nums, List.length_map, List.length_range, List.getElem?_map]
    rw [List.getElem?_eq_none (by simp; omega)]
    simp
    omega
theorem mkZero_nums (n : Nat) : mkZero #[.int .i64 0] n = ⟨nums n fun _ => 0⟩ := by
  apply Array.ext'
  apply List.ext_getElem?
  intro i
  by_cases hi : i < n
  · simp [mkZero, nums, hi, Nat.mod_one]
  · rw [List.getElem?_eq_none (by simp [mkZero]; omega), List.getElem?_eq_none (by simp [nums]; omega)]

section
variable {E : Env} (hE : EnvS E) {w : World}
include hE

theorem states_spec {l : SlV} {z : Nat → Int × Int × Int × Int × Unit} (hl : RowA w VAct l z) {K : Bool → World → Prop} (hK : ∀ w', Ext Nothing w w' → K true w') : F.mallowlaw3_VmemStates E l K w := by
  unfold F.mallowlaw3_VmemStates
  simp only [Nat.mul_one, show Int.toNat 60 = 60 from rfl]
  refine heavy_spec (Sat.start w) (fun w' h => hl.oldA (h.old 0 rfl)) (fun w' h => CND_t rfl (hK _ (h.old 0 rfl))) fun hlen _ _ _ w2 H2 => CND_f rfl ?_
  refine vnew_nil hE H2 fun b w4 H4 => CND_f rfl ⟨⟨by decide, by decide, by decide, by decide⟩, ?_⟩
  rw [mkZero_nums]
  refine AL_cells H4 fun b5 w6 H6 _ => ?_
  have H6' := H6.perm (.swap _ _ _)
  refine LOOP_intro (fun st w' => ∃ (i : Nat) (V : VS), st.1 = (i : Int) ∧ i ≤ l.len ∧ Sat (VmemP E b V :: [Cells b5 E.t_int (nums 60 fun k => stV V (508 + k)), Old w]) w') (fun st _ => (l.len - st.1).toNat) ⟨0, newV [] [] [], rfl, Nat.zero_le _, H6'⟩ ?_
  rintro ⟨i', v⟩ _ w8 ⟨i, V, hi, hil, H8⟩
  simp only at hi ⊢
  subst hi
  refine CND_dec (fun hlt => ?_) fun hge => ?_
  · have hik : i < l.len := by omega
    have hii : (0 : Int) ≤ (i : Int) ∧ (i : Int) < (l.len : Int) := ⟨by omega, by omega⟩
    obtain ⟨x, hx, c0, _⟩ := vact_cells (hl.oldA (H8.old 2 rfl)) hik
    have Hd := H8.drew
    obtain ⟨x', hx', d0, d1, d2, d3, wf0, wf1, wf2, wf3⟩ := vact_cells (hl.oldA (Hd.old 2 rfl)) hik
    have hxx : x' = x := by rw [hx] at hx'; exact (Option.some.inj hx').symm
    subst hxx
    rw [hx]
    simp only [NC_some, Int.toNat_natCast]
    have ei : i64 ((i : Int) + 1) = ((i + 1 : Nat) : Int) := by rw [i64_id (by omega) (by omega)]; omega
    refine ⟨hii, _, c0, ?_⟩
    generalize hwhat : (z i).1 = what at c0 d0 wf0
    have hv := H8.vok
    refine JOIN_st (fun _ w' => ∃ V', (∀ p, Goes3 what (stV V p) (stV V' p)) ∧ Sat (VmemP E b V' :: [Cells b5 E.t_int (nums 60 fun k => stV V (508 + k)), Old w]) w') ?_ ?_
    · have hsame : ∀ {w'}, Sat (VmemP E b V :: [Cells b5 E.t_int (nums 60 fun k => stV V (508 + k)), Old w]) w' → ∃ V', (∀ p, Goes3 what (stV V p) (stV V' p)) ∧ Sat (VmemP E b V' :: [Cells b5 E.t_int (nums 60 fun k => stV V (508 + k)), Old w]) w' := fun h => ⟨V, fun p => .inl rfl, h⟩
      have hother : ∀ {V' : VS} {w'}, Sat (VmemP E b V' :: [Cells b5 E.t_int (nums 60 fun k => stV V (508 + k)), Old w]) w' → V'.laid = V.laid → V'.ready = V.ready → V'.rel = V.rel → ∃ V', (∀ p, Goes3 what (stV V p) (stV V' p)) ∧ Sat (VmemP E b V' :: [Cells b5 E.t_int (nums 60 fun k => stV V (508 + k)), Old w]) w' := fun h h1 h2 h3 => ⟨_, goes_same h1 h2 h3, h⟩
      refine CND_eq (fun e1 => ?_) fun e1 => CND_eq (fun e2 => ?_) fun e2 => CND_eq (fun e3 => ?_) fun e3 => CND_eq (fun e5 => ?_) fun e5 => CND_eq (fun e6 => ?_) fun e6 => hsame H8
      · refine ⟨hii, _, d1, hii, _, d2, reserve_spec hE Hd wf1.1 wf1.2 wf2.1 wf2.2 (fun _ => hsame Hd) (fun _ r _ w' H' => hother H' rfl rfl rfl) (fun _ _ _ w' H' => hother H' rfl rfl rfl) fun hb _ at_ hc w' H' => ⟨_, fun p => ?_, H'⟩⟩
        rw [e1]
        have hft := hc.fits hv.ok1 (by omega)
        have h1 := hft.1
        have h2 := hft.2.2.1
        have hmem : ∀ q, mem (addL V.laid at_ (at_ + (z i).2.2.1)) q ↔ mem V.laid q ∨ (at_ ≤ q ∧ q < at_ + (z i).2.2.1) := by
          intro q
          by_cases hat : 0 ≤ at_
          · exact mem_addL hv.ok1 (by omega) hat (by omega) q
          · exfalso
            rcases hc with ⟨p, r, hp, hf, h3⟩ | ⟨_, ⟨_, h3, _⟩ | ⟨_, _, h3, _⟩⟩
            · obtain ⟨g, hI, _⟩ := Sat.vmem.1 H8
              have := (hI.plw p (by rw [hp]; simp)).1
              omega
            · have := h3.low; omega
            · have := h3.low; omega
        exact goes_reserve hv H'.vok rfl rfl hmem p
      · refine ⟨hii, _, d1, hii, _, d2, commit_spec hE Hd wf1.1 wf1.2 wf2.1 wf2.2 (fun _ => hsame Hd) (fun _ _ w' hw' => hsame (Hd.nothing hw')) (fun _ _ _ w' hw' => hsame (Hd.nothing hw')) (fun _ _ _ r _ w' H' => hother H' rfl rfl rfl) fun hr hc _ _ w' H' => ⟨_, fun p => ?_, H'⟩⟩
        rw [e2]
        have r1 := hr.1
        have r2 := hr.2
        have hin := (cnt_full hv.ok1 (a := (z i).2.1) (b := (z i).2.1 + (z i).2.2.1) (by omega)).1 (by omega)
        exact goes_commit hv H'.vok rfl hin (fun q => mem_addL hv.ok2 (by omega) wf1.1 (by omega) q) (fun q => mem_cutL (by omega)) p
      · refine ⟨hii, _, d1, hii, _, d2, release_spec hE Hd wf1.1 wf1.2 wf2.1 wf2.2 (fun _ => hsame Hd) (fun _ _ w' hw' => hsame (Hd.nothing hw')) fun hr hc w' H' => ⟨_, fun p => ?_, H'⟩⟩
        rw [e3]
        have r1 := hr.1
        have r2 := hr.2
        have hin := (cnt_full hv.ok2 (a := (z i).2.1) (b := (z i).2.1 + (z i).2.2.1) (by omega)).1 (by omega)
        exact goes_release hv H'.vok rfl hin (fun q => mem_cutL (by omega)) (fun q => mem_addL hv.ok3 (by omega) wf1.1 (by omega) q) p
      · refine ⟨hii, _, d3, hii, _, d2, store_spec hE Hd wf3.1 wf3.2 fun w' H' => ?_⟩
        by_cases e : storeE V (z i).2.2.2.1 = 0
        · refine hother H' ?_ ?_ ?_ <;> (unfold storeV; rw [if_pos e])
        · have : storeV V (z i).2.2.2.1 (z i).2.2.1 = V := by unfold storeV; rw [if_neg e]
          rw [this] at H'; exact hsame H'
      · refine ⟨hii, _, d3, hii, _, d2, zero_spec hE Hd wf3.1 wf3.2 wf2.1 wf2.2 fun w' H' => ?_⟩
        by_cases e : zeroE V (z i).2.2.2.1 (z i).2.2.1 = 0
        · refine hother H' ?_ ?_ ?_ <;> (unfold zeroV; rw [if_pos e])
        · have : zeroV V (z i).2.2.2.1 (z i).2.2.1 = V := by unfold zeroV; rw [if_neg e]
          rw [this] at H'; exact hsame H'
    · rintro st _ w14 ⟨V', hgo, H14⟩
      refine LOOP_intro (fun st w' => 0 ≤ st.1 ∧ st.1 ≤ 60 ∧ Sat (VmemP E b V' :: [Cells b5 E.t_int (nums 60 fun k => if k < st.1 then stV V' (508 + k) else stV V (508 + k)), Old w]) w') (fun st _ => (60 - st.1).toNat) ⟨Int.le_refl _, by show (0 : Int) ≤ 60; omega, ?_⟩ ?_
      · have : nums 60 (fun k => if k < (0 : Int) then stV V' (508 + k) else stV V (508 + k)) = nums 60 fun k => stV V (508 + k) := by
          unfold nums; apply List.map_congr_left; intro k _; dsimp only; rw [if_neg (by omega)]
        show Sat (VmemP E b V' :: [Cells b5 E.t_int (nums 60 fun k => if k < (0 : Int) then _ else _), Old w]) w14
        rw [this]; exact H14
      rintro ⟨k, v⟩ _ w47 ⟨k0, k1, H47⟩
      simp only at k0 k1 H47 ⊢
      refine CND_dec (fun hlt2 => ?_) fun hge2 => ?_
      · rw [u64_id (n := k) (by omega) (by omega), u64_id (n := 508 + k) (by omega) (by omega), i64_id (n := k + 1) (by omega) (by omega)]
        refine vstate_spec hE H47 (by omega) fun w50 H50 => ?_
        have hcell : w50.cell? ((Addr.mk b5 0 none).add k.toNat) = some (.int .i64 (stV V (508 + k))) := by
          have := (H50.front 1 rfl).cell (nums_getI (n := 60) (u := fun k_1 => if k_1 < k then stV V' (508 + k_1) else stV V (508 + k_1)) k0 hlt2)
          rwa [if_neg (by omega)] at this
        have hb : (0 : Int) ≤ k ∧ k < ((60 : Nat) : Int) := ⟨k0, by omega⟩
        refine ⟨hb, _, hcell, CND_eq (fun heq => ?_) fun hne => ?_⟩
        · refine ⟨⟨by show 0 ≤ k + 1; omega, by show k + 1 ≤ 60; omega, ?_⟩, by show (60 - (k + 1)).toNat < (60 - k).toNat; omega⟩
          have : nums 60 (fun j => if j < k + 1 then stV V' (508 + j) else stV V (508 + j)) = nums 60 fun j => if j < k then stV V' (508 + j) else stV V (508 + j) := by
            unfold nums; apply List.map_congr_left; intro j _; dsimp only
            by_cases e : (j : Int) = k
            · rw [if_pos (by omega), if_neg (by omega), e]; congr 1
            · by_cases e2 : (j : Int) < k
              · rw [if_pos (by omega), if_pos e2]
              · rw [if_neg (by omega), if_neg e2]
          show Sat (VmemP E b V' :: [Cells b5 E.t_int (nums 60 fun j => if j < k + 1 then _ else _), Old w]) w50
          rw [this]; exact H50
        · have hg := hgo (508 + k)
          refine JOIN_st (fun st w' => st.1 = true ∧ w' = w50) ?_ ?_
          · rcases hg with h | ⟨h1, h2, h3⟩ | ⟨h1, h2, h3⟩ | ⟨h1, h2, h3⟩
            · exact absurd h.symm hne
            · exact CND_eq (fun _ => ⟨hb, _, hcell, CND_eq (fun _ => CND_eq (fun _ => ⟨by first | rfl | trivial, by first | rfl | trivial⟩) fun h => absurd h3 h) fun h => absurd h2 h⟩) fun h => absurd h1 h
            · exact CND_eq (fun h => by omega) fun _ => CND_eq (fun _ => ⟨hb, _, hcell, CND_ne (fun _ => CND_eq (fun _ => ⟨by first | rfl | trivial, by first | rfl | trivial⟩) fun h => absurd h3 h) fun h => absurd h h2⟩) fun h => absurd h1 h
            · exact CND_eq (fun h => by omega) fun _ => CND_eq (fun h => by omega) fun _ => CND_eq (fun _ => ⟨hb, _, hcell, CND_eq (fun _ => ⟨by have h4 : stV V' (508 + k) = 3 := h3; unfold stV at h4; simpa using h4, by first | rfl | trivial⟩) fun h => absurd h2 h⟩) fun h => absurd h1 h
          · rintro ⟨bb, u⟩ _ w54 ⟨hbb, rfl⟩
            simp only at hbb
            subst hbb
            refine CND_f rfl ⟨hb, st_cell (H50.front 1 rfl) rfl (by rw [nums_len]; omega) fun w68 H68 => ?_⟩
            rw [nums_set k0] at H68
            have H69 := Sat.back (Ps := [_, Cells b5 E.t_int _, _]) 1 H68
            refine ⟨⟨by show 0 ≤ k + 1; omega, by show k + 1 ≤ 60; omega, ?_⟩, by show (60 - (k + 1)).toNat < (60 - k).toNat; omega⟩
            have : nums 60 (fun j => if j < k + 1 then stV V' (508 + j) else stV V (508 + j)) = nums 60 fun j => if j = k then stV V' (508 + k) else if j < k then stV V' (508 + j) else stV V (508 + j) := by
              unfold nums; apply List.map_congr_left; intro j _; dsimp only
              by_cases e : (j : Int) = k
              · rw [if_pos (by omega), if_pos e, e]
              · rw [if_neg e]
                by_cases e2 : (j : Int) < k
                · rw [if_pos (by omega), if_pos e2]
                · rw [if_neg (by omega), if_neg e2]
            show Sat (VmemP E b V' :: [Cells b5 E.t_int (nums 60 fun j => if j < k + 1 then _ else _), Old w]) w68
            rw [this]; exact H69
      · have hke : k = 60 := by omega
        subst hke
        refine ⟨⟨i + 1, V', ei, by omega, ?_⟩, by simp only [ei]; omega⟩
        have : nums 60 (fun k_1 => if k_1 < (60 : Int) then stV V' (508 + k_1) else stV V (508 + k_1)) = nums 60 fun k => stV V' (508 + k) := by
          unfold nums; apply List.map_congr_left; intro j hj; dsimp only
          rw [List.mem_range] at hj
          rw [if_pos (by omega)]
        rw [this] at H47; exact H47
  · have hv := H8.vok
    have hz : ∀ x, 34359738368 ≤ x → inL V.laid x = false := fun x hx => by
      cases e : inL V.laid x with
      | false => rfl
      | true => have := (hv.lim x (inL_iff.1 e)).2; omega
    refine vstate_spec hE H8 (by decide) fun w70 H70 => ?_
    rw [hz _ (by decide), if_neg (by decide)]
    refine CND_t rfl (vstate_spec hE H70 (by decide) fun w72 H72 => ?_)
    rw [hz _ (by decide), if_neg (by decide)]
    exact CND_t rfl (vawake_spec hE H72 fun w' H' => hK w' (H'.old 2 rfl))

end
end Go.Sh

set_option linter.all false
set_option maxRecDepth 4000
namespace Go.Sh

def Many {α : Type} (R : α → Pr) (L : List α) : Pr := Star (L.map R)

section
variable {α : Type} {R R' : α → Pr} {L L' : List α} {F : List Pr} {w : World}

theorem Sat.many : Sat (Many R L :: F) w ↔ Sat (L.map R ++ F) w := Sat.star

theorem Sat.manyPerm (H : Sat (Many R L :: F) w) (h : L.Perm L') : Sat (Many R L' :: F) w :=
  Sat.many.2 ((Sat.many.1 H).perm ((h.map R).append_right F))

theorem Sat.manyCons {x : α} : Sat (Many R (x :: L) :: F) w ↔ Sat (R x :: Many R L :: F) w := by
  constructor
  · intro H
    have h1 : Sat (R x :: (L.map R ++ F)) w := Sat.many.1 H
    have h2 : Sat (L.map R ++ (R x :: F)) w := h1.perm List.perm_middle.symm
    exact (Sat.many.2 h2).perm (.swap _ _ _)
  · intro H
    have h2 : Sat (L.map R ++ (R x :: F)) w := Sat.many.1 (H.perm (.swap _ _ _))
    exact Sat.many.2 (h2.perm List.perm_middle)

theorem Sat.manyGet (H : Sat (Many R L :: F) w) {i : Nat} {x : α} (hi : L[i]? = some x) : Sat (R x :: Many R (L.eraseIdx i) :: F) w :=
  Sat.manyCons.1 (H.manyPerm (perm_front hi))

theorem Sat.manyPut {y : α} {i : Nat} (H : Sat (R y :: Many R (L.eraseIdx i) :: F) w) (hi : i < L.length) : Sat (Many R (L.set i y) :: F) w :=
  (Sat.manyCons.2 H).manyPerm (perm_back hi)

/-- Back at its place, as it was. -/
theorem Sat.manyBack {i : Nat} {x : α} (H : Sat (R x :: Many R (L.eraseIdx i) :: F) w) (hi : L[i]? = some x) : Sat (Many R L :: F) w :=
  (Sat.manyCons.2 H).manyPerm (perm_front hi).symm

theorem Sat.manySnoc {x : α} (H : Sat (R x :: Many R L :: F) w) : Sat (Many R (L ++ [x]) :: F) w :=
  (Sat.manyCons.2 H).manyPerm (List.perm_append_singleton x L).symm

theorem Sat.manyNil (H : Sat F w) (R : α → Pr) : Sat (Many R [] :: F) w := Sat.many.2 H

theorem Sat.manyApp : Sat (Many R (L ++ L') :: F) w ↔ Sat (Many R L :: Many R L' :: F) w := by
  rw [Sat.many, Sat.many, List.map_append, List.append_assoc]
  constructor
  · intro H
    have h1 : Sat (L'.map R ++ (L.map R ++ F)) w := by
      refine H.perm ?_
      rw [← List.append_assoc, ← List.append_assoc]
      exact List.perm_append_comm.append_right F
    exact (Sat.many.2 h1).perm List.perm_middle.symm
  · intro H
    have h1 : Sat (Many R L' :: (L.map R ++ F)) w := H.perm List.perm_middle
    refine (Sat.many.1 h1).perm ?_
    rw [← List.append_assoc, ← List.append_assoc]
    exact List.perm_append_comm.append_right F

theorem Many.congr (h : ∀ x ∈ L, R x = R' x) : Many R L = Many R' L := by
  unfold Many
  rw [List.map_congr_left h]
end

/-- A new row. -/
theorem AL_rows {t n z : Nat} {vs : List Value} {Rs : List Pr} {w : World} (H : Sat Rs w) (hn : vs.length = n * z) (hl : n < 9223372036854775808) {K : Nat → World → Prop}
    (hK : ∀ b w', Sat (Row t z ⟨some ⟨b, 0, none⟩, n, n⟩ vs :: Rs) w' → K b w') : AL (.cells ⟨vs⟩ t) w K :=
  AL_intro fun w' hb hs he => hK _ _ (H.new (P := Row t z ⟨some ⟨w.heap.size, 0, none⟩, n, n⟩ vs) (D := Blk' ⟨some ⟨w.heap.size, 0, none⟩, n, n⟩) he
    ⟨fun _ => Iff.rfl, own_new hb hn (Nat.zero_le _) hl⟩ fun k hk => by obtain ⟨x, hx, rfl⟩ := hk; cases hx; exact Nat.le_refl _)

theorem flags_congr {n : Nat} {u v : Int → Bool} (h : ∀ k, 0 ≤ k → k < (n : Int) → u k = v k) : flags n u = flags n v := by
  unfold flags
  refine List.map_congr_left fun k hk => ?_
  rw [List.mem_range] at hk
  rw [h k (by omega) (by omega)]

end Go.Sh

set_option linter.all false
set_option maxRecDepth 4000
set_option maxHeartbeats 1000000
namespace Go.Sh

section
variable {α : Type} {f : α → List Value} {z : Nat}

def recs (f : α → List Value) (L : List α) : List Value := L.flatMap f

theorem recs_cons (x : α) (L : List α) : recs f (x :: L) = f x ++ recs f L := by simp [recs]
theorem recs_app (L M : List α) : recs f (L ++ M) = recs f L ++ recs f M := by simp [recs]
theorem recs_len (hf : ∀ x, (f x).length = z) : ∀ L : List α, (recs f L).length = L.length * z
  | [] => by simp [recs]
  | x :: r => by rw [recs_cons, List.length_append, recs_len hf r, hf, List.length_cons, Nat.succ_mul]; omega
theorem recs_get (hf : ∀ x, (f x).length = z) : ∀ {L : List α} {i : Nat} {x : α} {j : Nat} {v : Value}, L[i]? = some x → (f x)[j]? = some v → (recs f L)[i * z + j]? = some v
  | y :: r, 0, x, j, v, h, hj => by
    have h : y = x := Option.some.inj h
    subst h
    have := (List.getElem?_eq_some_iff.1 hj).1
    rw [recs_cons, Nat.zero_mul, Nat.zero_add, List.getElem?_append_left this]; exact hj
  | y :: r, i + 1, x, j, v, h, hj => by
    rw [recs_cons, Nat.succ_mul, List.getElem?_append_right (by rw [hf]; omega), hf, show i * z + z + j - z = i * z + j by omega]
    exact recs_get hf (L := r) h hj
theorem recs_take (hf : ∀ x, (f x).length = z) : ∀ (L : List α) (i : Nat), (recs f L).take (i * z) = recs f (L.take i)
  | [], i => by simp [recs]
  | y :: r, 0 => by simp [recs]
  | y :: r, i + 1 => by
    rw [recs_cons, List.take_succ_cons, recs_cons, List.take_append, hf, List.take_of_length_le (by rw [hf, Nat.succ_mul]; omega), Nat.succ_mul, show i * z + z - z = i * z by omega, recs_take hf r i]
theorem recs_drop (hf : ∀ x, (f x).length = z) : ∀ (L : List α) (i : Nat), (recs f L).drop (i * z) = recs f (L.drop i)
  | [], i => by simp [recs]
  | y :: r, 0 => by simp
  | y :: r, i + 1 => by
    rw [recs_cons, List.drop_succ_cons, List.drop_append, hf, List.drop_eq_nil_iff.2 (by rw [hf, Nat.succ_mul]; omega), List.nil_append, Nat.succ_mul, show i * z + z - z = i * z by omega, recs_drop hf r i]
theorem recs_one (ho : ∀ x, ∀ v ∈ f x, v.oneCell' = true) (L : List α) : ∀ v ∈ recs f L, v.oneCell' = true := by
  intro v hv
  simp only [recs, List.mem_flatMap] at hv
  obtain ⟨c, _, hc⟩ := hv
  exact ho c v hc
theorem recs_set (hf : ∀ x, (f x).length = z) : ∀ {L : List α} {i : Nat} {x y : α} {j : Nat} {v : Value}, L[i]? = some x → j < z → (f x).set j v = f y → (recs f L).set (i * z + j) v = recs f (L.set i y)
  | c :: r, 0, x, y, j, v, h, hj, he => by
    have h : c = x := Option.some.inj h
    subst h
    rw [recs_cons, Nat.zero_mul, Nat.zero_add, List.set_append_left _ _ (by rw [hf]; exact hj), he, List.set_cons_zero, recs_cons]
  | c :: r, i + 1, x, y, j, v, h, hj, he => by
    rw [recs_cons, List.set_cons_succ, recs_cons, Nat.succ_mul, List.set_append_right _ _ (by rw [hf]; omega), hf, show i * z + z + j - z = i * z + j by omega, recs_set hf (L := r) h hj he]
theorem recs_put (hf : ∀ x, (f x).length = z) : ∀ {L : List α} {i : Nat} {y : α}, i < L.length → (recs f L).take (i * z) ++ f y ++ (recs f L).drop (i * z + z) = recs f (L.set i y)
  | c :: r, 0, y, h => by
    rw [recs_cons, Nat.zero_mul, Nat.zero_add, List.set_cons_zero, recs_cons, List.take_zero, List.nil_append, List.drop_append, hf, List.drop_eq_nil_iff.2 (by rw [hf]; omega), Nat.sub_self, List.drop_zero, List.nil_append]
  | c :: r, i + 1, y, h => by
    have ih := recs_put hf (L := r) (i := i) (y := y) (by simpa using h)
    rw [recs_cons, List.set_cons_succ, recs_cons, ← ih, Nat.succ_mul, List.take_append, List.drop_append, hf, List.take_of_length_le (by rw [hf]; omega), List.drop_eq_nil_iff.2 (by rw [hf]; omega), List.nil_append, show i * z + z - z = i * z by omega, show i * z + z + z - z = i * z + z by omega]
    simp only [List.append_assoc]

/-! ### Where a key is, or would be -/

def pos (key : α → Int) : List α → Int → Nat
  | [], _ => 0
  | c :: r, n => if key c < n then pos key r n + 1 else 0

def Srt (key : α → Int) (L : List α) : Prop := L.Pairwise fun a b => key a < key b

variable {key : α → Int}

theorem pos_le : ∀ (L : List α) (n : Int), pos key L n ≤ L.length
  | [], _ => Nat.le_refl _
  | c :: r, n => by simp only [pos]; split; exact Nat.succ_le_succ (pos_le r n); exact Nat.zero_le _
theorem pos_before : ∀ {L : List α} {n : Int} {j : Nat} {c : α}, L[j]? = some c → j < pos key L n → key c < n
  | c :: r, n, 0, x, h, hj => by
    have h : c = x := Option.some.inj h
    subst h
    simp only [pos] at hj; split at hj
    · assumption
    · omega
  | c :: r, n, j + 1, x, h, hj => by
    simp only [pos] at hj; split at hj
    · exact pos_before (L := r) h (by omega)
    · omega
theorem pos_at : ∀ {L : List α} {n : Int} {c : α}, L[pos key L n]? = some c → n ≤ key c
  | c :: r, n, x, h => by
    simp only [pos] at h; split at h
    · exact pos_at (L := r) h
    · have h : c = x := Option.some.inj h
      subst h; omega
theorem Srt.lt {L : List α} (hs : Srt key L) {i j : Nat} {a b : α} (hi : L[i]? = some a) (hj : L[j]? = some b) (h : i < j) : key a < key b := by
  have h1 := (List.getElem?_eq_some_iff.1 hi)
  have h2 := (List.getElem?_eq_some_iff.1 hj)
  have := List.pairwise_iff_getElem.1 hs i j h1.1 h2.1 h
  rw [h1.2, h2.2] at this
  exact this
theorem pos_after {L : List α} (hs : Srt key L) {n : Int} {j : Nat} {c : α} (h : L[j]? = some c) (hj : pos key L n ≤ j) : n ≤ key c := by
  have hl := (List.getElem?_eq_some_iff.1 h).1
  have hg := List.getElem?_eq_getElem (show pos key L n < L.length by omega)
  have h1 := pos_at hg
  rcases Nat.lt_or_eq_of_le hj with h2 | h2
  · have := hs.lt hg h h2
    omega
  · subst h2; exact pos_at h
theorem pos_has {L : List α} (hs : Srt key L) {n : Int} {c : α} (hc : c ∈ L) (hn : key c = n) : L[pos key L n]? = some c := by
  obtain ⟨j, hj⟩ := List.mem_iff_getElem?.1 hc
  rcases Nat.lt_or_ge j (pos key L n) with h | h
  · have := pos_before hj h; omega
  · have hl := (List.getElem?_eq_some_iff.1 hj).1
    rcases Nat.lt_or_eq_of_le h with h2 | h2
    · have hg := List.getElem?_eq_getElem (show pos key L n < L.length by omega)
      have := pos_at hg
      have h3 := hs.lt hg hj h2
      omega
    · rw [h2]; exact hj
theorem pos_uniq {L : List α} (hs : Srt key L) {n : Int} {i : Nat} (hi : i ≤ L.length) (h1 : ∀ (j : Nat) c, L[j]? = some c → j < i → key c < n) (h2 : ∀ (j : Nat) c, L[j]? = some c → i ≤ j → n ≤ key c) : i = pos key L n := by
  have hp := pos_le (key := key) L n
  rcases Nat.lt_trichotomy i (pos key L n) with h | h | h
  · have hg := List.getElem?_eq_getElem (show i < L.length by omega)
    have := h2 i _ hg (Nat.le_refl _)
    have := pos_before hg h
    omega
  · exact h
  · have hg := List.getElem?_eq_getElem (show pos key L n < L.length by omega)
    have := h1 _ _ hg h
    have := pos_at hg
    omega
theorem Srt.take {L : List α} (hs : Srt key L) (i : Nat) : Srt key (L.take i) := List.Pairwise.sublist (List.take_sublist _ _) hs
theorem Srt.drop {L : List α} (hs : Srt key L) (i : Nat) : Srt key (L.drop i) := List.Pairwise.sublist (List.drop_sublist _ _) hs
theorem Srt.filter {L : List α} (hs : Srt key L) (p : α → Bool) : Srt key (L.filter p) := List.Pairwise.sublist List.filter_sublist hs
theorem Srt.inj {L : List α} (hs : Srt key L) {a b : α} (ha : a ∈ L) (hb : b ∈ L) (h : key a = key b) : a = b := by
  have h1 := pos_has hs ha rfl
  have h2 := pos_has hs hb h.symm
  rw [h1] at h2; exact Option.some.inj h2
theorem mem_take_pos {L : List α} {n : Int} {c : α} (hc : c ∈ L.take (pos key L n)) : c ∈ L ∧ key c < n := by
  obtain ⟨j, hj⟩ := List.mem_iff_getElem?.1 hc
  rw [List.getElem?_take] at hj
  split at hj
  · rename_i h; exact ⟨List.mem_of_getElem? hj, pos_before hj h⟩
  · cases hj
theorem mem_drop_pos {L : List α} (hs : Srt key L) {n : Int} {c : α} (hc : c ∈ L.drop (pos key L n)) : c ∈ L ∧ n ≤ key c := by
  obtain ⟨j, hj⟩ := List.mem_iff_getElem?.1 hc
  rw [List.getElem?_drop] at hj
  exact ⟨List.mem_of_getElem? hj, pos_after hs hj (by omega)⟩
theorem mem_of_lt {L : List α} {n : Int} {c : α} (hs : Srt key L) (hc : c ∈ L) (h : key c < n) : c ∈ L.take (pos key L n) := by
  rw [← List.take_append_drop (pos key L n) L] at hc
  rcases List.mem_append.1 hc with h1 | h1
  · exact h1
  · have := (mem_drop_pos hs h1).2; omega
theorem mem_of_ge {L : List α} {n : Int} {c : α} (hc : c ∈ L) (h : n ≤ key c) : c ∈ L.drop (pos key L n) := by
  rw [← List.take_append_drop (pos key L n) L] at hc
  rcases List.mem_append.1 hc with h1 | h1
  · have := (mem_take_pos h1).2; omega
  · exact h1
/-- Between two rows, one that stands there. -/
theorem Srt.mid {L M N : List α} (hL : Srt key L) (hM : Srt key M) (hN : Srt key N) {a b : Int} (hab : a ≤ b) (h1 : ∀ c ∈ L, key c < a) (h2 : ∀ c ∈ M, a ≤ key c ∧ key c < b) (h3 : ∀ c ∈ N, b ≤ key c) : Srt key (L ++ M ++ N) := by
  unfold Srt
  rw [List.append_assoc, List.pairwise_append, List.pairwise_append]
  refine ⟨hL, ⟨hM, hN, fun x hx y hy => ?_⟩, fun x hx y hy => ?_⟩
  · have := (h2 x hx).2; have := h3 y hy; omega
  · have := h1 x hx
    rcases List.mem_append.1 hy with h | h
    · have := (h2 y h).1; omega
    · have := h3 y h; omega
/-- So many keys stand in a row of numbers at most. -/
theorem Srt.few : ∀ {L : List α} (hs : Srt key L) {a b : Int}, a ≤ b → (∀ c ∈ L, a ≤ key c ∧ key c < b) → (L.length : Int) ≤ b - a
  | [], _, a, b, h, _ => by simp; omega
  | c :: r, hs, a, b, h, hc => by
    have h1 := hc c (by simp)
    have h2 : Srt key r := (List.pairwise_cons.1 hs).2
    have := Srt.few h2 (a := key c + 1) (b := b) (by omega) fun d hd => ⟨by have := (List.pairwise_cons.1 hs).1 d hd; omega, (hc d (by simp [hd])).2⟩
    rw [List.length_cons]
    omega
/-- They are as many as there are pages in the set of their keys. -/
theorem pos_step {L : List α} (hs : Srt key L) (n : Int) : pos key L (n + 1) = pos key L n + (if ∃ c ∈ L, key c = n then 1 else 0) := by
  symm
  have hp := pos_le (key := key) L n
  by_cases e : ∃ c ∈ L, key c = n
  · rw [if_pos e]
    obtain ⟨c, hc, he⟩ := e
    have h1 := pos_has hs hc he
    have h2 := (List.getElem?_eq_some_iff.1 h1).1
    refine pos_uniq hs (by omega) (fun j d hd hj => ?_) fun j d hd hj => ?_
    · rcases Nat.lt_or_eq_of_le (Nat.le_of_lt_succ hj) with g | g
      · have := pos_before hd g; omega
      · subst g; rw [h1] at hd; cases hd; omega
    · have := hs.lt h1 hd (by omega); omega
  · rw [if_neg e]
    refine pos_uniq hs (by omega) (fun j d hd hj => ?_) fun j d hd hj => ?_
    · have := pos_before hd hj; omega
    · have := pos_after hs hd hj
      have : key d ≠ n := fun h => e ⟨d, List.mem_of_getElem? hd, h⟩
      omega
theorem pos_cnt {L : List α} (hs : Srt key L) {l : Iv} (hl : Ok l) (hm : ∀ p, mem l p ↔ ∃ c ∈ L, key c = p) (a : Int) : ∀ n : Nat, ((pos key L (a + n) : Nat) : Int) = pos key L a + cnt l a (a + n)
  | 0 => by
    rw [show a + ((0 : Nat) : Int) = a by omega]
    have := (cnt_none hl (Int.le_refl a)).2 fun n h1 h2 => by omega
    omega
  | n + 1 => by
    have ih := pos_cnt hs hl hm a n
    rw [show a + ((n + 1 : Nat) : Int) = a + n + 1 by omega, pos_step hs]
    have hc := cnt_succ hl (a := a) (k := a + n) (by omega)
    by_cases e : mem l (a + n)
    · rw [if_pos ((hm _).1 e), hc.1 e]; omega
    · rw [if_neg fun h => e ((hm _).2 h), hc.2 e]; omega
theorem pos_low {L : List α} {a : Int} (h : ∀ c ∈ L, a ≤ key c) : pos key L a = 0 := by
  cases L with
  | nil => rfl
  | cons c r => simp only [pos]; rw [if_neg (by have := h c (by simp); omega)]
theorem pos_high : ∀ {L : List α} {a : Int}, (∀ c ∈ L, key c < a) → pos key L a = L.length
  | [], _, _ => rfl
  | c :: r, a, h => by
    simp only [pos]; rw [if_pos (h c (by simp)), pos_high fun d hd => h d (by simp [hd]), List.length_cons]
theorem len_tot {L : List α} (hs : Srt key L) {l : Iv} (hl : Ok l) (hm : ∀ p, mem l p ↔ ∃ c ∈ L, key c = p) {a : Int} {n : Nat} (hr : ∀ p, mem l p → a ≤ p ∧ p < a + n) : (L.length : Int) = tot l := by
  have h1 := pos_cnt hs hl hm a n
  rw [pos_low fun c hc => (hr _ ((hm _).2 ⟨c, hc, rfl⟩)).1, pos_high fun c hc => (hr _ ((hm _).2 ⟨c, hc, rfl⟩)).2, cnt_all (Ok.lts hl) hr] at h1
  omega
end

/-! ### Rows of one's own -/

section
variable {α : Type} {f : α → List Value} {z t : Nat} {F : List Pr} {w : World} {s : SlV} {L : List α}

theorem Sat.recLen (hz : 0 < z) (hf : ∀ x, (f x).length = z) (H : Sat (Row t z s (recs f L) :: F) w) : L.length = s.len ∧ s.len ≤ s.cap ∧ s.cap < 9223372036854775808 := by
  have h := H.rowLen
  rw [recs_len hf] at h
  exact ⟨Nat.eq_of_mul_eq_mul_right hz h, H.own.cap, H.own.top⟩

theorem Sat.recBase (hz : 0 < z) (hf : ∀ x, (f x).length = z) (H : Sat (Row t z s (recs f L) :: F) w) {i : Nat} (hi : i < L.length) : ∃ b, s.base = some ⟨b, 0, none⟩ :=
  H.own.base_of (by have := H.recLen hz hf; omega)

theorem Sat.recCell (hf : ∀ x, (f x).length = z) (H : Sat (Row t z s (recs f L) :: F) w) {a : Addr} (ha : s.base = some a) {i : Nat} {x : α} (hi : L[i]? = some x) {j : Nat} {v : Value} (hj : (f x)[j]? = some v) : w.cell? (a.add (i * z + j)) = some v :=
  H.own.cell ha (recs_get hf hi hj)

/-- Some cells of a row of one's own, stored one behind the other. -/
theorem st_rows : ∀ (news : List Value) {vs : List Value} {w : World} (o i : Nat), Sat (Row t z s vs :: F) w → o + i + news.length ≤ vs.length → (∀ v ∈ news, v.oneCell' = true) → ∀ {a : Addr}, s.base = some a → ∀ {K : World → Prop},
    (∀ w', Sat (Row t z s (vs.take (o + i) ++ news ++ vs.drop (o + i + news.length)) :: F) w' → K w') → stCells (a.add o) i news w K
  | [], vs, w, o, i, H, hl, ho, a, ha, K, hK => by
    refine hK w ?_
    simpa using H
  | v :: r, vs, w, o, i, H, hl, ho, a, ha, K, hK => by
    have hlt : o + i < vs.length := by simp at hl; omega
    have h1 := st_row H (j := o + i) (v := v) (ho v (by simp)) hlt ha (K := fun w' => stCells (a.add o) (i + 1) r w' K) fun w' H' => st_rows r o (i + 1) H' (by simp at hl ⊢; omega) (fun u hu => ho u (by simp [hu])) ha fun w'' H'' => hK w'' ?_
    · simp only [stCells, add_zero] at h1 ⊢
      rw [add_add]
      exact h1
    · have : (vs.set (o + i) v).take (o + (i + 1)) ++ r ++ (vs.set (o + i) v).drop (o + (i + 1) + r.length) = vs.take (o + i) ++ (v :: r) ++ vs.drop (o + i + (v :: r).length) := by
        rw [show o + (i + 1) = o + i + 1 from by omega, List.take_set, List.take_succ_eq_append_getElem hlt, List.set_append_right _ _ (by simp; omega)]
        simp only [List.length_take, Nat.min_eq_left (Nat.le_of_lt hlt), Nat.sub_self, List.set_cons_zero, List.append_assoc, List.singleton_append, List.length_cons, List.cons_append]
        congr 2
        rw [List.drop_set_of_lt (by omega), show o + i + 1 + r.length = o + i + (r.length + 1) from by omega]
        simp
      rw [← this]
      exact H''

/-- A record is laid over another one. -/
theorem st_rec (hf : ∀ x, (f x).length = z) (ho : ∀ x, ∀ v ∈ f x, v.oneCell' = true) (H : Sat (Row t z s (recs f L) :: F) w) {i : Nat} (hi : i < L.length) (y : α) {a : Addr} (ha : s.base = some a) {K : World → Prop}
    (hK : ∀ w', Sat (Row t z s (recs f (L.set i y)) :: F) w' → K w') : stCells (a.add (i * z)) 0 (f y) w K := by
  have hle : i * z + z ≤ L.length * z := by rw [← Nat.succ_mul]; exact Nat.mul_le_mul_right _ hi
  refine st_rows (f y) (i * z) 0 H (by rw [recs_len hf, hf]; omega) (ho y) ha fun w' H' => hK w' ?_
  rw [Nat.add_zero, hf, recs_put hf hi] at H'
  exact H'

/-- The first records of a row, read. -/
theorem Sat.recTake (hz : 0 < z) (hf : ∀ x, (f x).length = z) (H : Sat (Row t z s (recs f L) :: F) w) {i : Nat} (hi : i ≤ L.length) : rowAt w (slB s.base s.cap 0 z) (i * z) (recs f (L.take i)) := by
  have hl := H.recLen hz hf
  rw [slB_zero]
  have := rowAt_take H.rowAll (m := i * z) (Nat.mul_le_mul_right _ (by omega)) H.rowLen
  rwa [recs_take hf] at this
/-- The last ones. -/
theorem Sat.recDrop (hz : 0 < z) (hf : ∀ x, (f x).length = z) (H : Sat (Row t z s (recs f L) :: F) w) {i : Nat} (hi : i ≤ L.length) : rowAt w (slB s.base s.cap i z) ((s.len - i) * z) (recs f (L.drop i)) := by
  have hl := H.recLen hz hf
  have := rowAt_drop (z := z) H.rowAll rfl (k := i) (by omega) hl.2.1 H.rowLen
  rwa [recs_drop hf] at this

/-- A search in halves for where a key is, or would be; nothing changes. -/
theorem bsearch {key : α → Int} {c o : Nat} (hz : 0 < z) (hf : ∀ x, (f x).length = z) (hk : ∀ x, (f x)[0]? = some (.int .u64 (key x))) (hs : Srt key L) (H : Sat (Row t z s (recs f L) :: F) w)
    (hc : w.cell? ((Addr.mk c 0 none).add o) = some (.slice s.base s.len s.cap)) (hlen : s.len < 4611686018427387904) (n : Int) {K : (Int × Int × Unit) → World → Prop} (hK : ∀ st : Int × Int × Unit, st.1 = (pos key L n : Nat) → K st w) :
    LOOP (Int × Int × Unit) (0, ((s.len : Nat) : Int), ()) w fun s3 _ w4 next5 =>
    CND (decide ((s3.1 : Int) < s3.2.1)) (
      2 ≠ (0 : Int) ∧
      LET (i64 (Int.tdiv (i64 (s3.1 + s3.2.1)) 2) : Int) fun mid_6 =>
      NC (some (Addr.mk c 0 none)) fun p7 =>
      ∃ x8 : SlV, w4.cell? (p7.add o) = some (.slice x8.base x8.len x8.cap) ∧
      NC x8.base fun p9 =>
      ((0 : Int) ≤ mid_6 ∧ (mid_6 : Int) < (x8.len : Nat)) ∧
      ∃ x10 : Int, w4.cell? (p9.add (Int.toNat mid_6 * z)) = some (.int .u64 x10) ∧
      CND (decide ((x10 : Int) < n)) (
        next5 (i64 (mid_6 + 1), s3.2.1, ()) w4
      ) (
        next5 (s3.1, mid_6, ()) w4
      )
    ) (K s3 w4) := by
  have hL := H.recLen hz hf
  refine LOOP_intro (fun st w' => w' = w ∧ 0 ≤ st.1 ∧ st.1 ≤ st.2.1 ∧ st.2.1 ≤ s.len ∧ (∀ (j : Nat) x, L[j]? = some x → (j : Int) < st.1 → key x < n) ∧ (∀ (j : Nat) x, L[j]? = some x → st.2.1 ≤ (j : Int) → n ≤ key x)) (fun st _ => (st.2.1 - st.1).toNat)
    ⟨rfl, Int.le_refl _, Int.natCast_nonneg _, Int.le_refl _, fun j x _ h => by dsimp only at h; omega, fun j x hx h => by have := (List.getElem?_eq_some_iff.1 hx).1; dsimp only at h; omega⟩ ?_
  rintro ⟨lo, hi, v⟩ _ w' ⟨rfl, h0, h1, h2, h3, h4⟩
  dsimp only at h0 h1 h2 h3 h4 ⊢
  refine CND_dec (fun hlt => ⟨by decide, LET_intro fun mid hmid => ?_⟩) fun hge => hK _ ?_
  · rw [i64_id (n := lo + hi) (by omega) (by omega), Int.tdiv_eq_ediv_of_nonneg (by omega), i64_id (n := (lo + hi) / 2) (by omega) (by omega)] at hmid
    obtain ⟨x, hx⟩ : ∃ x, L[mid.toNat]? = some x := ⟨_, List.getElem?_eq_getElem (by omega)⟩
    obtain ⟨b, hb⟩ := H.recBase hz hf (i := mid.toNat) (by omega)
    simp only [NC_some]
    refine ⟨s, hc, ?_⟩
    have hcell := H.recCell hf hb hx (hk x)
    rw [hb]
    refine ⟨⟨by omega, by omega⟩, key x, by simpa using hcell, CND_dec (fun g => ?_) fun g => ?_⟩
    · rw [i64_id (n := mid + 1) (by omega) (by omega)]
      refine ⟨⟨by trivial, by omega, by omega, by omega, fun j y hy hj => ?_, h4⟩, by omega⟩
      rcases Int.lt_or_le (j : Int) mid with q | q
      · have := hs.lt hy hx (by omega); omega
      · have : mid.toNat = j := by omega
        rw [this] at hx; rw [hx] at hy; cases hy; exact g
    · refine ⟨⟨by trivial, by omega, by omega, by omega, h3, fun j y hy hj => ?_⟩, by omega⟩
      rcases Int.lt_or_le mid (j : Int) with q | q
      · have := hs.lt hx hy (by omega); omega
      · have : mid.toNat = j := by omega
        rw [this] at hx; rw [hx] at hy; cases hy; omega
  · have := pos_uniq hs (n := n) (i := lo.toNat) (by omega) (fun j x hx hj => h3 j x hx (by omega)) fun j x hx hj => h4 j x hx (by omega)
    omega
end
end Go.Sh

set_option linter.all false
set_option maxRecDepth 4000
set_option maxHeartbeats 1000000
namespace Go.Sh

abbrev PgL := List (Int × Int × Int)
abbrev WdL := List (Int × Int)
def pg3 (e : Int × Int × Int) : List Value := [.int .u64 e.1, .int .i64 e.2.1, .int .u64 e.2.2]
def wd2 (e : Int × Int) : List Value := [.int .u64 e.1, .int .u64 e.2]
def kP (e : Int × Int × Int) : Int := e.1
def kW (e : Int × Int) : Int := e.1
theorem pg3_len (e : Int × Int × Int) : (pg3 e).length = 3 := rfl
theorem wd2_len (e : Int × Int) : (wd2 e).length = 2 := rfl
theorem pg3_one (e : Int × Int × Int) : ∀ v ∈ pg3 e, v.oneCell' = true := by intro v hv; simp [pg3] at hv; rcases hv with rfl | rfl | rfl <;> rfl
theorem wd2_one (e : Int × Int) : ∀ v ∈ wd2 e, v.oneCell' = true := by intro v hv; simp [wd2] at hv; rcases hv with rfl | rfl <;> rfl

/-- Where the lists lie. -/
structure MG where
  s0 : SlV
  s1 : SlV
  s2 : SlV
  s3 : SlV
  s4 : SlV

def mcells (g : MG) : List Value := [slV g.s0, slV g.s1, slV g.s2, slV g.s3, slV g.s4]

def mres (E : Env) (c : Nat) (V : VS) (g : MG) (P : PgL) (W : WdL) : List Pr :=
  [Cells c E.t_mallowref3_Mem (mcells g), RowV g.s0 (ints .u64 V.pl), RowV g.s1 (bools V.rf), RowV g.s2 (ints .u64 V.fl), Row E.t_mallowref3_Page 3 g.s3 (recs pg3 P), Row E.t_mallowref3_Word 2 g.s4 (recs wd2 W)]

/-- What the lists say of the pages. -/
structure MInv (V : VS) (P : PgL) (W : WdL) : Prop where
  ok : VOk V
  srt : Srt kP P
  srw : Srt kW W
  hp : ∀ p, mem V.laid p ↔ ∃ e ∈ P, kP e = p
  hs : ∀ e ∈ P, e.2.1 = stV V e.1
  hw : ∀ e ∈ W, e.1 % 8 = 0 ∧ mem V.ready (e.1 / 8192) ∧ V.wd (e.1 / 8192) (e.1 % 8192 / 8) = e.2
  hf : ∀ e ∈ P, mem V.ready e.1 → ∀ i, 0 ≤ i → i < 1024 → (∀ x ∈ W, x.1 ≠ e.1 * 8192 + i * 8) → V.wd e.1 i = e.2.2
  plw : ∀ x ∈ V.pl, 0 ≤ x ∧ x < 18446744073709551616

/-- The document's address space: its pages, words and answers are those of V. -/
def RefMP (E : Env) (c : Nat) (V : VS) : Pr := Ex fun x : MG × PgL × WdL => Where (MInv V x.2.1 x.2.2) (Star (mres E c V x.1 x.2.1 x.2.2))

section
variable {E : Env} {c : Nat} {V : VS} {Z : List Pr} {w : World} {g : MG} {P : PgL} {W : WdL}

theorem Sat.refm : Sat (RefMP E c V :: Z) w ↔ ∃ g P W, MInv V P W ∧ Sat (mres E c V g P W ++ Z) w := by
  unfold RefMP
  rw [Sat.ex]
  constructor
  · rintro ⟨⟨g, P, W⟩, h⟩
    rw [Sat.where, Sat.star] at h
    exact ⟨g, P, W, h.1, h.2⟩
  · rintro ⟨g, P, W, h1, h2⟩
    refine ⟨⟨g, P, W⟩, ?_⟩
    rw [Sat.where, Sat.star]
    exact ⟨h1, h2⟩

theorem MInv.stm (h : MInv V P W) {e : Int × Int × Int} (he : e ∈ P) : mem V.laid e.1 := (h.hp _).2 ⟨e, he, rfl⟩
theorem MInv.rng (h : MInv V P W) {e : Int × Int × Int} (he : e ∈ P) : 512 ≤ e.1 ∧ e.1 < 34359738368 := h.ok.lim _ (h.stm he)
theorem MInv.lenP (h : MInv V P W) : (P.length : Int) = tot V.laid :=
  len_tot h.srt h.ok.ok1 h.hp (a := 0) (n := 34359738368) fun p hp => by have := h.ok.lim p hp; omega
theorem MInv.fewP (h : MInv V P W) : P.length ≤ 34359738368 := by
  have := h.srt.few (a := 0) (b := 34359738368) (by decide) fun e he => by have := h.rng he; unfold kP; omega
  omega

/-- The words of so many pages. -/
theorem words_few : ∀ {P : PgL} {W : WdL}, Srt kP P → Srt kW W → (∀ x ∈ W, x.1 % 8 = 0 ∧ ∃ e ∈ P, e.1 = x.1 / 8192) → W.length ≤ 1024 * P.length
  | [], [], _, _, _ => Nat.le_refl _
  | [], x :: r, _, _, h => by obtain ⟨_, e, he, _⟩ := h x (by simp); cases he
  | e :: r, W, hP, hW, h => by
    have h1 := List.pairwise_cons.1 hP
    have hlo : ∀ x ∈ W, e.1 ≤ x.1 / 8192 := fun x hx => by
      obtain ⟨_, d, hd, he⟩ := h x hx
      rcases List.mem_cons.1 hd with g | g
      · subst g; omega
      · have := h1.1 d g; unfold kP at this; omega
    have hk : (W.take (pos kW W ((e.1 + 1) * 8192))).length ≤ 1024 := by
      have hs : Srt (fun x : Int × Int => x.1 / 8) (W.take (pos kW W ((e.1 + 1) * 8192))) := by
        have := hW.take (pos kW W ((e.1 + 1) * 8192))
        refine List.Pairwise.imp_of_mem ?_ this
        intro a b ha hb hab
        have e1 := (h a (mem_take_pos ha).1).1
        have e2 := (h b (mem_take_pos hb).1).1
        unfold kW at hab
        show a.1 / 8 < b.1 / 8
        omega
      have := hs.few (a := e.1 * 1024) (b := (e.1 + 1) * 1024) (by omega) fun x hx => by
        have g1 := mem_take_pos hx
        have g2 := hlo x g1.1
        have g3 := g1.2
        unfold kW at g3
        show e.1 * 1024 ≤ x.1 / 8 ∧ x.1 / 8 < (e.1 + 1) * 1024
        omega
      omega
    have hr := words_few (P := r) (W := W.drop (pos kW W ((e.1 + 1) * 8192))) h1.2 (hW.drop _) fun x hx => by
      have g1 := mem_drop_pos hW hx
      obtain ⟨g2, d, hd, he⟩ := h x g1.1
      refine ⟨g2, d, ?_, he⟩
      rcases List.mem_cons.1 hd with g | g
      · subst g
        have := g1.2; unfold kW at this; omega
      · exact g
    have hl := congrArg List.length (List.take_append_drop (pos kW W ((e.1 + 1) * 8192)) W)
    rw [List.length_append] at hl
    rw [List.length_cons]
    omega

theorem MInv.fewW (h : MInv V P W) : W.length ≤ 1024 * P.length :=
  words_few h.srt h.srw fun x hx => by
    obtain ⟨h1, h2, _⟩ := h.hw x hx
    obtain ⟨e, he, hk⟩ := (h.hp _).1 (h.ok.rl _ h2)
    exact ⟨h1, e, he, hk⟩

theorem MInv.rngW (h : MInv V P W) {x : Int × Int} (hx : x ∈ W) : 4194304 ≤ x.1 ∧ x.1 < 281474976710656 := by
  obtain ⟨h1, h2, _⟩ := h.hw x hx
  have := h.ok.lim _ (h.ok.rl _ h2)
  omega

theorem mlenP (H : Sat (mres E c V g P W ++ Z) w) : P.length = g.s3.len ∧ g.s3.len ≤ g.s3.cap ∧ g.s3.cap < 9223372036854775808 := (H.front 4 rfl).recLen (by decide) pg3_len
theorem mlenW (H : Sat (mres E c V g P W ++ Z) w) : W.length = g.s4.len ∧ g.s4.len ≤ g.s4.cap ∧ g.s4.cap < 9223372036854775808 := (H.front 5 rfl).recLen (by decide) wd2_len

/-- A page's record, read. -/
theorem mpage (H : Sat (mres E c V g P W ++ Z) w) {i : Nat} {e : Int × Int × Int} (hi : P[i]? = some e) : ∃ b, g.s3.base = some ⟨b, 0, none⟩ ∧
    w.cell? ((Addr.mk b 0 none).add (i * 3)) = some (.int .u64 e.1) ∧ w.cell? (((Addr.mk b 0 none).add (i * 3)).add 0) = some (.int .u64 e.1) ∧ w.cell? (((Addr.mk b 0 none).add (i * 3)).add 1) = some (.int .i64 e.2.1) ∧ w.cell? (((Addr.mk b 0 none).add (i * 3)).add 2) = some (.int .u64 e.2.2) := by
  have h := H.front 4 rfl
  obtain ⟨b, hb⟩ := h.recBase (by decide) pg3_len (List.getElem?_eq_some_iff.1 hi).1
  refine ⟨b, hb, ?_, ?_, ?_, ?_⟩
  · exact h.recCell pg3_len hb hi (j := 0) rfl
  · rw [add_add]; exact h.recCell pg3_len hb hi (j := 0) rfl
  · rw [add_add]; exact h.recCell pg3_len hb hi (j := 1) rfl
  · rw [add_add]; exact h.recCell pg3_len hb hi (j := 2) rfl

theorem mword (H : Sat (mres E c V g P W ++ Z) w) {i : Nat} {e : Int × Int} (hi : W[i]? = some e) : ∃ b, g.s4.base = some ⟨b, 0, none⟩ ∧
    w.cell? ((Addr.mk b 0 none).add (i * 2)) = some (.int .u64 e.1) ∧ w.cell? (((Addr.mk b 0 none).add (i * 2)).add 1) = some (.int .u64 e.2) := by
  have h := H.front 5 rfl
  obtain ⟨b, hb⟩ := h.recBase (by decide) wd2_len (List.getElem?_eq_some_iff.1 hi).1
  refine ⟨b, hb, ?_, ?_⟩
  · exact h.recCell wd2_len hb hi (j := 0) rfl
  · rw [add_add]; exact h.recCell wd2_len hb hi (j := 1) rfl

theorem mrefuses_spec (H : Sat (mres E c V g P W ++ Z) w) {K : Bool → World → Prop} (h0 : V.rf = [] → K false w)
    (h1 : ∀ x r, V.rf = x :: r → ∀ s w', Sat (mres E c { V with rf := r } { g with s1 := s } P W ++ Z) w' → K x w') : F.mallowref3_Mem_refuses E (some ⟨c, 0, none⟩) K w := by
  unfold F.mallowref3_Mem_refuses
  have hl := (H.front 2 rfl).rowVlen
  have hc := H.cell (o := 0) (m := 1) rfl
  simp only [NC_some]
  refine ⟨g.s1, hc, CND_eq (fun e => h0 ?_) fun e => ?_⟩
  · have : (bools V.rf).length = 0 := by omega
    simpa [bools] using this
  · cases hr : V.rf with
    | nil => have := hl.1; rw [hr] at this; simp [bools] at this; omega
    | cons x r =>
      obtain ⟨a, ha, hd⟩ := (H.front 2 rfl).rowVcell (j := 0) (v := .bool x) (by rw [hr]; rfl)
      refine ⟨g.s1, hc, ?_⟩
      rw [ha]
      simp only [NC_some]
      refine ⟨⟨by decide, by omega⟩, x, hd, g.s1, hc, ⟨by decide, by omega⟩, ?_⟩
      have H2 := Sat.back 2 ((H.front 2 rfl).rowVdrop (n := 1) (by omega)) (by simp [mres])
      rw [hr] at H2
      exact st_cell H2 (o := 0) (m := 1) rfl (by simp [mcells]) fun w' H' => h1 x r hr ⟨slB g.s1.base g.s1.cap (Int.toNat 1) 1, g.s1.len - Int.toNat 1, g.s1.cap - Int.toNat 1⟩ w' H'

theorem mright_spec {page pages : Int} (h0 : 0 ≤ page) (p0 : 0 ≤ pages) {K : Bool → World → Prop} (hK : ∀ b, (b = true ↔ rightV page pages) → K b w) : F.mallowref3_right E page pages K w := by
  unfold F.mallowref3_right rightV at *
  refine CND_dec (fun h1 => CND_dec (fun h2 => ?_) fun h2 => ?_) fun h1 => ?_
  · rw [u64_id (n := 34359738368 - page) (by omega) (by omega)]
    exact hK _ (by simp only [decide_eq_true_eq]; omega)
  · exact hK _ (by simp; omega)
  · exact hK _ (by simp; omega)

theorem mfind_spec (hI : MInv V P W) (H : Sat (mres E c V g P W ++ Z) w) {n : Int} {K : Int → Bool → World → Prop}
    (hK : ∀ b, (b = true ↔ ∃ e, P[pos kP P n]? = some e ∧ e.1 = n) → ∀ w', Sat (mres E c V g P W ++ Z) w' → K (pos kP P n : Nat) b w') : F.mallowref3_Mem_find E (some ⟨c, 0, none⟩) n K w := by
  unfold F.mallowref3_Mem_find
  have Hd := H.drew
  have hl := mlenP H
  have hf := hI.fewP
  simp only [NC_some]
  refine ⟨g.s3, Hd.cell rfl, ?_⟩
  refine bsearch (key := kP) (by decide) pg3_len (fun _ => rfl) hI.srt (Hd.front 4 rfl) (Hd.cell rfl) (by omega) n fun st hst => ?_
  have Hd := Hd.drew
  have hp := pos_le (key := kP) P n
  rw [hst]
  refine ⟨g.s3, Hd.cell rfl, CND_dec (fun hlt => ?_) fun hge => hK _ ⟨fun h => by (cases h), fun ⟨e, he, _⟩ => by have := (List.getElem?_eq_some_iff.1 he).1; omega⟩ _ Hd⟩
  obtain ⟨e, he⟩ : ∃ e, P[pos kP P n]? = some e := ⟨_, List.getElem?_eq_getElem (by omega)⟩
  obtain ⟨b, hb, h0, _⟩ := mpage Hd he
  refine ⟨g.s3, Hd.cell rfl, ?_⟩
  rw [hb]
  refine ⟨⟨by omega, by omega⟩, e.1, by simpa using h0, hK _ ?_ _ Hd⟩
  rw [beq_iff_eq]
  exact ⟨fun h => ⟨e, he, h⟩, fun ⟨d, hd, h⟩ => by rw [he] at hd; cases hd; exact h⟩

theorem mword_spec (hI : MInv V P W) (hfew : tot V.laid ≤ 1099511627776) (H : Sat (mres E c V g P W ++ Z) w) {n : Int} {K : Int → Bool → World → Prop}
    (hK : ∀ b, (b = true ↔ ∃ e, W[pos kW W n]? = some e ∧ e.1 = n) → ∀ w', Sat (mres E c V g P W ++ Z) w' → K (pos kW W n : Nat) b w') : F.mallowref3_Mem_word E (some ⟨c, 0, none⟩) n K w := by
  unfold F.mallowref3_Mem_word
  have Hd := H.drew
  have hl := mlenW H
  have hf := hI.fewW
  have hf2 := hI.lenP
  simp only [NC_some]
  refine ⟨g.s4, Hd.cell rfl, ?_⟩
  refine bsearch (key := kW) (by decide) wd2_len (fun _ => rfl) hI.srw (Hd.front 5 rfl) (Hd.cell rfl) (by omega) n fun st hst => ?_
  have Hd := Hd.drew
  have hp := pos_le (key := kW) W n
  rw [hst]
  refine ⟨g.s4, Hd.cell rfl, CND_dec (fun hlt => ?_) fun hge => hK _ ⟨fun h => by (cases h), fun ⟨e, he, _⟩ => by have := (List.getElem?_eq_some_iff.1 he).1; omega⟩ _ Hd⟩
  obtain ⟨e, he⟩ : ∃ e, W[pos kW W n]? = some e := ⟨_, List.getElem?_eq_getElem (by omega)⟩
  obtain ⟨b, hb, h0, _⟩ := mword Hd he
  refine ⟨g.s4, Hd.cell rfl, ?_⟩
  rw [hb]
  refine ⟨⟨by omega, by omega⟩, e.1, by simpa using h0, hK _ ?_ _ Hd⟩
  rw [beq_iff_eq]
  exact ⟨fun h => ⟨e, he, h⟩, fun ⟨d, hd, h⟩ => by rw [he] at hd; cases hd; exact h⟩

/-- What finding a page tells. -/
theorem found_mem (hI : MInv V P W) {n : Int} : (∃ e, P[pos kP P n]? = some e ∧ e.1 = n) ↔ mem V.laid n := by
  rw [hI.hp]
  exact ⟨fun ⟨e, he, h⟩ => ⟨e, List.mem_of_getElem? he, h⟩, fun ⟨e, he, h⟩ => ⟨e, pos_has hI.srt he h, h⟩⟩

theorem mclear_spec (hI : MInv V P W) (H : Sat (mres E c V g P W ++ Z) w) {page pages : Int} (h0 : 0 ≤ page) (p0 : 0 ≤ pages) (h1 : page + pages < 18446744073709551616) {K : Int → Bool → World → Prop}
    (hk0 : (∀ m, page ≤ m → m < page + pages → ¬ mem V.laid m) → ∀ w', Sat (mres E c V g P W ++ Z) w' → K 0 true w')
    (hk1 : ∀ m, mem V.laid m → page ≤ m → m < page + pages → m < 34359738368 → ∀ w', Sat (mres E c V g P W ++ Z) w' → K (m + 1) false w') :
    F.mallowref3_Mem_clear E (some ⟨c, 0, none⟩) page pages K w := by
  unfold F.mallowref3_Mem_clear
  refine mfind_spec hI H fun b _ w3 H3 => ?_
  have hl := mlenP H3
  have hp := pos_le (key := kP) P page
  simp only [NC_some]
  rw [u64_id (n := page + pages) (by omega) h1]
  refine JOIN_in ⟨g.s3, H3.cell rfl, CND_dec (fun hlt => ?_) fun hge j => CND_f rfl (hk0 (fun m h1 h2 h3 => ?_) _ H3)⟩
  · obtain ⟨e, he⟩ : ∃ e, P[pos kP P page]? = some e := ⟨_, List.getElem?_eq_getElem (by omega)⟩
    obtain ⟨b, hb, h0', _⟩ := mpage H3 he
    have hat := pos_at he
    have hr := hI.rng (List.mem_of_getElem? he)
    unfold kP at hat
    refine ⟨g.s3, H3.cell rfl, ?_⟩
    rw [hb]
    refine ⟨⟨by omega, by omega⟩, e.1, by simpa using h0', fun j => CND_dec (fun g1 => ?_) fun g1 => hk0 (fun m h1 h2 h3 => ?_) _ H3⟩
    · refine ⟨g.s3, H3.cell rfl, ?_⟩
      rw [hb]
      refine ⟨⟨by omega, by omega⟩, e.1, by simpa using h0', ?_⟩
      rw [u64_id (n := e.1 + 1) (by omega) (by omega)]
      exact hk1 e.1 (hI.stm (List.mem_of_getElem? he)) hat g1 hr.2 _ H3
    · obtain ⟨d, hd, hk⟩ := (hI.hp m).1 h3
      obtain ⟨j, hj⟩ := List.mem_iff_getElem?.1 hd
      rcases Nat.lt_or_ge j (pos kP P page) with q | q
      · have := pos_before (key := kP) hj q; unfold kP at this hk; omega
      · rcases Nat.lt_or_eq_of_le q with q | q
        · have := hI.srt.lt he hj q; unfold kP at this hk; omega
        · subst q; rw [he] at hj; cases hj; unfold kP at hk; omega
  · obtain ⟨d, hd, hk⟩ := (hI.hp m).1 h3
    obtain ⟨j, hj⟩ := List.mem_iff_getElem?.1 hd
    have := (List.getElem?_eq_some_iff.1 hj).1
    have := pos_before (key := kP) hj (n := page) (by omega)
    omega

theorem least (p : Nat → Prop) : ∀ n, p n → ∃ n, p n ∧ ∀ m, m < n → ¬ p m := by
  intro n
  induction n using Nat.strongRecOn with
  | ind n ih =>
    intro h
    rcases Classical.em (∃ m, m < n ∧ p m) with ⟨m, h1, h2⟩ | hno
    · exact ih m h1 h2
    · exact ⟨n, h, fun m h1 h2 => hno ⟨m, h1, h2⟩⟩

/-- There is always a first place, if the system's limit is let aside. -/
theorem placed_ex {l : Iv} (hl : ∀ p, mem l p → p < 34359738368) (frm pages : Int) (hf : frm ≤ 34359738368) : ∃ a, Placed l frm pages a := by
  have hex : ∃ n : Nat, (512 * (n : Int)) % 512 = 0 ∧ 512 ≤ 512 * (n : Int) ∧ frm ≤ 512 * (n : Int) ∧ ∀ m, 512 * (n : Int) ≤ m → m < 512 * (n : Int) + pages → ¬ mem l m :=
    ⟨67108864, by decide, by decide, by omega, fun m h1 _ h3 => by have := hl m h3; omega⟩
  obtain ⟨n0, hn0⟩ := hex
  obtain ⟨n, hs, hmin⟩ := least (fun n : Nat => (512 * (n : Int)) % 512 = 0 ∧ 512 ≤ 512 * (n : Int) ∧ frm ≤ 512 * (n : Int) ∧ ∀ m, 512 * (n : Int) ≤ m → m < 512 * (n : Int) + pages → ¬ mem l m) n0 hn0
  refine ⟨512 * (n : Int), hs.1, hs.2.1, hs.2.2.1, hs.2.2.2, fun a ha h1 h2 h3 => ?_⟩
  have := hmin (a / 512).toNat (by omega)
  have e : 512 * (((a / 512).toNat : Nat) : Int) = a := by omega
  rw [e] at this
  exact Classical.byContradiction fun hno => this ⟨ha, h1, h2, fun m g1 g2 g3 => hno ⟨m, g1, g2, g3⟩⟩

theorem mfirst_spec (hI : MInv V P W) (H : Sat (mres E c V g P W ++ Z) w) {frm pages : Int} (h0 : 0 ≤ frm) (h1 : frm < 18446744073709551616) (p0 : 0 < pages) (p1 : pages ≤ 134217728) {K : Int → Bool → World → Prop}
    (hk0 : NoHint V.laid frm pages → ∀ w', Sat (mres E c V g P W ++ Z) w' → K 0 false w')
    (hk1 : ∀ at_, Hinted V.laid frm pages at_ → ∀ w', Sat (mres E c V g P W ++ Z) w' → K at_ true w') :
    F.mallowref3_Mem_first E (some ⟨c, 0, none⟩) frm pages K w := by
  unfold F.mallowref3_Mem_first
  have main : ∀ page : Int, 0 < page → page < 18446744073709551616 → frm ≤ page → (∀ a, a % 512 = 0 → 512 ≤ a → frm ≤ a → a < page → ∃ m, a ≤ m ∧ m < a + pages ∧ mem V.laid m) →
      LOOP (Int × Unit) (page, ()) w fun s4 _ w5 next6 =>
      CND (decide ((s4.1 : Int) ≥ 34359738368)) (
        K 0 false w5
      ) (
        JOIN (Int × Unit) (fun J7 =>
          512 ≠ (0 : Int) ∧
          CND (((Int.tmod s4.1 512) : Int) != 0) (
            512 ≠ (0 : Int) ∧
            LET (u64 ((u64 (s4.1 + 512)) - (Int.tmod s4.1 512)) : Int) fun page_10 =>
            J7 (page_10, ()) w5
          ) (
            J7 (s4.1, ()) w5
          )
        ) fun s8 _ w9 =>
          JOIN (Bool × Unit) (fun J11 =>
            CND (decide ((s8.1 : Int) ≥ 34359738368)) (
              J11 (true, ()) w9
            ) (
              J11 (decide ((pages : Int) > (u64 (34359738368 - s8.1))), ()) w9
            )
          ) fun s12 _ w13 =>
            CND (s12.1) (
              K 0 false w13
            ) (
              F.mallowref3_Mem_clear E (some ⟨c, 0, none⟩) s8.1 pages (fun r14 r15 w16 =>
              CND (r15) (
                K s8.1 true w16
              ) (
                next6 (r14, ()) w16
              )
              ) w13
            )
      ) := by
    intro page hpos hlt hfr hno
    refine LOOP_intro (fun st w' => 0 < st.1 ∧ st.1 < 18446744073709551616 ∧ frm ≤ st.1 ∧ (∀ a, a % 512 = 0 → 512 ≤ a → frm ≤ a → a < st.1 → ∃ m, a ≤ m ∧ m < a + pages ∧ mem V.laid m) ∧ Sat (mres E c V g P W ++ Z) w') (fun st _ => (34359738368 + 1 - st.1).toNat) ⟨hpos, hlt, hfr, hno, H⟩ ?_
    clear hpos hlt hfr hno H page
    rintro ⟨page, v⟩ _ w5 ⟨hpos, hlt, hfr, hno, H⟩
    dsimp only at hpos hlt hfr hno ⊢
    have hlim : ∀ p, mem V.laid p → p < 34359738368 := fun p hp => (hI.ok.lim p hp).2
    -- nothing fits below the limit
    have none : ∀ page : Int, frm ≤ page → (∀ a, a % 512 = 0 → 512 ≤ a → frm ≤ a → a < page → ∃ m, a ≤ m ∧ m < a + pages ∧ mem V.laid m) → 34359738368 < page + pages → NoHint V.laid frm pages := fun page hfr hno hgt => by
      rcases Int.lt_or_le 34359738368 frm with g | g
      · exact .inl g
      · obtain ⟨a, ha⟩ := placed_ex hlim frm pages g
        refine .inr ⟨a, ha, fun h => ?_⟩
        rcases Int.lt_or_le a page with q | q
        · obtain ⟨m, m1, m2, m3⟩ := hno a ha.mul ha.low ha.fr q
          exact ha.free m m1 m2 m3
        · omega
    refine CND_dec (fun hge => hk0 (none page hfr hno (by omega)) _ H) fun hlt2 => ?_
    have cont : ∀ q : Int, page ≤ q → q < page + 512 → q % 512 = 0 → ∀ j : Nat → Value, 
        JOIN (Bool × Unit) (fun J11 =>
            CND (decide ((q : Int) ≥ 34359738368)) (
              J11 (true, ()) w5
            ) (
              J11 (decide ((pages : Int) > (u64 (34359738368 - q))), ()) w5
            )
          ) fun s12 _ w13 =>
            CND (s12.1) (
              K 0 false w13
            ) (
              F.mallowref3_Mem_clear E (some ⟨c, 0, Option.none⟩) q pages (fun r14 r15 w16 =>
              CND (r15) (
                K q true w16
              ) (
                ((0 < r14 ∧ r14 < 18446744073709551616 ∧ frm ≤ r14 ∧ (∀ a, a % 512 = 0 → 512 ≤ a → frm ≤ a → a < r14 → ∃ m, a ≤ m ∧ m < a + pages ∧ mem V.laid m) ∧ Sat (mres E c V g P W ++ Z) w16) ∧ (34359738368 + 1 - r14).toNat < (34359738368 + 1 - page).toNat)
              )
              ) w13
            ) := by
      intro q q0 q1 q8 j
      have hno' : ∀ a, a % 512 = 0 → 512 ≤ a → frm ≤ a → a < q → ∃ m, a ≤ m ∧ m < a + pages ∧ mem V.laid m := fun a a1 a2 a3 a4 => hno a a1 a2 a3 (by omega)
      refine JOIN_in (CND_dec (fun g1 j => CND_t rfl (hk0 (none q (by omega) hno' (by omega)) _ H)) fun g1 => ?_)
      rw [u64_id (n := 34359738368 - q) (by omega) (by omega)]
      refine fun j => CND_dec (fun g2 => hk0 (none q (by omega) hno' (by omega)) _ H) fun g2 => ?_
      refine mclear_spec hI H (by omega) (by omega) (by omega) (fun hcl w' H' => CND_t rfl (hk1 q ⟨by omega, ⟨q8, by omega, by omega, hcl, hno'⟩, by omega⟩ _ H')) fun m m0 m1 m2 m3 w' H' => CND_f rfl ⟨⟨by omega, by omega, by omega, fun a a1 a2 a3 a4 => ?_, H'⟩, by omega⟩
      rcases Int.lt_or_le a q with g | g
      · exact hno' a a1 a2 a3 g
      · exact ⟨m, by omega, by omega, m0⟩
    rw [Int.tmod_eq_emod_of_nonneg (by omega)]
    refine JOIN_in ⟨by decide, CND_ne (fun hm => ⟨by decide, LET_intro fun q hq => ?_⟩) fun hm => cont page (Int.le_refl _) (by omega) hm⟩
    rw [u64_id (n := page + 512) (by omega) (by omega), u64_id (by omega) (by omega)] at hq
    exact cont q (by omega) (by omega) (by omega)
  refine JOIN_in (CND_eq (fun e j => main 512 (by decide) (by decide) (by omega) fun a _ a2 _ a4 => by omega) fun e j => main frm (by omega) h1 (Int.le_refl _) fun a _ _ a3 a4 => by omega)

theorem mstate_spec (H : Sat (RefMP E c V :: Z) w) {n : Int} {K : Int → World → Prop} (hK : ∀ w', Sat (RefMP E c V :: Z) w' → K (stV V n) w') : F.mallowref3_Mem_State E (some ⟨c, 0, none⟩) n K w := by
  obtain ⟨g, P, W, hI, H⟩ := Sat.refm.1 H
  unfold F.mallowref3_Mem_State
  refine mfind_spec hI H fun b hb w3 H3 => ?_
  have fin := hK w3 (Sat.refm.2 ⟨g, P, W, hI, H3⟩)
  have hl := mlenP H3
  cases b
  · refine CND_t rfl ?_
    have : ¬ mem V.laid n := fun h => by have := hb.2 ((found_mem hI).2 h); cases this
    have e : stV V n = 0 := by unfold stV; rw [if_neg fun h => this (inL_iff.1 h)]
    rw [e] at fin; exact fin
  · refine CND_f rfl ?_
    obtain ⟨e, he, hk⟩ := hb.1 rfl
    obtain ⟨b, hb, _, _, h1, _⟩ := mpage H3 he
    have hlt := (List.getElem?_eq_some_iff.1 he).1
    simp only [NC_some]
    refine ⟨g.s3, H3.cell rfl, ?_⟩
    rw [hb]
    refine ⟨⟨by omega, by omega⟩, e.2.1, by simpa using h1, ?_⟩
    rw [hI.hs e (List.mem_of_getElem? he), hk]
    exact fin

/-- How many pages are in a state. -/
def cntS (V : VS) (k : Int) : Int := if k = 2 then tot V.ready else if k = 3 then tot V.rel else if k = 1 then tot V.laid - tot V.ready - tot V.rel else 0

theorem len_part : ∀ (P : PgL), (∀ e ∈ P, e.2.1 = 1 ∨ e.2.1 = 2 ∨ e.2.1 = 3) → P.length = (P.filter fun e => e.2.1 == 1).length + (P.filter fun e => e.2.1 == 2).length + (P.filter fun e => e.2.1 == 3).length
  | [], _ => rfl
  | e :: r, h => by
    have ih := len_part r fun d hd => h d (by simp [hd])
    rcases h e (by simp) with g | g | g <;> simp [List.filter_cons, g, ih] <;> omega

theorem count_state (hI : MInv V P W) {k : Int} (hk : k ≠ 0) : ((P.filter fun e => e.2.1 == k).length : Int) = cntS V k := by
  have hst : ∀ e ∈ P, (e.2.1 = 1 ∧ ¬ mem V.ready e.1 ∧ ¬ mem V.rel e.1) ∨ (e.2.1 = 2 ∧ mem V.ready e.1 ∧ ¬ mem V.rel e.1) ∨ (e.2.1 = 3 ∧ ¬ mem V.ready e.1 ∧ mem V.rel e.1) := fun e he => by
    have h := hI.hs e he
    have hm := hI.stm he
    rcases stV_cases hI.ok e.1 with ⟨_, g, _⟩ | ⟨g1, _, g2, g3⟩ | ⟨g1, _, g2, g3⟩ | ⟨g1, _, g2, g3⟩
    · exact absurd hm g
    · exact .inl ⟨h.trans g1, g2, g3⟩
    · exact .inr (.inl ⟨h.trans g1, g2, g3⟩)
    · exact .inr (.inr ⟨h.trans g1, g2, g3⟩)
  have h2 : ((P.filter fun e => e.2.1 == 2).length : Int) = tot V.ready := by
    refine len_tot (hI.srt.filter _) hI.ok.ok2 (fun p => ?_) (a := 0) (n := 34359738368) fun p hp => by have := hI.ok.lim p (hI.ok.rl p hp); omega
    constructor
    · intro hp
      obtain ⟨e, he, hk⟩ := (hI.hp p).1 (hI.ok.rl p hp)
      refine ⟨e, List.mem_filter.2 ⟨he, ?_⟩, hk⟩
      rcases hst e he with ⟨_, g, _⟩ | ⟨g, _, _⟩ | ⟨_, g, _⟩
      · unfold kP at hk; rw [hk] at g; exact absurd hp g
      · simp [g]
      · unfold kP at hk; rw [hk] at g; exact absurd hp g
    · rintro ⟨e, he, hk⟩
      obtain ⟨he, h2⟩ := List.mem_filter.1 he
      unfold kP at hk
      rcases hst e he with ⟨g, _, _⟩ | ⟨_, g, _⟩ | ⟨g, _, _⟩
      · rw [g] at h2; cases h2
      · rw [hk] at g; exact g
      · rw [g] at h2; cases h2
  have h3 : ((P.filter fun e => e.2.1 == 3).length : Int) = tot V.rel := by
    refine len_tot (hI.srt.filter _) hI.ok.ok3 (fun p => ?_) (a := 0) (n := 34359738368) fun p hp => by have := hI.ok.lim p (hI.ok.el p hp); omega
    constructor
    · intro hp
      obtain ⟨e, he, hk⟩ := (hI.hp p).1 (hI.ok.el p hp)
      refine ⟨e, List.mem_filter.2 ⟨he, ?_⟩, hk⟩
      unfold kP at hk
      rcases hst e he with ⟨_, _, g⟩ | ⟨_, _, g⟩ | ⟨g, _, _⟩
      · rw [hk] at g; exact absurd hp g
      · rw [hk] at g; exact absurd hp g
      · simp [g]
    · rintro ⟨e, he, hk⟩
      obtain ⟨he, h2⟩ := List.mem_filter.1 he
      unfold kP at hk
      rcases hst e he with ⟨g, _, _⟩ | ⟨g, _, _⟩ | ⟨_, _, g⟩
      · rw [g] at h2; cases h2
      · rw [g] at h2; cases h2
      · rw [hk] at g; exact g
  have h1 := len_part P fun e he => (hst e he).elim (fun g => .inl g.1) fun g => g.elim (fun g => .inr (.inl g.1)) fun g => .inr (.inr g.1)
  have hl := hI.lenP
  unfold cntS
  by_cases e2 : k = 2
  · subst e2; rw [if_pos rfl]; exact h2
  rw [if_neg e2]
  by_cases e3 : k = 3
  · subst e3; rw [if_pos rfl]; exact h3
  rw [if_neg e3]
  by_cases e1 : k = 1
  · subst e1; rw [if_pos rfl]; omega
  rw [if_neg e1]
  have : (P.filter fun e => e.2.1 == k) = [] := by
    rw [List.filter_eq_nil_iff]
    intro e he
    rcases hst e he with ⟨g, _⟩ | ⟨g, _⟩ | ⟨g, _⟩ <;> rw [g] <;> simp <;> omega
  rw [this]; rfl

def cntU (P : PgL) (k : Int) (i : Nat) : Int := if k = 0 then 0 else (((P.take i).filter fun e => e.2.1 == k).length : Int)

theorem mcount_spec (H : Sat (RefMP E c V :: Z) w) {k : Int} {K : Int → World → Prop} (hK : ∀ w', Sat (RefMP E c V :: Z) w' → K (cntS V k) w') : F.mallowref3_Mem_Count E (some ⟨c, 0, none⟩) k K w := by
  have H0 := H
  obtain ⟨g, P, W, hI, H⟩ := Sat.refm.1 H
  have hl := mlenP H
  have hf := hI.fewP
  unfold F.mallowref3_Mem_Count
  refine LOOP_intro (fun st w' => w' = w ∧ ∃ i : Nat, st.2.1 = i ∧ i ≤ P.length ∧ st.1 = cntU P k i) (fun st _ => (P.length - st.2.1).toNat) ⟨rfl, 0, rfl, Nat.zero_le _, by simp [cntU]⟩ ?_
  rintro ⟨n, i', v⟩ _ w' ⟨hw', i, hi, hile, hn⟩
  subst hw'
  dsimp only at hi hn ⊢
  subst hi
  simp only [NC_some]
  refine ⟨g.s3, H.cell rfl, CND_dec (fun hlt => ?_) fun hge => ?_⟩
  · obtain ⟨e, he⟩ : ∃ e, P[i]? = some e := ⟨_, List.getElem?_eq_getElem (by omega)⟩
    obtain ⟨b, hb, _, _, h1, _⟩ := mpage H he
    have hlt' : i < P.length := by omega
    have htk : P.take (i + 1) = P.take i ++ [e] := by rw [List.take_succ, he]; rfl
    have hfl : ((P.take i).filter fun e => e.2.1 == k).length ≤ i := Nat.le_trans (List.length_filter_le _ _) (by rw [List.length_take]; omega)
    rw [i64_id (n := (i : Int) + 1) (by omega) (by omega)]
    refine JOIN_in ⟨g.s3, H.cell rfl, ?_⟩
    rw [hb]
    refine ⟨⟨by omega, by omega⟩, e.2.1, by simpa using h1, CND_eq (fun e1 j => CND_ne (fun k0 => ?_) fun k0 => ?_) fun e1 j => CND_f rfl ?_⟩
    · unfold cntU at hn
      rw [if_neg k0] at hn
      rw [hn, u64_id (by omega) (by omega)]
      refine ⟨⟨by trivial, i + 1, by omega, by omega, ?_⟩, by omega⟩
      unfold cntU
      rw [if_neg k0, htk, List.filter_append, List.length_append]
      simp [List.filter_cons, e1]
    · refine ⟨⟨by trivial, i + 1, by omega, by omega, ?_⟩, by omega⟩
      rw [hn]; unfold cntU; rw [if_pos k0, if_pos k0]
    · refine ⟨⟨by trivial, i + 1, by omega, by omega, ?_⟩, by omega⟩
      rw [hn]
      unfold cntU
      rw [htk, List.filter_append, List.length_append]
      simp [List.filter_cons, e1]
  · have := hK w' H0
    have e : n = cntS V k := by
      rw [hn]
      unfold cntU
      rw [List.take_of_length_le (by omega)]
      by_cases k0 : k = 0
      · rw [if_pos k0, k0]; rfl
      · rw [if_neg k0]; exact count_state hI k0
    rw [e]; exact this
end
end Go.Sh

set_option linter.all false
set_option maxRecDepth 4000
set_option maxHeartbeats 1000000
namespace Go.Sh

section
variable {V V' : VS} {P : PgL} {W W' : WdL} {p : Int}

theorem stV_2 (h : VOk V) (h2 : mem V.ready p) : stV V p = 2 := by
  rcases stV_cases h p with ⟨_, _, g, _⟩ | ⟨_, _, g, _⟩ | ⟨g, _⟩ | ⟨_, _, g, _⟩
  · exact absurd h2 g
  · exact absurd h2 g
  · exact g
  · exact absurd h2 g
theorem stV_3 (h : VOk V) (h2 : mem V.rel p) : stV V p = 3 := by
  rcases stV_cases h p with ⟨_, _, _, g⟩ | ⟨_, _, _, g⟩ | ⟨_, _, _, g⟩ | ⟨g, _⟩
  · exact absurd h2 g
  · exact absurd h2 g
  · exact absurd h2 g
  · exact g
theorem stV_1 (h : VOk V) (h1 : mem V.laid p) (h2 : ¬ mem V.ready p) (h3 : ¬ mem V.rel p) : stV V p = 1 := by
  rcases stV_cases h p with ⟨_, g, _⟩ | ⟨g, _⟩ | ⟨_, _, g, _⟩ | ⟨_, _, _, g⟩
  · exact absurd h1 g
  · exact g
  · exact absurd g h2
  · exact absurd g h3
theorem stV_congr (h1 : mem V'.laid p ↔ mem V.laid p) (h2 : mem V'.ready p ↔ mem V.ready p) (h3 : mem V'.rel p ↔ mem V.rel p) : stV V' p = stV V p := by
  have e1 : inL V'.laid p = inL V.laid p := Bool.eq_iff_iff.2 (by rw [inL_iff, inL_iff]; exact h1)
  have e2 : inL V'.ready p = inL V.ready p := Bool.eq_iff_iff.2 (by rw [inL_iff, inL_iff]; exact h2)
  have e3 : inL V'.rel p = inL V.rel p := Bool.eq_iff_iff.2 (by rw [inL_iff, inL_iff]; exact h3)
  unfold stV; rw [e1, e2, e3]

/-- The state that is told of a page's record. -/
theorem MInv.st (hI : MInv V P W) {e : Int × Int × Int} (he : e ∈ P) : (e.2.1 = 1 ∧ ¬ mem V.ready e.1 ∧ ¬ mem V.rel e.1) ∨ (e.2.1 = 2 ∧ mem V.ready e.1 ∧ ¬ mem V.rel e.1) ∨ (e.2.1 = 3 ∧ ¬ mem V.ready e.1 ∧ mem V.rel e.1) := by
  have h := hI.hs e he
  have hm := hI.stm he
  rcases stV_cases hI.ok e.1 with ⟨_, g, _⟩ | ⟨g1, _, g2, g3⟩ | ⟨g1, _, g2, g3⟩ | ⟨g1, _, g2, g3⟩
  · exact absurd hm g
  · exact .inl ⟨h.trans g1, g2, g3⟩
  · exact .inr (.inl ⟨h.trans g1, g2, g3⟩)
  · exact .inr (.inr ⟨h.trans g1, g2, g3⟩)
theorem MInv.is2 (hI : MInv V P W) {e : Int × Int × Int} (he : e ∈ P) : e.2.1 = 2 ↔ mem V.ready e.1 := by
  rcases hI.st he with ⟨g, h, _⟩ | ⟨g, h, _⟩ | ⟨g, h, _⟩
  · exact ⟨fun k => by omega, fun k => absurd k h⟩
  · exact ⟨fun _ => h, fun _ => g⟩
  · exact ⟨fun k => by omega, fun k => absurd k h⟩
theorem MInv.is3 (hI : MInv V P W) {e : Int × Int × Int} (he : e ∈ P) : e.2.1 = 3 ↔ mem V.rel e.1 := by
  rcases hI.st he with ⟨g, _, h⟩ | ⟨g, _, h⟩ | ⟨g, _, h⟩
  · exact ⟨fun k => by omega, fun k => absurd k h⟩
  · exact ⟨fun k => by omega, fun k => absurd k h⟩
  · exact ⟨fun _ => h, fun _ => g⟩

theorem map_srt {F : Int × Int × Int → Int × Int × Int} (hF : ∀ e, kP (F e) = kP e) (hs : Srt kP P) : Srt kP (P.map F) := by
  unfold Srt
  rw [List.pairwise_map]
  exact List.Pairwise.imp (fun h => by rw [hF, hF]; exact h) hs

theorem map_set {F F' : Int × Int × Int → Int × Int × Int} (hs : Srt kP P) {j : Nat} {e : Int × Int × Int} (hj : P[j]? = some e) (h : ∀ d ∈ P, d.1 ≠ e.1 → F' d = F d) : (P.map F).set j (F' e) = P.map F' := by
  apply List.ext_getElem?
  intro i
  rw [List.getElem?_set, List.getElem?_map, List.getElem?_map, List.length_map]
  by_cases ij : j = i
  · subst ij
    rw [if_pos rfl, if_pos (List.getElem?_eq_some_iff.1 hj).1, hj]; rfl
  · rw [if_neg ij]
    cases hd : P[i]? with
    | none => rfl
    | some d =>
      have : d.1 ≠ e.1 := by
        rcases Nat.lt_or_gt_of_ne ij with q | q
        · have := hs.lt hj hd q; unfold kP at this; omega
        · have := hs.lt hd hj q; unfold kP at this; omega
      show some (F d) = some (F' d)
      rw [h d (List.mem_of_getElem? hd) this]

/-- A row of pages that are all laid out stands in one piece. -/
theorem MInv.full (hI : MInv V P W) {a : Int} {n : Nat} (hf : ∀ m, a ≤ m → m < a + n → mem V.laid m) {k : Nat} (hk : k < n) : ∃ e, P[pos kP P a + k]? = some e ∧ e.1 = a + k := by
  obtain ⟨e, he, hke⟩ := (hI.hp (a + k)).1 (hf _ (by omega) (by omega))
  have h1 := pos_has hI.srt he hke
  have h2 := pos_cnt hI.srt hI.ok.ok1 hI.hp a k
  rw [(cnt_full hI.ok.ok1 (by omega)).2 fun m m1 m2 => hf m m1 (by omega)] at h2
  rw [show pos kP P (a + (k : Int)) = pos kP P a + k by omega] at h1
  exact ⟨e, h1, hke⟩

theorem MInv.reserve (hI : MInv V P W) (hok : VOk V') {a : Int} {n : Nat} (hr : V'.ready = V.ready) (hl : V'.rel = V.rel) (hwd : V'.wd = V.wd) (hpl : ∀ x ∈ V'.pl, x ∈ V.pl)
    (hm : ∀ p, mem V'.laid p ↔ mem V.laid p ∨ (a ≤ p ∧ p < a + n)) (hno : ∀ p, a ≤ p → p < a + n → ¬ mem V.laid p) :
    MInv V' (P.take (pos kP P a) ++ ((List.range n).map fun i : Nat => (a + (i : Int), (1 : Int), (0 : Int))) ++ P.drop (pos kP P a)) W := by
  have hmem : ∀ e, e ∈ P.take (pos kP P a) ++ ((List.range n).map fun i : Nat => (a + (i : Int), (1 : Int), (0 : Int))) ++ P.drop (pos kP P a) ↔ e ∈ P ∨ ∃ i : Nat, i < n ∧ e = (a + (i : Int), 1, 0) := fun e => by
    rw [List.mem_append, List.mem_append, List.mem_map]
    constructor
    · rintro ((h | ⟨i, h, rfl⟩) | h)
      · exact .inl (mem_take_pos h).1
      · exact .inr ⟨i, List.mem_range.1 h, rfl⟩
      · exact .inl (mem_drop_pos hI.srt h).1
    · rintro (h | ⟨i, h, rfl⟩)
      · rcases Int.lt_or_le (kP e) a with g | g
        · exact .inl (.inl (mem_of_lt hI.srt h g))
        · exact .inr (mem_of_ge h g)
      · exact .inl (.inr ⟨i, List.mem_range.2 h, rfl⟩)
  have hrl : ∀ p, a ≤ p → p < a + n → ¬ mem V.ready p ∧ ¬ mem V.rel p := fun p h1 h2 => ⟨fun h => hno p h1 h2 (hI.ok.rl p h), fun h => hno p h1 h2 (hI.ok.el p h)⟩
  refine ⟨hok, ?_, hI.srw, fun p => ?_, fun e he => ?_, fun e he => ?_, fun e he hre i h0 h1 hx => ?_, fun x hx => hI.plw x (hpl x hx)⟩
  · refine Srt.mid (hI.srt.take _) ?_ (hI.srt.drop _) (a := a) (b := a + n) (by omega) (fun e he => (mem_take_pos he).2) (fun e he => ?_) fun e he => ?_
    · unfold Srt
      rw [List.pairwise_map]
      exact List.Pairwise.imp (fun h => by unfold kP; dsimp only; omega) List.pairwise_lt_range
    · obtain ⟨i, hi, rfl⟩ := List.mem_map.1 he
      have := List.mem_range.1 hi
      unfold kP; dsimp only; omega
    · have h1 := mem_drop_pos hI.srt he
      rcases Int.lt_or_le (kP e) (a + n) with g | g
      · exact absurd (hI.stm h1.1) (hno _ h1.2 g)
      · exact g
  · rw [hm, hI.hp]
    constructor
    · rintro (⟨e, he, hk⟩ | ⟨h1, h2⟩)
      · exact ⟨e, (hmem e).2 (.inl he), hk⟩
      · refine ⟨(p, 1, 0), (hmem _).2 (.inr ⟨(p - a).toNat, by omega, ?_⟩), rfl⟩
        rw [show a + ((p - a).toNat : Int) = p by omega]
    · rintro ⟨e, he, hk⟩
      rcases (hmem e).1 he with h | ⟨i, hi, rfl⟩
      · exact .inl ⟨e, h, hk⟩
      · unfold kP at hk; dsimp only at hk; exact .inr (by omega)
  · rcases (hmem e).1 he with h | ⟨i, hi, rfl⟩
    · rw [hI.hs e h]
      refine (stV_congr ⟨fun g => ?_, fun g => (hm _).2 (.inl g)⟩ (by rw [hr]) (by rw [hl])).symm
      exact hI.stm h
    · have := hrl (a + (i : Int)) (by omega) (by omega)
      exact (stV_1 hok ((hm _).2 (.inr ⟨by dsimp only; omega, by dsimp only; omega⟩)) (by rw [hr]; exact this.1) (by rw [hl]; exact this.2)).symm
  · rw [hr, hwd]; exact hI.hw e he
  · rw [hr] at hre
    rcases (hmem e).1 he with h | ⟨j, hj, rfl⟩
    · rw [hwd]; exact hI.hf e h hre i h0 h1 hx
    · exact absurd hre (hrl (a + (j : Int)) (by omega) (by omega)).1

/-- What becomes of the records of pages that are made ready, up to one. -/
def cF (V : VS) (page x : Int) (e : Int × Int × Int) : Int × Int × Int := if page ≤ e.1 ∧ e.1 < x ∧ e.2.1 ≠ 2 then (e.1, 2, if e.2.1 = 3 then fillAt V page e.1 else 0) else e
theorem cF_key (V : VS) (page x : Int) (e : Int × Int × Int) : kP (cF V page x e) = kP e := by unfold cF; split <;> rfl

theorem MInv.commit (hI : MInv V P W) {page pages : Int} (hok : VOk V') (h1 : V'.laid = V.laid) (h2 : ∀ p, mem V'.ready p ↔ mem V.ready p ∨ (page ≤ p ∧ p < page + pages)) (h3 : ∀ p, mem V'.rel p ↔ mem V.rel p ∧ ¬ (page ≤ p ∧ p < page + pages))
    (hwd : ∀ p i, V'.wd p i = if page ≤ p ∧ p < page + pages ∧ inL V.rel p = true then fillAt V page p else V.wd p i) (hpl : ∀ x ∈ V'.pl, x ∈ V.pl) : MInv V' (P.map (cF V page (page + pages))) W := by
  refine ⟨hok, map_srt (cF_key V page _) hI.srt, hI.srw, fun p => ?_, fun e' he' => ?_, fun x hx => ?_, fun e' he' hre i i0 i1 hx => ?_, fun x hx => hI.plw x (hpl x hx)⟩
  · rw [h1, hI.hp]
    constructor
    · rintro ⟨e, he, hk⟩; exact ⟨_, List.mem_map_of_mem he, (cF_key V page _ e).trans hk⟩
    · rintro ⟨e', he', hk⟩
      obtain ⟨e, he, rfl⟩ := List.mem_map.1 he'
      exact ⟨e, he, (cF_key V page _ e).symm.trans hk⟩
  · obtain ⟨e, he, rfl⟩ := List.mem_map.1 he'
    have hk : (cF V page (page + pages) e).1 = e.1 := cF_key V page _ e
    rw [hk]
    unfold cF
    by_cases c : page ≤ e.1 ∧ e.1 < page + pages ∧ e.2.1 ≠ 2
    · rw [if_pos c]
      exact (stV_2 hok ((h2 _).2 (.inr ⟨c.1, c.2.1⟩))).symm
    · rw [if_neg c]
      by_cases c2 : mem V.ready e.1
      · rw [(hI.is2 he).2 c2]
        exact (stV_2 hok ((h2 _).2 (.inl c2))).symm
      · have c3 : ¬ (page ≤ e.1 ∧ e.1 < page + pages) := fun g => c ⟨g.1, g.2, fun k => c2 ((hI.is2 he).1 k)⟩
        rw [hI.hs e he]
        refine (stV_congr (by rw [h1]) ?_ ?_).symm
        · rw [h2]; exact ⟨fun g => g.elim id fun g => absurd g c3, .inl⟩
        · rw [h3]; exact ⟨fun g => g.1, fun g => ⟨g, c3⟩⟩
  · obtain ⟨g1, g2, g3⟩ := hI.hw x hx
    refine ⟨g1, (h2 _).2 (.inl g2), ?_⟩
    rw [hwd, if_neg fun g => hI.ok.re _ g2 (inL_iff.1 g.2.2)]
    exact g3
  · obtain ⟨e, he, rfl⟩ := List.mem_map.1 he'
    have hk : (cF V page (page + pages) e).1 = e.1 := cF_key V page _ e
    rw [hk] at hre hx ⊢
    rw [hwd]
    rcases hI.st he with ⟨s, r1, r2⟩ | ⟨s, r1, r2⟩ | ⟨s, r1, r2⟩
    · have hin := ((h2 _).1 hre).resolve_left r1
      rw [if_neg fun g => r2 (inL_iff.1 g.2.2)]
      unfold cF
      rw [if_pos ⟨hin.1, hin.2, by omega⟩]
      dsimp only
      rw [if_neg (by omega)]
      exact hI.ok.clean _ _ i0 i1 r1
    · rw [if_neg fun g => r2 (inL_iff.1 g.2.2)]
      unfold cF
      rw [if_neg fun g => g.2.2 s]
      exact hI.hf e he r1 i i0 i1 hx
    · have hin := ((h2 _).1 hre).resolve_left r1
      rw [if_pos ⟨hin.1, hin.2, inL_iff.2 r2⟩]
      unfold cF
      rw [if_pos ⟨hin.1, hin.2, by omega⟩]
      dsimp only
      rw [if_pos s]

def rF (page x : Int) (e : Int × Int × Int) : Int × Int × Int := if page ≤ e.1 ∧ e.1 < x then (e.1, 3, 0) else e
theorem rF_key (page x : Int) (e : Int × Int × Int) : kP (rF page x e) = kP e := by unfold rF; split <;> rfl

theorem MInv.release (hI : MInv V P W) {page pages : Int} (hok : VOk V') (h1 : V'.laid = V.laid) (h2 : ∀ p, mem V'.ready p ↔ mem V.ready p ∧ ¬ (page ≤ p ∧ p < page + pages)) (h3 : ∀ p, mem V'.rel p ↔ mem V.rel p ∨ (page ≤ p ∧ p < page + pages))
    (hwd : ∀ p i, V'.wd p i = if page ≤ p ∧ p < page + pages then 0 else V.wd p i) (hpl : ∀ x ∈ V'.pl, x ∈ V.pl) (hsw : Srt kW W') (hw : ∀ x, x ∈ W' ↔ x ∈ W ∧ ¬ (page * 8192 ≤ x.1 ∧ x.1 < page * 8192 + pages * 8192)) : MInv V' (P.map (rF page (page + pages))) W' := by
  refine ⟨hok, map_srt (rF_key page _) hI.srt, hsw, fun p => ?_, fun e' he' => ?_, fun x hx => ?_, fun e' he' hre i i0 i1 hx => ?_, fun x hx => hI.plw x (hpl x hx)⟩
  · rw [h1, hI.hp]
    constructor
    · rintro ⟨e, he, hk⟩; exact ⟨_, List.mem_map_of_mem he, (rF_key page _ e).trans hk⟩
    · rintro ⟨e', he', hk⟩
      obtain ⟨e, he, rfl⟩ := List.mem_map.1 he'
      exact ⟨e, he, (rF_key page _ e).symm.trans hk⟩
  · obtain ⟨e, he, rfl⟩ := List.mem_map.1 he'
    have hk : (rF page (page + pages) e).1 = e.1 := rF_key page _ e
    rw [hk]
    unfold rF
    by_cases c : page ≤ e.1 ∧ e.1 < page + pages
    · rw [if_pos c]
      exact (stV_3 hok ((h3 _).2 (.inr c))).symm
    · rw [if_neg c, hI.hs e he]
      refine (stV_congr (by rw [h1]) ?_ ?_).symm
      · rw [h2]; exact ⟨fun g => g.1, fun g => ⟨g, c⟩⟩
      · rw [h3]; exact ⟨fun g => g.elim id fun g => absurd g c, .inl⟩
  · obtain ⟨hx, hout⟩ := (hw x).1 hx
    obtain ⟨g1, g2, g3⟩ := hI.hw x hx
    have c : ¬ (page ≤ x.1 / 8192 ∧ x.1 / 8192 < page + pages) := by omega
    refine ⟨g1, (h2 _).2 ⟨g2, c⟩, ?_⟩
    rw [hwd, if_neg c]
    exact g3
  · obtain ⟨e, he, rfl⟩ := List.mem_map.1 he'
    have hk : (rF page (page + pages) e).1 = e.1 := rF_key page _ e
    rw [hk] at hre hx ⊢
    obtain ⟨r1, c⟩ := (h2 _).1 hre
    rw [hwd, if_neg c]
    unfold rF
    rw [if_neg c]
    refine hI.hf e he r1 i i0 i1 fun x hxm hxe => hx x ((hw x).2 ⟨hxm, by omega⟩) hxe

/-- Words of a row are forgotten. -/
theorem cutW_mem (hs : Srt kW W) {a b : Int} (hab : a ≤ b) (x : Int × Int) : x ∈ W.take (pos kW W a) ++ W.drop (pos kW W b) ↔ x ∈ W ∧ ¬ (a ≤ x.1 ∧ x.1 < b) := by
  rw [List.mem_append]
  constructor
  · rintro (h | h)
    · have := mem_take_pos h; unfold kW at this; exact ⟨this.1, by omega⟩
    · have := mem_drop_pos hs h; unfold kW at this; exact ⟨this.1, by omega⟩
  · rintro ⟨h, g⟩
    rcases Int.lt_or_le x.1 a with q | q
    · exact .inl (mem_of_lt hs h q)
    · exact .inr (mem_of_ge h (by unfold kW; omega))
theorem cutW_srt (hs : Srt kW W) {a b : Int} (hab : a ≤ b) : Srt kW (W.take (pos kW W a) ++ W.drop (pos kW W b)) := by
  unfold Srt
  rw [List.pairwise_append]
  refine ⟨hs.take _, hs.drop _, fun x hx y hy => ?_⟩
  have := (mem_take_pos hx).2; have := (mem_drop_pos hs hy).2; omega

theorem MInv.store (hI : MInv V P W) {addr x : Int} (hok : VOk V') (h1 : V'.laid = V.laid) (h2 : V'.ready = V.ready) (h3 : V'.rel = V.rel) (hpl : V'.pl = V.pl) (ha : addr % 8 = 0) (hr : mem V.ready (addr / 8192))
    (hwd : ∀ p i, 0 ≤ i → i < 1024 → V'.wd p i = if p = addr / 8192 ∧ i = addr % 8192 / 8 then x else V.wd p i) (hsw : Srt kW W') (hw : ∀ y, y ∈ W' ↔ (y ∈ W ∧ y.1 ≠ addr) ∨ y = (addr, x)) : MInv V' P W' := by
  refine ⟨hok, hI.srt, hsw, fun p => by rw [h1]; exact hI.hp p, fun e he => ?_, fun y hy => ?_, fun e he hre i i0 i1 hx => ?_, fun y hy => hI.plw y (by rw [← hpl]; exact hy)⟩
  · rw [hI.hs e he]; exact (stV_congr (by rw [h1]) (by rw [h2]) (by rw [h3])).symm
  · rcases (hw y).1 hy with ⟨h, hne⟩ | rfl
    · obtain ⟨g1, g2, g3⟩ := hI.hw y h
      refine ⟨g1, by rw [h2]; exact g2, ?_⟩
      rw [hwd _ _ (by omega) (by omega), if_neg fun g => hne (by omega)]
      exact g3
    · refine ⟨ha, by rw [h2]; exact hr, ?_⟩
      dsimp only
      rw [hwd _ _ (by omega) (by omega), if_pos ⟨rfl, rfl⟩]
  · rw [h2] at hre
    have hne : ¬ (e.1 = addr / 8192 ∧ i = addr % 8192 / 8) := fun g => hx (addr, x) ((hw _).2 (.inr rfl)) (by dsimp only; omega)
    rw [hwd _ _ i0 i1, if_neg hne]
    refine hI.hf e he hre i i0 i1 fun y hy hye => ?_
    exact hx y ((hw y).2 (.inl ⟨hy, fun g => hne (by omega)⟩)) hye

/-- What the system filled a page with, as its record tells. -/
def fillP (P : PgL) (p : Int) : Int := ((P.find? fun e => e.1 == p).map fun e => e.2.2).getD 0
theorem fillP_of (hs : Srt kP P) {e : Int × Int × Int} (he : e ∈ P) : fillP P e.1 = e.2.2 := by
  unfold fillP
  cases hf : P.find? fun d => d.1 == e.1 with
  | none => exact absurd (List.find?_eq_none.1 hf e he) (by simp)
  | some d =>
    have h1 := List.find?_some hf
    have h2 := List.mem_of_find?_eq_some hf
    have : d = e := hs.inj h2 he (by unfold kP; simpa using h1)
    subst this; rfl

/-- Words of pages that are ready are forgotten: each has what its page was made ready with. -/
theorem MInv.forgot (hI : MInv V P W) {a b : Int} (hok : VOk V') (h1 : V'.laid = V.laid) (h2 : V'.ready = V.ready) (h3 : V'.rel = V.rel) (hpl : V'.pl = V.pl) (hal : a % 8 = 0) (hbl : b % 8 = 0)
    (hwd : ∀ p i, 0 ≤ i → i < 1024 → mem V.ready p → V'.wd p i = if a ≤ p * 8192 + i * 8 ∧ p * 8192 + i * 8 < b then fillP P p else V.wd p i) (hsw : Srt kW W') (hw : ∀ x, x ∈ W' ↔ x ∈ W ∧ ¬ (a ≤ x.1 ∧ x.1 < b)) : MInv V' P W' := by
  refine ⟨hok, hI.srt, hsw, fun p => by rw [h1]; exact hI.hp p, fun e he => ?_, fun y hy => ?_, fun e he hre i i0 i1 hx => ?_, fun y hy => hI.plw y (by rw [← hpl]; exact hy)⟩
  · rw [hI.hs e he]; exact (stV_congr (by rw [h1]) (by rw [h2]) (by rw [h3])).symm
  · obtain ⟨h, hne⟩ := (hw y).1 hy
    obtain ⟨g1, g2, g3⟩ := hI.hw y h
    refine ⟨g1, by rw [h2]; exact g2, ?_⟩
    rw [hwd _ _ (by omega) (by omega) g2, if_neg (by omega)]
    exact g3
  · rw [h2] at hre
    rw [hwd _ _ i0 i1 hre]
    by_cases c : a ≤ e.1 * 8192 + i * 8 ∧ e.1 * 8192 + i * 8 < b
    · rw [if_pos c, fillP_of hI.srt he]
    · rw [if_neg c]
      refine hI.hf e he hre i i0 i1 fun y hy hye => hx y ((hw y).2 ⟨hy, by omega⟩) hye

theorem VOk.congr (h : VOk V) (h1 : V'.laid = V.laid) (h2 : V'.ready = V.ready) (h3 : V'.rel = V.rel) (hw : ∀ p i, 0 ≤ i → i < 1024 → ¬ mem V.ready p → V'.wd p i = 0) : VOk V' :=
  ⟨by rw [h1]; exact h.ok1, by rw [h2]; exact h.ok2, by rw [h3]; exact h.ok3, by rw [h1, h2]; exact h.rl, by rw [h1, h3]; exact h.el, by rw [h2, h3]; exact h.re, by rw [h1]; exact h.lim, by rw [h2]; exact hw, by rw [h1, h2, h3]; exact h.sums⟩

theorem MInv.congr (hI : MInv V P W) (h1 : V'.laid = V.laid) (h2 : V'.ready = V.ready) (h3 : V'.rel = V.rel) (hpl : ∀ x ∈ V'.pl, x ∈ V.pl) (hwd : ∀ p i, 0 ≤ i → i < 1024 → V'.wd p i = V.wd p i) : MInv V' P W := by
  refine ⟨hI.ok.congr h1 h2 h3 fun p i i0 i1 h => by rw [hwd p i i0 i1]; exact hI.ok.clean p i i0 i1 h, hI.srt, hI.srw, fun p => by rw [h1]; exact hI.hp p, fun e he => ?_, fun y hy => ?_, fun e he hre i i0 i1 hx => ?_, fun y hy => hI.plw y (hpl y hy)⟩
  · rw [hI.hs e he]; exact (stV_congr (by rw [h1]) (by rw [h2]) (by rw [h3])).symm
  · obtain ⟨g1, g2, g3⟩ := hI.hw y hy
    exact ⟨g1, by rw [h2]; exact g2, by rw [hwd _ _ (by omega) (by omega)]; exact g3⟩
  · rw [h2] at hre
    rw [hwd _ _ i0 i1]; exact hI.hf e he hre i i0 i1 hx
end
end Go.Sh

set_option linter.all false
set_option maxRecDepth 4000
set_option maxHeartbeats 2000000
namespace Go.Sh

theorem copy3 {F : List Pr} {w : World} {t : Nat} {x y z : Int} (H : Sat F w) {K : Nat → World → Prop} (hK : ∀ b w', Sat (Cells b t [.int .u64 x, .int .i64 y, .int .u64 z] :: F) w' → K b w') :
    AL (.cells #[.int .u64 0, .int .i64 0, .int .u64 0] t) w fun b w1 => stCells (Addr.mk b 0 none) 0 [.int .u64 x, .int .i64 y, .int .u64 z] w1 fun w2 => K b w2 := by
  refine AL_cells (vs := [.int .u64 0, .int .i64 0, .int .u64 0]) H fun b w1 H1 _ => ?_
  exact st_all (news := [.int .u64 x, .int .i64 y, .int .u64 z]) H1 rfl (by intro v hv; simp at hv; rcases hv with rfl | rfl | rfl <;> rfl) fun w2 H2 => hK b w2 H2

section
variable {E : Env} {c : Nat} {V : VS} {Z : List Pr} {w : World} {g : MG} {P : PgL} {W : WdL}

/-- The list of pages is another one. -/
theorem mput3 {s : SlV} {P' : PgL} (H : Sat (Row E.t_mallowref3_Page 3 s (recs pg3 P') :: (mres E c V g P W ++ Z)) w) {K : World → Prop} (hK : ∀ w', Sat (mres E c V { g with s3 := s } P' W ++ Z) w' → K w') :
    stCells ((Addr.mk c 0 none).add 3) 0 [.slice s.base s.len s.cap] w K := by
  refine st_cell (H.front 1 rfl) (o := 0) (m := 3) rfl (by simp [mcells]) fun w' H' => hK w' ?_
  have h1 := (H'.front 5 rfl).tail
  exact Sat.addMid [Cells c E.t_mallowref3_Mem (mcells { g with s3 := s }), RowV g.s0 (ints .u64 V.pl), RowV g.s1 (bools V.rf), RowV g.s2 (ints .u64 V.fl)] (T := Row E.t_mallowref3_Word 2 g.s4 (recs wd2 W) :: Z) (h1.front 1 rfl)

theorem mput4 {s : SlV} {W' : WdL} (H : Sat (Row E.t_mallowref3_Word 2 s (recs wd2 W') :: (mres E c V g P W ++ Z)) w) {K : World → Prop} (hK : ∀ w', Sat (mres E c V { g with s4 := s } P W' ++ Z) w' → K w') :
    stCells ((Addr.mk c 0 none).add 4) 0 [.slice s.base s.len s.cap] w K := by
  refine st_cell (H.front 1 rfl) (o := 0) (m := 4) rfl (by simp [mcells]) fun w' H' => hK w' ?_
  have h1 := (H'.front 6 rfl).tail
  exact Sat.addMid [Cells c E.t_mallowref3_Mem (mcells { g with s4 := s }), RowV g.s0 (ints .u64 V.pl), RowV g.s1 (bools V.rf), RowV g.s2 (ints .u64 V.fl), Row E.t_mallowref3_Page 3 g.s3 (recs pg3 P)] (T := Z) (h1.front 1 rfl)

theorem mwordS_spec (hs : Srt kW W) (hf : W.length ≤ 4398046511104) (H : Sat (mres E c V g P W ++ Z) w) {n : Int} {K : Int → Bool → World → Prop}
    (hK : ∀ b, (b = true ↔ ∃ e, W[pos kW W n]? = some e ∧ e.1 = n) → ∀ w', Sat (mres E c V g P W ++ Z) w' → K (pos kW W n : Nat) b w') : F.mallowref3_Mem_word E (some ⟨c, 0, none⟩) n K w := by
  unfold F.mallowref3_Mem_word
  have Hd := H.drew
  have hl := mlenW H
  simp only [NC_some]
  refine ⟨g.s4, Hd.cell rfl, ?_⟩
  refine bsearch (key := kW) (by decide) wd2_len (fun _ => rfl) hs (Hd.front 5 rfl) (Hd.cell rfl) (by omega) n fun st hst => ?_
  have Hd := Hd.drew
  have hp := pos_le (key := kW) W n
  rw [hst]
  refine ⟨g.s4, Hd.cell rfl, CND_dec (fun hlt => ?_) fun hge => hK _ ⟨fun h => by (cases h), fun ⟨e, he, _⟩ => by have := (List.getElem?_eq_some_iff.1 he).1; omega⟩ _ Hd⟩
  obtain ⟨e, he⟩ : ∃ e, W[pos kW W n]? = some e := ⟨_, List.getElem?_eq_getElem (by omega)⟩
  obtain ⟨b, hb, h0, _⟩ := mword Hd he
  refine ⟨g.s4, Hd.cell rfl, ?_⟩
  rw [hb]
  refine ⟨⟨by omega, by omega⟩, e.1, by simpa using h0, hK _ ?_ _ Hd⟩
  rw [beq_iff_eq]
  exact ⟨fun h => ⟨e, he, h⟩, fun ⟨d, hd, h⟩ => by rw [he] at hd; cases hd; exact h⟩

theorem mforget_spec (hs : Srt kW W) (hf : W.length ≤ 4398046511104) (H : Sat (mres E c V g P W ++ Z) w) {x y : Int} (hx : 0 ≤ x) (hy : 0 ≤ y) (hxy : x + y < 18446744073709551616) {K : World → Prop}
    (hK : ∀ s w', Sat (mres E c V { g with s4 := s } P (W.take (pos kW W x) ++ W.drop (pos kW W (x + y))) ++ Z) w' → K w') : F.mallowref3_Mem_forget E (some ⟨c, 0, none⟩) x y K w := by
  unfold F.mallowref3_Mem_forget
  refine mwordS_spec hs hf H fun b1 _ w3 H3 => ?_
  rw [u64_id (n := x + y) (by omega) hxy]
  refine mwordS_spec hs hf H3 fun b2 _ w6 H6 => ?_
  refine AL_rows (n := 0) (z := 2) H6 rfl (by decide) fun b7 w8 H8 => ?_
  have hl := mlenW H8.tail
  have p1 := pos_le (key := kW) W x
  have p2 := pos_le (key := kW) W (x + y)
  simp only [NC_some]
  refine ⟨g.s4, (H8.front 1 rfl).cell rfl, ⟨by omega, by omega⟩, ?_⟩
  refine APP_row (x := ⟨slB g.s4.base g.s4.cap 0 2, pos kW W x, g.s4.cap⟩) (news := recs wd2 (W.take (pos kW W x))) H8 rfl ((H8.front 6 rfl).recTake (by decide) wd2_len p1) (by rw [recs_len wd2_len, List.length_take]; dsimp only; rw [Nat.min_eq_left p1]) (recs_one wd2_one _) (by dsimp only; omega) (by dsimp only; omega) fun s11 w12 H12 hl12 => ?_
  rw [List.nil_append] at H12
  refine ⟨g.s4, (H12.front 1 rfl).cell rfl, ⟨by omega, by omega⟩, ?_⟩
  refine APP_row (x := ⟨slB g.s4.base g.s4.cap (pos kW W (x + y)) 2, g.s4.len - pos kW W (x + y), g.s4.cap - pos kW W (x + y)⟩) (news := recs wd2 (W.drop (pos kW W (x + y)))) H12 rfl ((H12.front 6 rfl).recDrop (by decide) wd2_len p2) (by rw [recs_len wd2_len, List.length_drop]; dsimp only; rw [hl.1]) (recs_one wd2_one _) (by dsimp only at hl12 ⊢; omega) (by dsimp only at hl12 ⊢; omega) fun s15 w16 H16 _ => ?_
  rw [← recs_app] at H16
  exact mput4 H16 fun w' H' => hK s15 w' H'

theorem MInv.fewW2 (hI : MInv V P W) (hfew : tot V.laid ≤ 1000000) : W.length ≤ 1024000000 := by
  have := hI.fewW; have := hI.lenP; omega

/-! ### Making ready -/

theorem mcommit_spec (H : Sat (RefMP E c V :: Z) w) {page pages : Int} (h0 : 0 ≤ page) (h1 : page < 18446744073709551616) (p0 : 0 ≤ pages) (p1 : pages < 18446744073709551616) {K : Int → World → Prop}
    (hk0 : ¬ rightV page pages → ∀ w', Sat (RefMP E c V :: Z) w' → K 1 w')
    (hk1 : rightV page pages → cnt V.laid page (page + pages) ≠ pages → ∀ w', Sat (RefMP E c V :: Z) w' → K 33 w')
    (hk2 : rightV page pages → cnt V.laid page (page + pages) = pages → cnt V.ready page (page + pages) = pages → ∀ w', Sat (RefMP E c V :: Z) w' → K 0 w')
    (hk3 : rightV page pages → cnt V.laid page (page + pages) = pages → cnt V.ready page (page + pages) ≠ pages → ∀ r, V.rf = true :: r → ∀ w', Sat (RefMP E c { V with rf := r } :: Z) w' → K 13 w')
    (hk4 : rightV page pages → cnt V.laid page (page + pages) = pages → cnt V.ready page (page + pages) ≠ pages → (∀ r, V.rf ≠ true :: r) → ∀ w', (VOk (commitV V page pages) → Sat (RefMP E c (commitV V page pages) :: Z) w') → K 0 w') :
    F.mallowref3_Mem_Commit E (some ⟨c, 0, none⟩) page pages K w := by
  have H0 := H
  obtain ⟨g, P, W, hI, H⟩ := Sat.refm.1 H
  have back : ∀ w', Sat (mres E c V g P W ++ Z) w' → Sat (RefMP E c V :: Z) w' := fun w' H' => Sat.refm.2 ⟨g, P, W, hI, H'⟩
  unfold F.mallowref3_Mem_Commit
  refine mright_spec h0 p0 fun br hbr => ?_
  cases br
  · exact CND_t rfl (hk0 (fun h => by cases hbr.2 h) _ H0)
  have hright := hbr.1 rfl
  have hr2 := hright
  unfold rightV at hr2
  have hA : page < page + pages := by omega
  have hB : page + pages < 18446744073709551616 := by omega
  refine CND_f rfl (mfind_spec hI H fun b3 hb3 w5 H5 => ?_)
  have hl := mlenP H5
  have hfP := hI.fewP
  have hp := pos_le (key := kP) P page
  simp only [NC_some]
  refine ⟨g.s3, H5.cell rfl, ?_⟩
  rw [i64_id (n := ((g.s3.len : Nat) : Int) - (pos kP P page : Nat)) (by omega) (by omega), u64_id (n := ((g.s3.len : Nat) : Int) - (pos kP P page : Nat)) (by omega) (by omega)]
  have hfull : cnt V.laid page (page + pages) = pages ↔ ∀ m, page ≤ m → m < page + pages → mem V.laid m := by
    have := cnt_full hI.ok.ok1 (a := page) (b := page + pages) (by omega)
    rw [show page + pages - page = pages by omega] at this; exact this
  have hready : cnt V.ready page (page + pages) = pages ↔ ∀ m, page ≤ m → m < page + pages → mem V.ready m := by
    have := cnt_full hI.ok.ok2 (a := page) (b := page + pages) (by omega)
    rw [show page + pages - page = pages by omega] at this; exact this
  have hrow : cnt V.laid page (page + pages) = pages → ∀ k : Nat, (k : Int) < pages → ∃ e, P[pos kP P page + k]? = some e ∧ e.1 = page + k := fun hc k hk => by
    have := hI.full (a := page) (n := pages.toNat) (fun m m1 m2 => hfull.1 hc m m1 (by omega)) (k := k) (by omega)
    exact this
  refine CND_dec (fun hgt => hk1 hright (fun hc => ?_) _ (back _ H5)) fun hle => ?_
  · obtain ⟨e, he, _⟩ := hrow hc (pages.toNat - 1) (by omega)
    have := (List.getElem?_eq_some_iff.1 he).1
    omega
  refine LOOP_intro (fun st w' => Sat (mres E c V g P W ++ Z) w' ∧ ∃ i : Nat, st.2.1 = i ∧ (i : Int) ≤ pages ∧ (∀ k : Nat, k < i → ∃ e, P[pos kP P page + k]? = some e ∧ e.1 = page + k) ∧ (st.1 = true ↔ ∀ m, page ≤ m → m < page + i → mem V.ready m)) (fun st _ => (pages - st.2.1).toNat)
    ⟨H5, 0, rfl, by show (0 : Int) ≤ pages; omega, fun k hk => by omega, ⟨fun _ m m1 m2 => by omega, fun _ => rfl⟩⟩ ?_
  rintro ⟨rd, i', v⟩ _ w9 ⟨H9, i, hi, hile, hall, hrd⟩
  dsimp only at hi hrd ⊢
  subst hi
  refine CND_dec (fun hlt => ?_) fun hge => ?_
  · obtain ⟨e, he⟩ : ∃ e, P[pos kP P page + i]? = some e := ⟨_, List.getElem?_eq_getElem (by omega)⟩
    obtain ⟨b, hb, _, c0, c1, c2⟩ := mpage H9 he
    have hem := List.mem_of_getElem? he
    have her := hI.rng hem
    rw [i64_id (n := (i : Int)) (by omega) (by omega), i64_id (n := (pos kP P page : Nat) + (i : Int)) (by omega) (by omega), u64_id (n := page + (i : Int)) (by omega) (by omega), u64_id (n := (i : Int) + 1) (by omega) (by omega)]
    refine ⟨g.s3, H9.cell rfl, ?_⟩
    rw [hb]
    have et : Int.toNat ((pos kP P page : Nat) + (i : Int)) = pos kP P page + i := by omega
    rw [et]
    refine ⟨⟨by omega, by omega⟩, e.1, c0, e.2.1, c1, e.2.2, c2, copy3 H9 fun b17 w19 H19 => ⟨e.1, H19.cell0 rfl, CND_ne (fun hne => hk1 hright (fun hc => ?_) _ (back _ H19.tail)) fun heq => ?_⟩⟩
    · obtain ⟨d, hd, hde⟩ := hrow hc i hlt
      rw [he] at hd; cases hd; exact hne hde
    · have hall' : ∀ k : Nat, k < i + 1 → ∃ e, P[pos kP P page + k]? = some e ∧ e.1 = page + k := fun k hk => by
        rcases Nat.lt_or_eq_of_le (Nat.le_of_lt_succ hk) with q | q
        · exact hall k q
        · subst q; exact ⟨e, he, heq⟩
      refine CND_intro (fun ht => ⟨e.2.1, H19.cell rfl, ⟨H19.tail, i + 1, by omega, by omega, hall', ?_⟩, by omega⟩) fun hf => ⟨⟨H19.tail, i + 1, by omega, by omega, hall', ?_⟩, by omega⟩
      · rw [beq_iff_eq, hI.is2 hem]
        have := hrd.1 ht
        constructor
        · intro h m m1 m2
          rcases Int.lt_or_le m (page + i) with q | q
          · exact this m m1 q
          · rw [show m = e.1 by omega]; exact h
        · intro h; exact h e.1 (by omega) (by omega)
      · refine ⟨fun h => (by cases h), fun h => ?_⟩
        have := hrd.2 fun m m1 m2 => h m m1 (by omega)
        rw [hf] at this; cases this
  · have hip : (i : Int) = pages := by omega
    have hc : cnt V.laid page (page + pages) = pages := hfull.2 fun m m1 m2 => by
      obtain ⟨e, he, hk⟩ := hall (m - page).toNat (by omega)
      have := hI.stm (List.mem_of_getElem? he)
      rw [show m = e.1 by omega]; exact this
    refine CND_intro (fun ht => hk2 hright hc (hready.2 fun m m1 m2 => hrd.1 ht m m1 (by omega)) _ (back _ H9)) fun hf => ?_
    have hnr : cnt V.ready page (page + pages) ≠ pages := fun h => by
      have := hrd.2 fun m m1 m2 => hready.1 h m m1 (by omega)
      rw [hf] at this; cases this
    have main : (∀ r, V.rf ≠ true :: r) → ∀ (s1 : SlV) (w23 : World), Sat (mres E c { V with rf := V.rf.tail } { g with s1 := s1 } P W ++ Z) w23 →
        LOOP (Int × Unit) (0, ()) w23 fun s24 _ w25 next26 =>
          CND (decide ((s24.1 : Int) < (i64 (pages)))) (
            NC (some (Addr.mk c 0 none)) fun p27 =>
            ∃ x28 : SlV, w25.cell? (p27.add 3) = some (.slice x28.base x28.len x28.cap) ∧
            NC x28.base fun p29 =>
            ((0 : Int) ≤ (i64 ((pos kP P page : Nat) + s24.1)) ∧ ((i64 ((pos kP P page : Nat) + s24.1)) : Int) < (x28.len : Nat)) ∧
            ∃ c30 : Int, w25.cell? ((p29.add (Int.toNat (i64 ((pos kP P page : Nat) + s24.1)) * 3)).add 0) = some (.int .u64 c30) ∧
            ∃ c31 : Int, w25.cell? ((p29.add (Int.toNat (i64 ((pos kP P page : Nat) + s24.1)) * 3)).add 1) = some (.int .i64 c31) ∧
            ∃ c32 : Int, w25.cell? ((p29.add (Int.toNat (i64 ((pos kP P page : Nat) + s24.1)) * 3)).add 2) = some (.int .u64 c32) ∧
            AL (.cells #[.int .u64 0, .int .i64 0, .int .u64 0] E.t_mallowref3_Page) w25 fun b33 w34 =>
            stCells (Addr.mk b33 0 none) 0 [.int .u64 c30, .int .i64 c31, .int .u64 c32] w34 fun w35 =>
            ∃ x36 : Int, w35.cell? ((Addr.mk b33 0 none).add 1) = some (.int .i64 x36) ∧
            CND ((x36 : Int) == 2) (
              next26 (i64 (s24.1 + 1), ()) w35
            ) (
              JOIN (Int × Unit) (fun J37 =>
                JOIN (Bool × Unit) (fun J40 =>
                  ∃ x43 : Int, w35.cell? ((Addr.mk b33 0 none).add 1) = some (.int .i64 x43) ∧
                  CND ((x43 : Int) == 3) (
                    NC (some (Addr.mk c 0 none)) fun p44 =>
                    ∃ x45 : SlV, w35.cell? (p44.add 2) = some (.slice x45.base x45.len x45.cap) ∧
                    J40 (decide ((((x45.len : Nat) : Int) : Int) > 0), ()) w35
                  ) (
                    J40 (false, ()) w35
                  )
                ) fun s41 _ w42 =>
                  CND (s41.1) (
                    NC (some (Addr.mk c 0 none)) fun p46 =>
                    ∃ x47 : SlV, w42.cell? (p46.add 2) = some (.slice x47.base x47.len x47.cap) ∧
                    NC x47.base fun p48 =>
                    ((0 : Int) ≤ 0 ∧ (0 : Int) < (x47.len : Nat)) ∧
                    ∃ x49 : Int, w42.cell? (p48.add (Int.toNat 0 * 1)) = some (.int .u64 x49) ∧
                    NC (some (Addr.mk c 0 none)) fun p50 =>
                    ∃ x51 : SlV, w42.cell? (p50.add 2) = some (.slice x51.base x51.len x51.cap) ∧
                    ((0 : Int) ≤ 1 ∧ (1 : Int) ≤ (x51.len : Nat)) ∧
                    NC (some (Addr.mk c 0 none)) fun p52 =>
                    stCells (p52.add 2) 0 [.slice (slB x51.base x51.cap (Int.toNat 1) 1) (x51.len - (Int.toNat 1)) (x51.cap - (Int.toNat 1))] w42 fun w53 =>
                    J37 (x49, ()) w53
                  ) (
                    J37 (0, ()) w42
                  )
              ) fun s38 _ w39 =>
                NC (some (Addr.mk c 0 none)) fun p54 =>
                ∃ x55 : SlV, w39.drew.cell? (p54.add 3) = some (.slice x55.base x55.len x55.cap) ∧
                ∃ x56 : Int, w39.drew.cell? (Addr.mk b33 0 none) = some (.int .u64 x56) ∧
                NC x55.base fun p57 =>
                ((0 : Int) ≤ (i64 ((pos kP P page : Nat) + s24.1)) ∧ ((i64 ((pos kP P page : Nat) + s24.1)) : Int) < (x55.len : Nat)) ∧
                stCells (p57.add (Int.toNat (i64 ((pos kP P page : Nat) + s24.1)) * 3)) 0 [.int .u64 x56, .int .i64 2, .int .u64 s38.1] w39.drew fun w58 =>
                next26 (i64 (s24.1 + 1), ()) w58
            )
          ) (
            K 0 w25
          ) := by
      intro hrf s1 w23 H23
      have hcF0 : P.map (cF V page (page + ((0 : Nat) : Int))) = P := by
        rw [show P = P.map id by simp, List.map_map]
        exact List.map_congr_left fun e _ => by show cF V page (page + ((0 : Nat) : Int)) e = e; unfold cF; rw [if_neg (by omega)]
      have hcn0 : cnt V.rel page (page + ((0 : Nat) : Int)) = 0 := (cnt_none hI.ok.ok3 (by omega)).2 fun n n1 n2 => by omega
      rw [i64_id (n := pages) (by omega) (by omega)]
      refine LOOP_intro (fun st w' => ∃ i : Nat, st.1 = i ∧ (i : Int) ≤ pages ∧ ∃ s2, Sat (mres E c { V with rf := V.rf.tail, fl := V.fl.drop (cnt V.rel page (page + i)).toNat } { g with s1 := s1, s2 := s2 } (P.map (cF V page (page + i))) W ++ Z) w') (fun st _ => (pages - st.1).toNat)
        ⟨0, rfl, by show (0 : Int) ≤ pages; omega, g.s2, by rw [hcF0, hcn0]; exact H23⟩ ?_
      rintro ⟨i', v⟩ _ w25 ⟨i, hi, hile, s2, H25⟩
      dsimp only at hi ⊢
      subst hi
      refine CND_dec (fun hlt => ?_) fun hge => ?_
      · obtain ⟨e, he, hke⟩ := hrow hc i hlt
        have hem := List.mem_of_getElem? he
        have hlen := (List.getElem?_eq_some_iff.1 he).1
        have her := hI.rng hem
        have hcn := cnt_nonneg V.rel page (page + i)
        have hcs := cnt_succ hI.ok.ok3 (a := page) (k := page + i) (by omega)
        have ese : page + (i : Int) + 1 = page + ((i + 1 : Nat) : Int) := by omega
        rw [ese] at hcs
        have he' : (P.map (cF V page (page + i)))[pos kP P page + i]? = some e := by
          rw [List.getElem?_map, he]
          show some (cF V page (page + i) e) = some e
          unfold cF; rw [if_neg (by omega)]
        have hoth : ∀ d ∈ P, d.1 ≠ e.1 → cF V page (page + ((i + 1 : Nat) : Int)) d = cF V page (page + i) d := fun d _ hd => by
          unfold cF
          by_cases q : page ≤ d.1 ∧ d.1 < page + i ∧ d.2.1 ≠ 2
          · rw [if_pos q, if_pos ⟨q.1, by omega, q.2.2⟩]
          · rw [if_neg q, if_neg fun q2 => q ⟨q2.1, by omega, q2.2.2⟩]
        have hl3 := mlenP H25
        rw [List.length_map] at hl3
        simp only [NC_some]
        rw [i64_id (n := (pos kP P page : Nat) + (i : Int)) (by omega) (by omega), i64_id (n := (i : Int) + 1) (by omega) (by omega)]
        have et : Int.toNat ((pos kP P page : Nat) + (i : Int)) = pos kP P page + i := by omega
        rw [et]
        obtain ⟨b, hb, _, c0, c1, c2⟩ := mpage H25 he'
        refine ⟨_, H25.cell rfl, ?_⟩
        rw [hb]
        refine ⟨⟨by omega, by dsimp only; omega⟩, e.1, c0, e.2.1, c1, e.2.2, c2, copy3 H25 fun b33 w35 H35 => ⟨e.2.1, H35.cell rfl, CND_eq (fun s2e => ?_) fun s2e => ?_⟩⟩
        · refine ⟨⟨i + 1, by omega, by omega, s2, ?_⟩, by omega⟩
          have hnr : ¬ mem V.rel (page + i) := by rw [← hke]; exact hI.ok.re _ ((hI.is2 hem).1 s2e)
          have em : P.map (cF V page (page + ((i + 1 : Nat) : Int))) = P.map (cF V page (page + i)) := List.map_congr_left fun d hd => by
            by_cases q : d.1 = e.1
            · have : d = e := hI.srt.inj hd hem q
              subst this
              unfold cF; rw [if_neg fun q => q.2.2 s2e, if_neg fun q => q.2.2 s2e]
            · exact hoth d hd q
          rw [em, hcs.2 hnr]
          exact H35.tail
        · -- the page's fill, and what is left of the fills
          have fin : ∀ (fill : Int) (s2' : SlV) (w39 : World), cF V page (page + ((i + 1 : Nat) : Int)) e = (e.1, 2, fill) →
              Sat (Cells b33 E.t_mallowref3_Page [.int .u64 e.1, .int .i64 e.2.1, .int .u64 e.2.2] :: (mres E c { V with rf := V.rf.tail, fl := V.fl.drop (cnt V.rel page (page + ((i + 1 : Nat) : Int))).toNat } { g with s1 := s1, s2 := s2' } (P.map (cF V page (page + i))) W ++ Z)) w39 →
              ∃ x55 : SlV, w39.drew.cell? ((Addr.mk c 0 none).add 3) = some (.slice x55.base x55.len x55.cap) ∧
                ∃ x56 : Int, w39.drew.cell? (Addr.mk b33 0 none) = some (.int .u64 x56) ∧
                NC x55.base fun p57 =>
                ((0 : Int) ≤ ((pos kP P page : Nat) + (i : Int)) ∧ ((pos kP P page : Nat) + (i : Int)) < (x55.len : Nat)) ∧
                stCells (p57.add ((pos kP P page + i) * 3)) 0 [.int .u64 x56, .int .i64 2, .int .u64 fill] w39.drew fun w58 =>
                (∃ k : Nat, (i : Int) + 1 = k ∧ (k : Int) ≤ pages ∧ ∃ s2, Sat (mres E c { V with rf := V.rf.tail, fl := V.fl.drop (cnt V.rel page (page + k)).toNat } { g with s1 := s1, s2 := s2 } (P.map (cF V page (page + k))) W ++ Z) w58) ∧ (pages - ((i : Int) + 1)).toNat < (pages - (i : Int)).toNat := by
            intro fill s2' w39 hfill H39
            have Hd := H39.drew
            have hl4 := mlenP Hd.tail
            obtain ⟨b', hb', _⟩ := mpage Hd.tail he'
            refine ⟨_, (Hd.front 1 rfl).cell rfl, e.1, Hd.cell0 rfl, ?_⟩
            rw [hb']
            refine ⟨⟨by omega, by dsimp only at hl4 ⊢; rw [List.length_map] at hl4; omega⟩, ?_⟩
            refine st_rec pg3_len pg3_one (Hd.front 5 rfl) (i := pos kP P page + i) (by rw [List.length_map]; exact hlen) (e.1, 2, fill) hb' fun w58 H58 => ⟨⟨i + 1, by omega, by omega, s2', ?_⟩, by omega⟩
            have H59 := (Sat.back 5 H58 (by simp [mres])).tail
            rw [← hfill, map_set hI.srt he hoth] at H59
            exact H59
          have hF : cF V page (page + ((i + 1 : Nat) : Int)) e = (e.1, 2, if e.2.1 = 3 then fillAt V page e.1 else 0) := by
            unfold cF; rw [if_pos ⟨by omega, by omega, s2e⟩]
          refine JOIN_in (JOIN_in ⟨e.2.1, H35.cell rfl, CND_eq (fun s3e => ?_) fun s3e j => CND_f rfl fun j => ?_⟩)
          · have hrel : mem V.rel (page + i) := by rw [← hke]; exact (hI.is3 hem).1 s3e
            rw [if_pos s3e] at hF
            have hcs1 := hcs.1 hrel
            have hfl := (H35.front 4 rfl).rowVlen
            refine ⟨s2, (H35.front 1 rfl).cell rfl, fun j => CND_dec (fun hpos => ?_) fun hz => ?_⟩
            · cases hd : V.fl.drop (cnt V.rel page (page + i)).toNat with
              | nil => have := hfl.1; dsimp only at this; rw [hd] at this; simp [ints] at this; omega
              | cons x r =>
                obtain ⟨a, ha, hcell⟩ := (H35.front 4 rfl).rowVcell (j := 0) (v := .int .u64 x) (by dsimp only; rw [hd]; rfl)
                refine ⟨s2, (H35.front 1 rfl).cell rfl, ?_⟩
                rw [ha]
                refine ⟨⟨by decide, by omega⟩, x, hcell, s2, (H35.front 1 rfl).cell rfl, ⟨by decide, by omega⟩, ?_⟩
                have H36 := Sat.back 4 ((H35.front 4 rfl).rowVdrop (n := 1) (show 1 ≤ s2.len by omega)) (by simp [mres])
                have hx : fillAt V page e.1 = x := by
                  unfold fillAt
                  rw [hke]
                  have : V.fl[(cnt V.rel page (page + i)).toNat]? = some x := by
                    have := congrArg (fun l => l[0]?) hd
                    simpa [List.getElem?_drop] using this
                  rw [List.getD_eq_getElem?_getD, this]; rfl
                have hdr : (V.fl.drop (cnt V.rel page (page + i)).toNat).drop 1 = V.fl.drop (cnt V.rel page (page + ((i + 1 : Nat) : Int))).toNat := by
                  rw [List.drop_drop, hcs1]; congr 1; omega
                rw [hx] at hF
                refine st_cell (H36.front 1 rfl) (o := 0) (m := 2) rfl (by simp [mcells]) fun w53 H53 j => fin x ⟨slB s2.base s2.cap (Int.toNat 1) 1, s2.len - Int.toNat 1, s2.cap - Int.toNat 1⟩ w53 hF ?_
                have H54 := Sat.back 1 H53 (by simp [mres])
                have e1 : (ints IntKind.u64 (V.fl.drop (cnt V.rel page (page + i)).toNat)).drop 1 = ints .u64 (V.fl.drop (cnt V.rel page (page + ((i + 1 : Nat) : Int))).toNat) := by
                  rw [← hdr]; simp [ints]
                dsimp only at H54
                rw [e1] at H54
                exact H54
            · have hnil : V.fl.drop (cnt V.rel page (page + i)).toNat = [] := by
                have := hfl.1; dsimp only at this
                have : (ints IntKind.u64 (V.fl.drop (cnt V.rel page (page + i)).toNat)).length = 0 := by omega
                rw [ints, List.length_map] at this
                exact List.eq_nil_of_length_eq_zero this
              have hle2 := List.drop_eq_nil_iff.1 hnil
              have hx : fillAt V page e.1 = 0 := by
                unfold fillAt
                rw [hke, List.getD_eq_getElem?_getD, List.getElem?_eq_none hle2]; rfl
              rw [hx] at hF
              refine fun j => fin 0 s2 w35 hF ?_
              have : V.fl.drop (cnt V.rel page (page + ((i + 1 : Nat) : Int))).toNat = V.fl.drop (cnt V.rel page (page + i)).toNat := by
                rw [hnil, List.drop_eq_nil_iff]; omega
              rw [this]; exact H35
          · have hnr : ¬ mem V.rel (page + i) := fun h => s3e ((hI.is3 hem).2 (by rw [hke]; exact h))
            rw [if_neg s3e] at hF
            refine fin 0 s2 w35 hF ?_
            rw [hcs.2 hnr]; exact H35
      · have hip : (i : Int) = pages := by omega
        refine hk4 hright hc hnr hrf w25 fun hok => ?_
        rw [hip] at H25
        refine Sat.refm.2 ⟨{ g with s1 := s1, s2 := s2 }, P.map (cF V page (page + pages)), W, hI.commit hok rfl (fun p => ?_) (fun p => ?_) (fun p i => rfl) (fun x hx => hx), H25⟩
        · exact mem_addL hI.ok.ok2 hA h0 hB p
        · exact mem_cutL hA
    refine mrefuses_spec H9 (fun e => CND_f rfl (main (fun r h => by rw [e] at h; cases h) g.s1 w9 ?_)) fun x r e s w' H' => ?_
    · have : V.rf.tail = V.rf := by rw [e]; rfl
      rw [this]; exact H9
    · cases x
      · refine CND_f rfl (main (fun r h => by rw [e] at h; cases h) s w' ?_)
        rw [e]; exact H'
      · exact CND_t rfl (hk3 hright hc hnr r e w' (Sat.refm.2 ⟨_, P, W, hI.congr rfl rfl rfl (fun x hx => hx) fun _ _ _ _ => rfl, H'⟩))
end
end Go.Sh

set_option linter.all false
set_option maxRecDepth 4000
set_option maxHeartbeats 2000000
namespace Go.Sh

section
variable {E : Env} {c : Nat} {V : VS} {Z : List Pr} {w : World} {g : MG} {P : PgL} {W : WdL}

theorem mrelease_spec (hfew : tot V.laid ≤ 1000000) (H : Sat (RefMP E c V :: Z) w) {page pages : Int} (h0 : 0 ≤ page) (h1 : page < 18446744073709551616) (p0 : 0 ≤ pages) (p1 : pages < 18446744073709551616) {K : Int → World → Prop}
    (hk0 : ¬ rightV page pages → ∀ w', Sat (RefMP E c V :: Z) w' → K 1 w')
    (hk1 : rightV page pages → cnt V.ready page (page + pages) ≠ pages → ∀ w', Sat (RefMP E c V :: Z) w' → K 33 w')
    (hk2 : rightV page pages → cnt V.ready page (page + pages) = pages → ∀ w', (VOk (releaseV V page pages) → Sat (RefMP E c (releaseV V page pages) :: Z) w') → K 0 w') :
    F.mallowref3_Mem_Release E (some ⟨c, 0, none⟩) page pages K w := by
  have H0 := H
  obtain ⟨g, P, W, hI, H⟩ := Sat.refm.1 H
  have back : ∀ w', Sat (mres E c V g P W ++ Z) w' → Sat (RefMP E c V :: Z) w' := fun w' H' => Sat.refm.2 ⟨g, P, W, hI, H'⟩
  unfold F.mallowref3_Mem_Release
  refine mright_spec h0 p0 fun br hbr => ?_
  cases br
  · exact CND_t rfl (hk0 (fun h => by cases hbr.2 h) _ H0)
  have hright := hbr.1 rfl
  have hr2 := hright
  unfold rightV at hr2
  have hA : page < page + pages := by omega
  have hB : page + pages < 18446744073709551616 := by omega
  refine CND_f rfl (mfind_spec hI H fun b3 hb3 w5 H5 => ?_)
  have hl := mlenP H5
  have hfP := hI.fewP
  have hp := pos_le (key := kP) P page
  simp only [NC_some]
  refine ⟨g.s3, H5.cell rfl, ?_⟩
  rw [i64_id (n := ((g.s3.len : Nat) : Int) - (pos kP P page : Nat)) (by omega) (by omega), u64_id (n := ((g.s3.len : Nat) : Int) - (pos kP P page : Nat)) (by omega) (by omega)]
  have hready : cnt V.ready page (page + pages) = pages ↔ ∀ m, page ≤ m → m < page + pages → mem V.ready m := by
    have := cnt_full hI.ok.ok2 (a := page) (b := page + pages) (by omega)
    rw [show page + pages - page = pages by omega] at this; exact this
  have hrow : cnt V.ready page (page + pages) = pages → ∀ k : Nat, (k : Int) < pages → ∃ e, P[pos kP P page + k]? = some e ∧ e.1 = page + k := fun hc k hk => by
    have := hI.full (a := page) (n := pages.toNat) (fun m m1 m2 => hI.ok.rl m (hready.1 hc m m1 (by omega))) (k := k) (by omega)
    exact this
  refine CND_dec (fun hgt => hk1 hright (fun hc => ?_) _ (back _ H5)) fun hle => ?_
  · obtain ⟨e, he, _⟩ := hrow hc (pages.toNat - 1) (by omega)
    have := (List.getElem?_eq_some_iff.1 he).1
    omega
  refine LOOP_intro (fun st w' => Sat (mres E c V g P W ++ Z) w' ∧ ∃ i : Nat, st.1 = i ∧ (i : Int) ≤ pages ∧ (∀ m, page ≤ m → m < page + i → mem V.ready m)) (fun st _ => (pages - st.1).toNat)
    ⟨H5, 0, rfl, by show (0 : Int) ≤ pages; omega, fun m m1 m2 => by omega⟩ ?_
  rintro ⟨i', v⟩ _ w9 ⟨H9, i, hi, hile, hall⟩
  dsimp only at hi ⊢
  subst hi
  refine CND_dec (fun hlt => ?_) fun hge => ?_
  · obtain ⟨e, he⟩ : ∃ e, P[pos kP P page + i]? = some e := ⟨_, List.getElem?_eq_getElem (by omega)⟩
    obtain ⟨b, hb, _, c0, c1, c2⟩ := mpage H9 he
    have hem := List.mem_of_getElem? he
    have her := hI.rng hem
    rw [i64_id (n := (i : Int)) (by omega) (by omega), i64_id (n := (pos kP P page : Nat) + (i : Int)) (by omega) (by omega), u64_id (n := page + (i : Int)) (by omega) (by omega), u64_id (n := (i : Int) + 1) (by omega) (by omega)]
    refine ⟨g.s3, H9.cell rfl, ?_⟩
    rw [hb]
    have et : Int.toNat ((pos kP P page : Nat) + (i : Int)) = pos kP P page + i := by omega
    rw [et]
    have bad : (e.1 ≠ page + i ∨ e.2.1 ≠ 2) → cnt V.ready page (page + pages) ≠ pages := fun h hc => by
      obtain ⟨d, hd, hde⟩ := hrow hc i hlt
      rw [he] at hd; cases hd
      rcases h with h | h
      · exact h hde
      · exact h ((hI.is2 hem).2 (hready.1 hc _ (by omega) (by omega)))
    refine ⟨⟨by omega, by omega⟩, e.1, c0, e.2.1, c1, e.2.2, c2, copy3 H9 fun b17 w19 H19 => JOIN_in ⟨e.1, H19.cell0 rfl, CND_ne (fun hne j => CND_t rfl (hk1 hright (bad (.inl hne)) _ (back _ H19.tail))) fun heq => ⟨e.2.1, H19.cell rfl, fun j => CND_ne (fun hne => hk1 hright (bad (.inr hne)) _ (back _ H19.tail)) fun h2 => ?_⟩⟩⟩
    refine ⟨⟨H19.tail, i + 1, by omega, by omega, fun m m1 m2 => ?_⟩, by omega⟩
    rcases Int.lt_or_le m (page + i) with q | q
    · exact hall m m1 q
    · rw [show m = e.1 by omega]; exact (hI.is2 hem).1 h2
  · have hip : (i : Int) = pages := by omega
    have hc : cnt V.ready page (page + pages) = pages := hready.2 fun m m1 m2 => hall m m1 (by omega)
    have hcF0 : P.map (rF page (page + ((0 : Nat) : Int))) = P := by
      rw [show P = P.map id by simp, List.map_map]
      exact List.map_congr_left fun e _ => by show rF page (page + ((0 : Nat) : Int)) e = e; unfold rF; rw [if_neg (by omega)]
    clear hip hge hile hall
    rw [i64_id (n := pages) (by omega) (by omega)]
    refine LOOP_intro (fun st w' => ∃ i : Nat, st.1 = i ∧ (i : Int) ≤ pages ∧ Sat (mres E c V g (P.map (rF page (page + i))) W ++ Z) w') (fun st _ => (pages - st.1).toNat)
      ⟨0, rfl, by show (0 : Int) ≤ pages; omega, by rw [hcF0]; exact H9⟩ ?_
    rintro ⟨i', v⟩ _ w26 ⟨i, hi, hile, H26⟩
    dsimp only at hi ⊢
    subst hi
    refine CND_dec (fun hlt => ?_) fun hge => ?_
    · obtain ⟨e, he, hke⟩ := hrow hc i hlt
      have hem := List.mem_of_getElem? he
      have hlen := (List.getElem?_eq_some_iff.1 he).1
      have her := hI.rng hem
      have ese : page + (i : Int) + 1 = page + ((i + 1 : Nat) : Int) := by omega
      have he' : (P.map (rF page (page + i)))[pos kP P page + i]? = some e := by
        rw [List.getElem?_map, he]
        show some (rF page (page + i) e) = some e
        unfold rF; rw [if_neg (by omega)]
      have hoth : ∀ d ∈ P, d.1 ≠ e.1 → rF page (page + ((i + 1 : Nat) : Int)) d = rF page (page + i) d := fun d _ hd => by
        unfold rF
        by_cases q : page ≤ d.1 ∧ d.1 < page + i
        · rw [if_pos q, if_pos ⟨q.1, by omega⟩]
        · rw [if_neg q, if_neg fun q2 => q ⟨q2.1, by omega⟩]
      have hl3 := mlenP H26
      rw [List.length_map] at hl3
      rw [i64_id (n := (pos kP P page : Nat) + (i : Int)) (by omega) (by omega), i64_id (n := (i : Int) + 1) (by omega) (by omega), u64_id (n := (i : Int)) (by omega) (by omega), u64_id (n := page + (i : Int)) (by omega) (by omega)]
      have et : Int.toNat ((pos kP P page : Nat) + (i : Int)) = pos kP P page + i := by omega
      rw [et]
      obtain ⟨b, hb, _⟩ := mpage H26 he'
      refine ⟨_, H26.cell rfl, ?_⟩
      rw [hb]
      refine ⟨⟨by omega, by omega⟩, ?_⟩
      refine st_rec pg3_len pg3_one (H26.front 4 rfl) (i := pos kP P page + i) (by rw [List.length_map]; exact hlen) (page + i, 3, 0) hb fun w58 H58 => ⟨⟨i + 1, by omega, by omega, ?_⟩, by omega⟩
      have H59 := Sat.back 4 H58 (by simp [mres])
      have hF : rF page (page + ((i + 1 : Nat) : Int)) e = (page + i, 3, 0) := by
        unfold rF; rw [if_pos ⟨by omega, by omega⟩, hke]
      rw [← hF, map_set hI.srt he hoth] at H59
      exact H59
    · have hip : (i : Int) = pages := by omega
      rw [hip] at H26
      rw [u64_id (n := page * 8192) (by omega) (by omega), u64_id (n := pages * 8192) (by omega) (by omega)]
      have hfw := hI.fewW2 hfew
      refine mforget_spec hI.srw (by omega) H26 (by omega) (by omega) (by omega) fun s w' H' => hk2 hright hc w' fun hok => ?_
      have hab : page * 8192 ≤ page * 8192 + pages * 8192 := by omega
      exact Sat.refm.2 ⟨_, _, _, hI.release hok rfl (fun p => mem_cutL hA) (fun p => mem_addL hI.ok.ok3 hA h0 hB p) (fun p i => rfl) (fun x hx => hx) (cutW_srt hI.srw hab) (cutW_mem hI.srw hab), H'⟩

theorem mload_spec (hI : MInv V P W) (hfew : tot V.laid ≤ 1000000) (H : Sat (mres E c V g P W ++ Z) w) {addr : Int} (h0 : 0 ≤ addr) (h1 : addr < 18446744073709551616) {K : Int → Int → World → Prop}
    (hK : ∀ w', Sat (mres E c V g P W ++ Z) w' → K (loadV V addr).1 (loadV V addr).2 w') : F.mallowref3_Mem_Load E (some ⟨c, 0, none⟩) addr K w := by
  unfold F.mallowref3_Mem_Load
  rw [Int.tmod_eq_emod_of_nonneg h0]
  unfold loadV at hK
  refine ⟨by decide, CND_ne (fun ha => ?_) fun ha => ⟨by decide, ?_⟩⟩
  · have := hK w H; rw [if_pos ha] at this; exact this
  rw [if_neg fun h => h ha] at hK
  rw [Int.tdiv_eq_ediv_of_nonneg h0, u64_id (n := addr / 8192) (by omega) (by omega)]
  refine mfind_spec hI H fun b hb w3 H3 => ?_
  have hl := mlenP H3
  simp only [NC_some]
  cases b
  · have hno : ¬ mem V.ready (addr / 8192) := fun h => by
      have := hb.2 ((found_mem hI).2 (hI.ok.rl _ h)); cases this
    rw [if_neg fun h => hno (inL_iff.1 h)] at hK
    exact JOIN_in (CND_t rfl fun j => CND_t rfl (hK _ H3))
  · obtain ⟨e, he, hk⟩ := hb.1 rfl
    have hem := List.mem_of_getElem? he
    have hlen := (List.getElem?_eq_some_iff.1 he).1
    obtain ⟨b, hb, _, _, c1, _⟩ := mpage H3 he
    refine JOIN_in (CND_f rfl ⟨g.s3, H3.cell rfl, ?_⟩)
    rw [hb]
    refine ⟨⟨by omega, by omega⟩, e.2.1, by simpa using c1, fun j => CND_ne (fun hne => ?_) fun h2 => ?_⟩
    · have hno : ¬ mem V.ready (addr / 8192) := fun h => hne ((hI.is2 hem).2 (by rw [hk]; exact h))
      rw [if_neg fun h => hno (inL_iff.1 h)] at hK
      exact hK _ H3
    · have hre : mem V.ready e.1 := (hI.is2 hem).1 h2
      rw [if_pos (inL_iff.2 (by rw [← hk]; exact hre))] at hK
      have hfw := hI.fewW2 hfew
      refine mwordS_spec hI.srw (by omega) H3 fun b2 hb2 w13 H13 => ?_
      have hl4 := mlenW H13
      have hl3 := mlenP H13
      cases b2
      · refine CND_f rfl ?_
        obtain ⟨b, hb, _, _, _, c2⟩ := mpage H13 he
        refine ⟨g.s3, H13.cell rfl, ?_⟩
        rw [hb]
        refine ⟨⟨by omega, by omega⟩, e.2.2, by simpa using c2, ?_⟩
        have hv := hI.hf e hem hre (addr % 8192 / 8) (by omega) (by omega) fun x hx hxe => by
          have : x.1 = addr := by omega
          have := hb2.2 ⟨x, pos_has hI.srw hx this, this⟩
          cases this
        have := hK _ H13
        dsimp only at this
        rw [← hk, hv] at this; exact this
      · refine CND_t rfl ?_
        obtain ⟨x, hx, hxa⟩ := hb2.1 rfl
        have hlx := (List.getElem?_eq_some_iff.1 hx).1
        obtain ⟨b, hb, _, c2⟩ := mword H13 hx
        refine ⟨g.s4, H13.cell rfl, ?_⟩
        rw [hb]
        refine ⟨⟨by omega, by omega⟩, x.2, by simpa using c2, ?_⟩
        obtain ⟨_, _, g3⟩ := hI.hw x (List.mem_of_getElem? hx)
        rw [hxa] at g3
        have := hK _ H13
        dsimp only at this
        rw [g3] at this; exact this

theorem mloadS_spec (hfew : tot V.laid ≤ 1000000) (H : Sat (RefMP E c V :: Z) w) {addr : Int} (h0 : 0 ≤ addr) (h1 : addr < 18446744073709551616) {K : Int → Int → World → Prop}
    (hK : ∀ w', Sat (RefMP E c V :: Z) w' → K (loadV V addr).1 (loadV V addr).2 w') : F.mallowref3_Mem_Load E (some ⟨c, 0, none⟩) addr K w := by
  obtain ⟨g, P, W, hI, H⟩ := Sat.refm.1 H
  exact mload_spec hI hfew H h0 h1 fun w' H' => hK w' (Sat.refm.2 ⟨g, P, W, hI, H'⟩)

theorem putW_mem (hs : Srt kW W) {a x : Int} (hno : ¬ ∃ e, W[pos kW W a]? = some e ∧ e.1 = a) (y : Int × Int) : y ∈ W.take (pos kW W a) ++ [(a, x)] ++ W.drop (pos kW W a) ↔ (y ∈ W ∧ y.1 ≠ a) ∨ y = (a, x) := by
  rw [List.mem_append, List.mem_append, List.mem_singleton]
  have hna : ∀ y ∈ W, y.1 ≠ a := fun y hy e => hno ⟨y, pos_has hs hy e, e⟩
  constructor
  · rintro ((h | h) | h)
    · exact .inl ⟨(mem_take_pos h).1, hna _ (mem_take_pos h).1⟩
    · exact .inr h
    · exact .inl ⟨(mem_drop_pos hs h).1, hna _ (mem_drop_pos hs h).1⟩
  · rintro (⟨h, g⟩ | h)
    · rcases Int.lt_or_le y.1 a with q | q
      · exact .inl (.inl (mem_of_lt hs h q))
      · exact .inr (mem_of_ge h q)
    · exact .inl (.inr h)
theorem putW_srt (hs : Srt kW W) {a x : Int} (hno : ¬ ∃ e, W[pos kW W a]? = some e ∧ e.1 = a) : Srt kW (W.take (pos kW W a) ++ [(a, x)] ++ W.drop (pos kW W a)) := by
  refine Srt.mid (hs.take _) (by unfold Srt; simp) (hs.drop _) (a := a) (b := a + 1) (by omega) (fun e he => (mem_take_pos he).2) (fun e he => ?_) fun e he => ?_
  · rw [List.mem_singleton] at he; subst he; unfold kW; dsimp only; omega
  · have h1 := mem_drop_pos hs he
    rcases Int.lt_or_le a (kW e) with q | q
    · omega
    · exact absurd ⟨e, pos_has hs h1.1 (by omega), by have := h1.2; unfold kW at this q; omega⟩ hno
theorem setW_mem (hs : Srt kW W) {a x : Int} {j : Nat} {e : Int × Int} (hj : W[j]? = some e) (he : e.1 = a) (y : Int × Int) : y ∈ W.set j (a, x) ↔ (y ∈ W ∧ y.1 ≠ a) ∨ y = (a, x) := by
  rw [List.mem_iff_getElem?]
  have hlt := (List.getElem?_eq_some_iff.1 hj).1
  constructor
  · rintro ⟨i, hi⟩
    rw [List.getElem?_set] at hi
    split at hi
    · exact .inr (Option.some.inj hi).symm
    · rename_i hne
      refine .inl ⟨List.mem_of_getElem? hi, fun h => ?_⟩
      rcases Nat.lt_or_gt_of_ne hne with q | q
      · have := hs.lt hj hi q; unfold kW at this; omega
      · have := hs.lt hi hj q; unfold kW at this; omega
  · rintro (⟨h, g⟩ | h)
    · obtain ⟨i, hi⟩ := List.mem_iff_getElem?.1 h
      refine ⟨i, ?_⟩
      rw [List.getElem?_set, if_neg fun q => ?_]
      · exact hi
      · subst q; rw [hj] at hi; cases hi; exact g he
    · refine ⟨j, ?_⟩
      rw [List.getElem?_set, if_pos rfl, if_pos hlt, h]
theorem setW_srt (hs : Srt kW W) {a x : Int} {j : Nat} {e : Int × Int} (hj : W[j]? = some e) (he : e.1 = a) : Srt kW (W.set j (a, x)) := by
  have : (W.set j (a, x)).map kW = W.map kW := by
    rw [List.map_set]
    apply List.ext_getElem?
    intro i
    rw [List.getElem?_set]
    split
    · rename_i q; subst q
      have hlt := (List.getElem?_eq_some_iff.1 hj).1
      rw [List.length_map, if_pos hlt, List.getElem?_map, hj]
      show some a = some e.1
      rw [he]
    · rfl
  unfold Srt at hs ⊢
  have h1 : (W.map kW).Pairwise fun a b => a < b := List.pairwise_map.2 hs
  rw [← this] at h1
  exact List.pairwise_map.1 h1

theorem mstore_spec (hI : MInv V P W) (hfew : tot V.laid ≤ 1000000) (H : Sat (mres E c V g P W ++ Z) w) {addr x : Int} (h0 : 0 ≤ addr) (h1 : addr < 18446744073709551616) {K : Int → World → Prop}
    (hk1 : storeE V addr ≠ 0 → ∀ w', Sat (mres E c V g P W ++ Z) w' → K (storeE V addr) w')
    (hk0 : storeE V addr = 0 → ∀ s W' w', MInv (storeV V addr x) P W' → Sat (mres E c (storeV V addr x) { g with s4 := s } P W' ++ Z) w' → K 0 w') : F.mallowref3_Mem_Store E (some ⟨c, 0, none⟩) addr x K w := by
  unfold F.mallowref3_Mem_Store
  have hle : (loadV V addr).2 = storeE V addr := by
    unfold loadV storeE
    split
    · rfl
    · split <;> rfl
  refine mload_spec hI hfew H h0 h1 fun w3 H3 => ?_
  rw [hle]
  refine CND_ne (fun hne => hk1 hne _ H3) fun h0e => ?_
  have hw0 := hk0 h0e
  have hsv : storeV V addr x = { V with wd := fun p i => if p = addr / 8192 ∧ i = addr % 8192 / 8 then x else V.wd p i } := by unfold storeV; rw [if_pos h0e]
  have hal : addr % 8 = 0 := by
    unfold storeE at h0e
    by_cases q : addr % 8 = 0
    · exact q
    · rw [if_pos q] at h0e; cases h0e
  have hre : mem V.ready (addr / 8192) := by
    unfold storeE at h0e
    rw [if_neg fun h => h hal] at h0e
    by_cases q : inL V.ready (addr / 8192) = true
    · exact inL_iff.1 q
    · rw [if_neg q] at h0e; cases h0e
  have hfw := hI.fewW2 hfew
  have hok : VOk (storeV V addr x) := by
    rw [hsv]
    refine hI.ok.congr rfl rfl rfl fun p i i0 i1 hn => ?_
    dsimp only
    rw [if_neg fun q => hn (by rw [q.1]; exact hre)]
    exact hI.ok.clean p i i0 i1 hn
  have inv : ∀ W', Srt kW W' → (∀ y, y ∈ W' ↔ (y ∈ W ∧ y.1 ≠ addr) ∨ y = (addr, x)) → MInv (storeV V addr x) P W' := fun W' hs' hm' => by
    refine hI.store hok (by rw [hsv]) (by rw [hsv]) (by rw [hsv]) (by rw [hsv]) hal hre (fun p i _ _ => by rw [hsv]) hs' hm'
  have hmr : ∀ (gg : MG) W', mres E c (storeV V addr x) gg P W' = mres E c V gg P W' := fun gg W' => by rw [hsv]; rfl
  refine mwordS_spec hI.srw (by omega) H3 fun b hb w6 H6 => ?_
  have hl4 := mlenW H6
  simp only [NC_some]
  cases b
  · have hno : ¬ ∃ e, W[pos kW W addr]? = some e ∧ e.1 = addr := fun h => by have := hb.2 h; cases this
    have p1 := pos_le (key := kW) W addr
    refine CND_f rfl ?_
    refine AL_rows (n := 0) (z := 2) H6 rfl (by decide) fun b11 w12 H12 => ?_
    refine ⟨g.s4, (H12.front 1 rfl).cell rfl, ⟨by omega, by omega⟩, ?_⟩
    refine APP_row (x := ⟨slB g.s4.base g.s4.cap 0 2, pos kW W addr, g.s4.cap⟩) (news := recs wd2 (W.take (pos kW W addr))) H12 rfl ((H12.front 6 rfl).recTake (by decide) wd2_len p1) (by rw [recs_len wd2_len, List.length_take]; dsimp only; rw [Nat.min_eq_left p1]) (recs_one wd2_one _) (by dsimp only; omega) (by dsimp only; omega) fun s15 w16 H16 hl15 => ?_
    rw [List.nil_append] at H16
    refine AL_cells H16 fun b17 w18 H18 _ => ?_
    refine APP_one (news := wd2 (addr, x)) H18 rfl rfl (wd2_one _) (by dsimp only at hl15 ⊢; omega) (by dsimp only at hl15 ⊢; omega) fun s19 w20 H20 hl19 => ?_
    have e1 : recs wd2 (W.take (pos kW W addr)) ++ wd2 (addr, x) = recs wd2 (W.take (pos kW W addr) ++ [(addr, x)]) := by rw [recs_app]; simp [recs]
    rw [e1] at H20
    refine ⟨g.s4, (H20.front 1 rfl).cell rfl, ⟨by omega, by omega⟩, ?_⟩
    refine APP_row (x := ⟨slB g.s4.base g.s4.cap (pos kW W addr) 2, g.s4.len - pos kW W addr, g.s4.cap - pos kW W addr⟩) (news := recs wd2 (W.drop (pos kW W addr))) H20 rfl ((H20.front 6 rfl).recDrop (by decide) wd2_len p1) (by rw [recs_len wd2_len, List.length_drop]; dsimp only; rw [hl4.1]) (recs_one wd2_one _) (by dsimp only at hl15 hl19 ⊢; omega) (by dsimp only at hl15 hl19 ⊢; omega) fun s23 w24 H24 _ => ?_
    rw [← recs_app] at H24
    refine mput4 H24 fun w' H' => hw0 s23 _ w' (inv _ (putW_srt hI.srw hno) (putW_mem hI.srw hno)) ?_
    rw [hmr]; exact H'
  · obtain ⟨e, he, hea⟩ := hb.1 rfl
    have hlt := (List.getElem?_eq_some_iff.1 he).1
    obtain ⟨b, hb, _⟩ := mword H6 he
    refine CND_t rfl ⟨g.s4, H6.cell rfl, ?_⟩
    rw [hb]
    refine ⟨⟨by omega, by omega⟩, ?_⟩
    rw [Int.toNat_natCast, add_add]
    have H7 := H6.front 5 rfl
    refine st_row H7 (j := pos kW W addr * 2 + 1) (v := .int .u64 x) rfl (by rw [recs_len wd2_len]; omega) hb fun w' H' => hw0 g.s4 _ w' (inv _ (setW_srt hI.srw he hea) (setW_mem hI.srw he hea)) ?_
    rw [recs_set wd2_len he (by decide) (y := (addr, x)) (by rw [← hea]; rfl)] at H'
    rw [hmr]
    exact Sat.back 5 H' (by simp [mres])
end
end Go.Sh

set_option linter.all false
set_option maxRecDepth 4000
set_option maxHeartbeats 2000000
namespace Go.Sh

section
variable {E : Env} {c : Nat} {V : VS} {Z : List Pr} {w : World} {g : MG} {P : PgL} {W : WdL}

theorem mreserve_spec (H : Sat (RefMP E c V :: Z) w) {hint pages : Int} (h0 : 0 ≤ hint) (h1 : hint < 18446744073709551616) (p0 : 0 ≤ pages) (p1 : pages < 18446744073709551616) {K : Int → Int → World → Prop}
    (hk0 : (pages = 0 ∨ pages % 512 ≠ 0 ∨ 134217728 < pages) → K 0 1 w)
    (hk1 : ¬ (pages = 0 ∨ pages % 512 ≠ 0 ∨ 134217728 < pages) → ∀ r, V.rf = true :: r → ∀ w', Sat (RefMP E c { V with rf := r } :: Z) w' → K 0 13 w')
    (hk2 : ¬ (pages = 0 ∨ pages % 512 ≠ 0 ∨ 134217728 < pages) → (∀ r, V.rf ≠ true :: r) → Unplaced V hint pages → ∀ w', Sat (RefMP E c { V with rf := V.rf.tail, pl := V.pl.tail } :: Z) w' → K 0 13 w')
    (hk3 : ¬ (pages = 0 ∨ pages % 512 ≠ 0 ∨ 134217728 < pages) → (∀ r, V.rf ≠ true :: r) → ∀ at_, 512 ≤ at_ → at_ + pages ≤ 34359738368 → Chosen V hint pages at_ → ∀ w', (VOk { V with rf := V.rf.tail, pl := V.pl.tail, laid := addL V.laid at_ (at_ + pages) } → Sat (RefMP E c { V with rf := V.rf.tail, pl := V.pl.tail, laid := addL V.laid at_ (at_ + pages) } :: Z) w') → K at_ 0 w') :
    F.mallowref3_Mem_Reserve E (some ⟨c, 0, none⟩) hint pages K w := by
  unfold F.mallowref3_Mem_Reserve
  rw [Int.tmod_eq_emod_of_nonneg p0]
  refine JOIN_in (CND_eq (fun e j => CND_t rfl (hk0 (.inl e))) fun n1 => ⟨by decide, CND_ne (fun e j => CND_t rfl (hk0 (.inr (.inl e)))) fun n2 j => CND_dec (fun e => hk0 (.inr (.inr e))) fun n3 => ?_⟩)
  have hbad : ¬ (pages = 0 ∨ pages % 512 ≠ 0 ∨ 134217728 < pages) := by omega
  have hpos : 0 < pages := by omega
  obtain ⟨g, P, W, hI, H⟩ := Sat.refm.1 H
  have hrest : (∀ r, V.rf ≠ true :: r) → ∀ (s1 : SlV) (w5 : World), Sat (mres E c { V with rf := V.rf.tail } { g with s1 := s1 } P W ++ Z) w5 →
        JOIN (Int × Bool × Unit) (fun J6 =>
          NC (some (Addr.mk c 0 none)) fun p9 =>
          ∃ x10 : SlV, w5.cell? p9 = some (.slice x10.base x10.len x10.cap) ∧
          CND (decide ((((x10.len : Nat) : Int) : Int) > 0)) (
            NC (some (Addr.mk c 0 none)) fun p11 =>
            ∃ x12 : SlV, w5.cell? p11 = some (.slice x12.base x12.len x12.cap) ∧
            NC x12.base fun p13 =>
            ((0 : Int) ≤ 0 ∧ (0 : Int) < (x12.len : Nat)) ∧
            ∃ x14 : Int, w5.cell? (p13.add (Int.toNat 0 * 1)) = some (.int .u64 x14) ∧
            NC (some (Addr.mk c 0 none)) fun p15 =>
            ∃ x16 : SlV, w5.cell? p15 = some (.slice x16.base x16.len x16.cap) ∧
            ((0 : Int) ≤ 1 ∧ (1 : Int) ≤ (x16.len : Nat)) ∧
            NC (some (Addr.mk c 0 none)) fun p17 =>
            stCells p17 0 [.slice (slB x16.base x16.cap (Int.toNat 1) 1) (x16.len - (Int.toNat 1)) (x16.cap - (Int.toNat 1))] w5 fun w18 =>
            JOIN (Bool × Unit) (fun J19 =>
              CND (decide ((x14 : Int) > 0)) (
                512 ≠ (0 : Int) ∧
                CND (((Int.tmod x14 512) : Int) == 0) (
                  F.mallowref3_right E x14 pages (fun r22 w23 =>
                  J19 (r22, ()) w23
                  ) w18
                ) (
                  J19 (false, ()) w18
                )
              ) (
                J19 (false, ()) w18
              )
            ) fun s20 _ w21 =>
              CND (s20.1) (
                F.mallowref3_Mem_clear E (some (Addr.mk c 0 none)) x14 pages (fun r24 r25 w26 =>
                J6 (x14, r25, ()) w26
                ) w21
              ) (
                J6 (x14, s20.1, ()) w21
              )
          ) (
            J6 (0, false, ()) w5
          )
        ) fun s7 _ w8 =>
          JOIN (Int × Bool × Unit) (fun J27 =>
            CND (!s7.2.1) (
              F.mallowref3_Mem_first E (some (Addr.mk c 0 none)) hint pages (fun r30 r31 w32 =>
              J27 (r30, r31, ()) w32
              ) w8
            ) (
              J27 (s7.1, s7.2.1, ()) w8
            )
          ) fun s28 _ w29 =>
            JOIN (Int × Bool × Unit) (fun J33 =>
              CND (!s28.2.1) (
                F.mallowref3_Mem_first E (some (Addr.mk c 0 none)) 0 pages (fun r36 r37 w38 =>
                J33 (r36, r37, ()) w38
                ) w29
              ) (
                J33 (s28.1, s28.2.1, ()) w29
              )
            ) fun s34 _ w35 =>
              CND (!s34.2.1) (
                K 0 13 w35
              ) (
                F.mallowref3_Mem_find E (some (Addr.mk c 0 none)) s34.1 (fun r39 r40 w41 =>
                AL (.cells ⟨[]⟩ E.t_mallowref3_Page) w41 fun b42 w43 =>
                NC (some (Addr.mk c 0 none)) fun p44 =>
                ∃ x45 : SlV, w43.cell? (p44.add 3) = some (.slice x45.base x45.len x45.cap) ∧
                ((0 : Int) ≤ r39 ∧ (r39 : Int) ≤ (x45.cap : Nat)) ∧
                APP E.t_mallowref3_Page 3 24 #[.int .u64 0, .int .i64 0, .int .u64 0] ⟨(some (Addr.mk b42 0 none)), 0, 0⟩ ⟨(slB x45.base x45.cap 0 3), (Int.toNat r39), x45.cap⟩ w43 fun s46 w47 =>
                LOOP (SlV × Int × Unit) (s46, 0, ()) w47 fun s48 _ w49 next50 =>
                  CND (decide ((s48.2.1 : Int) < pages)) (
                    AL (.cells ⟨[.int .u64 (u64 (s34.1 + s48.2.1)), .int .i64 1, .int .u64 0]⟩ E.t_mallowref3_Page) w49 fun b51 w52 =>
                    APP E.t_mallowref3_Page 3 24 #[.int .u64 0, .int .i64 0, .int .u64 0] s48.1 ⟨(some (Addr.mk b51 0 none)), 1, 1⟩ w52 fun s53 w54 =>
                    next50 (s53, u64 (s48.2.1 + 1), ()) w54
                  ) (
                    NC (some (Addr.mk c 0 none)) fun p55 =>
                    ∃ x56 : SlV, w49.cell? (p55.add 3) = some (.slice x56.base x56.len x56.cap) ∧
                    ((0 : Int) ≤ r39 ∧ (r39 : Int) ≤ (x56.len : Nat)) ∧
                    APP E.t_mallowref3_Page 3 24 #[.int .u64 0, .int .i64 0, .int .u64 0] s48.1 ⟨(slB x56.base x56.cap (Int.toNat r39) 3), (x56.len - (Int.toNat r39)), (x56.cap - (Int.toNat r39))⟩ w49 fun s57 w58 =>
                    NC (some (Addr.mk c 0 none)) fun p59 =>
                    stCells (p59.add 3) 0 [.slice s57.base s57.len s57.cap] w58 fun w60 =>
                    K s34.1 0 w60
                  )
                ) w35
              ) := by
    intro hrf s1 w5 H5
    simp only [NC_some]
    have hI1 : MInv { V with rf := V.rf.tail, pl := V.pl.tail } P W := hI.congr rfl rfl rfl (fun x hx => List.mem_of_mem_tail hx) fun _ _ _ _ => rfl
    refine JOIN_intro (fun st w' => ∃ s0, Sat (mres E c { V with rf := V.rf.tail, pl := V.pl.tail } { g with s0 := s0, s1 := s1 } P W ++ Z) w' ∧ (st.2.1 = true → Chosen V hint pages st.1) ∧ (st.2.1 = false → NoHead V pages)) ?_ ?_
    · have hl := (H5.front 1 rfl).rowVlen
      have hc : w5.cell? (Addr.mk c 0 none) = some (.slice g.s0.base g.s0.len g.s0.cap) := H5.cell0 rfl
      refine ⟨g.s0, hc, CND_dec (fun hlt => ?_) fun hge => ?_⟩
      · have hcs : V.pl = [] ∨ ∃ x r, V.pl = x :: r := by
          cases V.pl with
          | nil => exact .inl rfl
          | cons x r => exact .inr ⟨x, r, rfl⟩
        rcases hcs with hp | ⟨x, r, hp⟩
        · have := hl.1; dsimp only at this; rw [hp] at this; simp [ints] at this; omega
        ·
          have hxw := hI.plw x (by rw [hp]; simp)
          obtain ⟨a, ha, hd⟩ := (H5.front 1 rfl).rowVcell (j := 0) (v := .int .u64 x) (by dsimp only; rw [hp]; rfl)
          refine ⟨g.s0, hc, ?_⟩
          rw [ha]
          refine ⟨⟨by decide, by omega⟩, x, hd, g.s0, hc, ⟨by decide, by omega⟩, ?_⟩
          have H6 := Sat.back 1 ((H5.front 1 rfl).rowVdrop (n := 1) (show 1 ≤ g.s0.len by omega)) (by simp [mres])
          dsimp only at H6
          rw [hp] at H6
          refine st_cell0 H6 (o := 0) rfl (by simp [mcells]) fun w18 H18 => ?_
          have H19 : Sat (mres E c { V with rf := V.rf.tail, pl := V.pl.tail } { g with s0 := ⟨slB g.s0.base g.s0.cap (Int.toNat 1) 1, g.s0.len - Int.toNat 1, g.s0.cap - Int.toNat 1⟩, s1 := s1 } P W ++ Z) w18 := by
            unfold mres
            dsimp only
            rw [hp]
            exact H18
          have no : ∀ {b : Bool}, b = false → ¬ fitsV V.laid x pages → (∃ s0, Sat (mres E c { V with rf := V.rf.tail, pl := V.pl.tail } { g with s0 := s0, s1 := s1 } P W ++ Z) w18 ∧ (b = true → Chosen V hint pages x) ∧ (b = false → NoHead V pages)) := fun hb hn =>
            ⟨_, H19, fun h => (by rw [hb] at h; cases h), fun _ p r' hpr => by rw [hp] at hpr; cases hpr; exact hn⟩
          rw [Int.tmod_eq_emod_of_nonneg hxw.1]
          refine JOIN_in (CND_dec (fun g0 => ⟨by decide, CND_eq (fun g1 => mright_spec (by omega) p0 fun br hbr j => ?_) fun g1 j => CND_f rfl (no rfl fun h => g1 h.1)⟩) fun g0 j => CND_f rfl (no rfl fun h => by have := h.2.1; omega))
          cases br
          · exact CND_f rfl (no rfl fun h => by have := hbr.2 ⟨by omega, h.2.2.1⟩; cases this)
          · have hr := hbr.1 rfl
            unfold rightV at hr
            refine CND_t rfl (mclear_spec hI1 H19 (by omega) p0 (by omega) (fun hno w' H' => ⟨_, H', fun _ => .inl ⟨x, r, hp, ⟨g1, by omega, hr.2, (cnt_none hI.ok.ok1 (by omega)).2 hno⟩, rfl⟩, fun h => by cases h⟩) fun m m0 m1 m2 _ w' H' => ⟨_, H', fun h => (by cases h), fun _ p r' hpr => ?_⟩)
            rw [hp] at hpr; cases hpr
            exact fun h => (cnt_none hI.ok.ok1 (by omega)).1 h.2.2.2 m m1 m2 m0
      · have hnil : V.pl = [] := by
          have := hl.1; dsimp only at this
          have : (ints IntKind.u64 V.pl).length = 0 := by omega
          rw [ints, List.length_map] at this
          exact List.eq_nil_of_length_eq_zero this
        refine ⟨g.s0, ?_, fun h => (by cases h), fun _ p r h => by rw [hnil] at h; cases h⟩
        unfold mres
        dsimp only
        rw [hnil]
        unfold mres at H5
        dsimp only at H5
        rw [hnil] at H5
        exact H5
    rintro ⟨pl, ok, v⟩ _ w8 ⟨s0, H8, hy, hn⟩
    dsimp only at hy hn ⊢
    refine JOIN_intro (fun st w' => Sat (mres E c { V with rf := V.rf.tail, pl := V.pl.tail } { g with s0 := s0, s1 := s1 } P W ++ Z) w' ∧ (st.2.1 = true → Chosen V hint pages st.1) ∧ (st.2.1 = false → NoHead V pages ∧ NoHint V.laid hint pages)) ?_ ?_
    · cases ok
      · exact CND_t rfl (mfirst_spec hI1 H8 h0 h1 hpos (by omega) (fun hh w' H' => ⟨H', fun h => (by cases h), fun _ => ⟨hn rfl, hh⟩⟩) fun a ha w' H' => ⟨H', fun _ => .inr ⟨hn rfl, .inl ha⟩, fun h => by cases h⟩)
      · exact CND_f rfl ⟨H8, hy, fun h => by cases h⟩
    clear hy hn
    rintro ⟨pl, ok, v⟩ _ w29 ⟨H29, hy, hn⟩
    dsimp only at hy hn ⊢
    refine JOIN_intro (fun st w' => Sat (mres E c { V with rf := V.rf.tail, pl := V.pl.tail } { g with s0 := s0, s1 := s1 } P W ++ Z) w' ∧ (st.2.1 = true → Chosen V hint pages st.1) ∧ (st.2.1 = false → Unplaced V hint pages)) ?_ ?_
    · cases ok
      · exact CND_t rfl (mfirst_spec hI1 H29 (by decide) (by decide) hpos (by omega) (fun hh w' H' => ⟨H', fun h => (by cases h), fun _ => ⟨(hn rfl).1, (hn rfl).2, hh⟩⟩) fun a ha w' H' => ⟨H', fun _ => .inr ⟨(hn rfl).1, .inr ⟨(hn rfl).2, ha⟩⟩, fun h => by cases h⟩)
      · exact CND_f rfl ⟨H29, hy, fun h => by cases h⟩
    clear hy hn
    rintro ⟨pl, ok, v⟩ _ w35 ⟨H35, hy, hn⟩
    dsimp only at hy hn ⊢
    cases ok
    · exact CND_t rfl (hk2 hbad hrf (hn rfl) _ (Sat.refm.2 ⟨_, _, _, hI1, H35⟩))
    have hch := hy rfl
    have hft := hch.fits hI.ok.ok1 hpos
    have hp0 : 0 ≤ pl := by
      rcases hch with ⟨p, r, hp, _, he⟩ | ⟨_, ⟨_, h3, _⟩ | ⟨_, _, h3, _⟩⟩
      · rw [he]; exact (hI.plw p (by rw [hp]; simp)).1
      · have := h3.low; omega
      · have := h3.low; omega
    have hf1 := hft.1
    have hf2 := hft.2.1
    have hf3 := hft.2.2.1
    have hno := (cnt_none hI.ok.ok1 (show pl ≤ pl + pages by omega)).1 hft.2.2.2
    clear hy hn hft
    refine CND_f rfl (mfind_spec hI1 H35 fun b3 hb3 w41 H41 => ?_)
    have hpl := pos_le (key := kP) P pl
    have hfP := hI.fewP
    refine AL_rows (n := 0) (z := 3) H41 rfl (by decide) fun b42 w43 H43 => ?_
    have hl := mlenP H43.tail
    refine ⟨g.s3, (H43.front 1 rfl).cell rfl, ⟨by omega, by dsimp only at hl; omega⟩, ?_⟩
    refine APP_row (x := ⟨slB g.s3.base g.s3.cap 0 3, pos kP P pl, g.s3.cap⟩) (news := recs pg3 (P.take (pos kP P pl))) H43 rfl ((H43.front 5 rfl).recTake (by decide) pg3_len hpl) (by rw [recs_len pg3_len, List.length_take]; dsimp only; rw [Nat.min_eq_left hpl]) (recs_one pg3_one _) (by dsimp only at hl ⊢; omega) (by dsimp only at hl ⊢; omega) fun s46 w47 H47 hl46 => ?_
    rw [List.nil_append] at H47
    refine LOOP_intro (fun st w' => ∃ i : Nat, st.2.1 = (i : Int) ∧ (i : Int) ≤ pages ∧ st.1.len = pos kP P pl + i ∧
        Sat (Row E.t_mallowref3_Page 3 st.1 (recs pg3 (P.take (pos kP P pl) ++ ((List.range i).map fun i : Nat => (pl + (i : Int), (1 : Int), (0 : Int))))) :: (mres E c { V with rf := V.rf.tail, pl := V.pl.tail } { g with s0 := s0, s1 := s1 } P W ++ Z)) w') (fun st _ => (pages - st.2.1).toNat)
      ⟨0, rfl, by show (0 : Int) ≤ pages; omega, by dsimp only at hl46 ⊢; omega, by simpa using H47⟩ ?_
    rintro ⟨s48, i', v⟩ _ w49 ⟨i, hi, hile, hl48, H49⟩
    dsimp only at hi hl48 H49 ⊢
    subst hi
    refine CND_dec (fun hlt => ?_) fun hge => ?_
    · rw [u64_id (n := pl + (i : Int)) (by omega) (by omega), u64_id (n := (i : Int) + 1) (by omega) (by omega)]
      refine AL_cells H49 fun b51 w52 H52 _ => ?_
      refine APP_one (news := pg3 (pl + (i : Int), 1, 0)) H52 rfl rfl (pg3_one _) (by omega) (by omega) fun s53 w54 H54 hl53 => ⟨⟨i + 1, by omega, by omega, by omega, ?_⟩, by omega⟩
      have e1 : recs pg3 (P.take (pos kP P pl) ++ ((List.range i).map fun i : Nat => (pl + (i : Int), (1 : Int), (0 : Int)))) ++ pg3 (pl + (i : Int), 1, 0) = recs pg3 (P.take (pos kP P pl) ++ ((List.range (i + 1)).map fun i : Nat => (pl + (i : Int), (1 : Int), (0 : Int)))) := by
        rw [List.range_succ, List.map_append, ← List.append_assoc, recs_app (_ ++ _)]; simp [recs]
      rw [e1] at H54
      exact H54
    · have hip : (i : Int) = pages := by omega
      refine ⟨g.s3, (H49.front 1 rfl).cell rfl, ⟨by omega, by dsimp only at hl; omega⟩, ?_⟩
      refine APP_row (x := ⟨slB g.s3.base g.s3.cap (pos kP P pl) 3, g.s3.len - pos kP P pl, g.s3.cap - pos kP P pl⟩) (news := recs pg3 (P.drop (pos kP P pl))) H49 rfl ((H49.front 5 rfl).recDrop (by decide) pg3_len hpl) (by rw [recs_len pg3_len, List.length_drop]; dsimp only; rw [hl.1]) (recs_one pg3_one _) (by dsimp only at hl ⊢; omega) (by dsimp only at hl ⊢; omega) fun s57 w58 H58 _ => ?_
      rw [← recs_app] at H58
      refine mput3 H58 fun w' H' => hk3 hbad hrf pl (by omega) hf3 hch w' fun hok => ?_
      refine Sat.refm.2 ⟨_, _, _, hI.reserve (n := i) hok rfl rfl rfl (fun x hx => List.mem_of_mem_tail hx) (fun p => ?_) (fun p q1 q2 => hno p q1 (by rw [← hip]; exact q2)), H'⟩
      rw [hip]
      exact mem_addL hI.ok.ok1 (Int.lt_add_of_pos_right _ hpos) hp0 (Int.lt_of_le_of_lt hf3 (by decide)) p
  refine mrefuses_spec H (fun e => CND_f rfl (hrest (fun r h => by rw [e] at h; cases h) g.s1 w ?_)) fun x r e s w' H' => ?_
  · have : V.rf.tail = V.rf := by rw [e]; rfl
    rw [this]; exact H
  · cases x
    · refine CND_f rfl (hrest (fun r h => by rw [e] at h; cases h) s w' ?_)
      rw [e]; exact H'
    · exact CND_t rfl (hk1 hbad r e w' (Sat.refm.2 ⟨_, P, W, hI.congr rfl rfl rfl (fun x hx => hx) fun _ _ _ _ => rfl, H'⟩))
end
end Go.Sh

set_option linter.all false
set_option maxRecDepth 4000
set_option maxHeartbeats 2000000
namespace Go.Sh

section
variable {E : Env} {c : Nat} {V : VS} {Z : List Pr} {w : World} {g : MG} {P : PgL} {W : WdL}

theorem mzero_spec (hfew : tot V.laid ≤ 1000000) (H : Sat (RefMP E c V :: Z) w) {addr bytes : Int} (h0 : 0 ≤ addr) (h1 : addr < 18446744073709551616) (p0 : 0 ≤ bytes) (p1 : bytes < 18446744073709551616) {K : Int → World → Prop}
    (hK : ∀ w', Sat (RefMP E c (zeroV V addr bytes) :: Z) w' → K (zeroE V addr bytes) w') : F.mallowref3_Mem_Zero E (some ⟨c, 0, none⟩) addr bytes K w := by
  unfold F.mallowref3_Mem_Zero
  rw [Int.tmod_eq_emod_of_nonneg h0, Int.tmod_eq_emod_of_nonneg p0]
  unfold zeroE at hK
  have hz : ∀ n, (if addr % 8 ≠ 0 ∨ bytes % 8 ≠ 0 then (11 : Int) else if bytes = 0 then 0 else if 281474976710656 ≤ addr ∨ 281474976710656 - addr < bytes then 12 else if cnt V.ready (addr / 8192) ((addr + bytes - 1) / 8192 + 1) = (addr + bytes - 1) / 8192 - addr / 8192 + 1 then 0 else 12) = n → n ≠ 0 → ∀ w', Sat (RefMP E c V :: Z) w' → K n w' := fun n hn hne w' H' => by
    have : zeroV V addr bytes = V := by unfold zeroV zeroE; rw [hn, if_neg hne]
    have h := hK w'
    rw [this, hn] at h
    exact h H'
  have h11 : (addr % 8 ≠ 0 ∨ bytes % 8 ≠ 0) → K 11 w := fun h => hz 11 (if_pos h) (by decide) w H
  refine JOIN_in ⟨by decide, CND_ne (fun ha j => CND_t rfl (h11 (.inl ha))) fun ha => ⟨by decide, fun j => CND_ne (fun hb => h11 (.inr hb)) fun hb => ?_⟩⟩
  have hn1 : ¬ (addr % 8 ≠ 0 ∨ bytes % 8 ≠ 0) := by omega
  rw [if_neg hn1] at hK hz
  refine CND_eq (fun b0 => ?_) fun b0 => ?_
  · have : zeroV V addr bytes = { V with wd := fun p i => if addr ≤ p * 8192 + i * 8 ∧ p * 8192 + i * 8 < addr + bytes then 0 else V.wd p i } := by
      unfold zeroV zeroE; rw [if_neg hn1, if_pos b0, if_pos rfl]
    have e : zeroV V addr bytes = V := by
      rw [this]
      have : (fun p i => if addr ≤ p * 8192 + i * 8 ∧ p * 8192 + i * 8 < addr + bytes then 0 else V.wd p i) = V.wd := by
        funext p i; rw [if_neg (by omega)]
      rw [this]
    have h := hK w
    rw [if_pos b0, e] at h
    exact h H
  rw [if_neg b0] at hK hz
  have h12 : (281474976710656 ≤ addr ∨ 281474976710656 - addr < bytes) → K 12 w := fun h => hz 12 (if_pos h) (by decide) w H
  refine JOIN_in (CND_dec (fun g1 j => CND_t rfl (h12 (.inl g1))) fun g1 => ?_)
  rw [u64_id (n := 281474976710656 - addr) (by omega) (by omega)]
  refine fun j => CND_dec (fun g2 => h12 (.inr g2)) fun g2 => ?_
  rw [if_neg (by omega)] at hK hz
  refine ⟨by decide, by decide, LET_intro fun to hto => ?_⟩
  rw [u64_id (n := addr + bytes) (by omega) (by omega), u64_id (n := addr + bytes - 1) (by omega) (by omega), Int.tdiv_eq_ediv_of_nonneg (by omega), u64_id (by omega) (by omega)] at hto
  rw [Int.tdiv_eq_ediv_of_nonneg h0, u64_id (n := addr / 8192) (by omega) (by omega)]
  generalize hfr : addr / 8192 = fr at *
  have hft : fr ≤ to := by omega
  rw [← hto] at hK hz
  obtain ⟨g, P, W, hI, H⟩ := Sat.refm.1 H
  have back : ∀ w', Sat (mres E c V g P W ++ Z) w' → Sat (RefMP E c V :: Z) w' := fun w' H' => Sat.refm.2 ⟨g, P, W, hI, H'⟩
  refine mfind_spec hI H fun b3 hb3 w5 H5 => ?_
  have hl := mlenP H5
  have hfP := hI.fewP
  have hp := pos_le (key := kP) P fr
  simp only [NC_some]
  refine ⟨g.s3, H5.cell rfl, ?_⟩
  rw [i64_id (n := ((g.s3.len : Nat) : Int) - (pos kP P fr : Nat)) (by omega) (by omega), u64_id (n := ((g.s3.len : Nat) : Int) - (pos kP P fr : Nat)) (by omega) (by omega), u64_id (n := to - fr) (by omega) (by omega)]
  have hready : cnt V.ready fr (to + 1) = to - fr + 1 ↔ ∀ m, fr ≤ m → m < to + 1 → mem V.ready m := by
    have := cnt_full hI.ok.ok2 (a := fr) (b := to + 1) (by omega)
    rw [show to + 1 - fr = to - fr + 1 by omega] at this; exact this
  have hrow : cnt V.ready fr (to + 1) = to - fr + 1 → ∀ k : Nat, (k : Int) ≤ to - fr → ∃ e, P[pos kP P fr + k]? = some e ∧ e.1 = fr + k := fun hc k hk => by
    have := hI.full (a := fr) (n := (to - fr + 1).toNat) (fun m m1 m2 => hI.ok.rl m (hready.1 hc m m1 (by omega))) (k := k) (by omega)
    exact this
  have bad : cnt V.ready fr (to + 1) ≠ to - fr + 1 → ∀ w', Sat (mres E c V g P W ++ Z) w' → K 12 w' := fun h w' H' => hz 12 (if_neg h) (by decide) w' (back _ H')
  refine CND_dec (fun hgt => bad (fun hc => ?_) _ H5) fun hle => ?_
  · obtain ⟨e, he, _⟩ := hrow hc (to - fr).toNat (by omega)
    have := (List.getElem?_eq_some_iff.1 he).1
    omega
  refine LOOP_intro (fun st w' => Sat (mres E c V g P W ++ Z) w' ∧ ∃ i : Nat, st.1 = i ∧ (i : Int) ≤ to - fr + 1 ∧ (∀ m, fr ≤ m → m < fr + i → mem V.ready m)) (fun st _ => (to - fr + 1 - st.1).toNat)
    ⟨H5, 0, rfl, by show (0 : Int) ≤ to - fr + 1; omega, fun m m1 m2 => by omega⟩ ?_
  rintro ⟨i', v⟩ _ w9 ⟨H9, i, hi, hile, hall⟩
  dsimp only at hi ⊢
  subst hi
  refine CND_dec (fun hlt => ?_) fun hge => ?_
  · obtain ⟨e, he⟩ : ∃ e, P[pos kP P fr + i]? = some e := ⟨_, List.getElem?_eq_getElem (by omega)⟩
    obtain ⟨b, hb, _, c0, c1, c2⟩ := mpage H9 he
    have hem := List.mem_of_getElem? he
    have her := hI.rng hem
    rw [i64_id (n := (i : Int)) (by omega) (by omega), i64_id (n := (pos kP P fr : Nat) + (i : Int)) (by omega) (by omega), u64_id (n := fr + (i : Int)) (by omega) (by omega), u64_id (n := (i : Int) + 1) (by omega) (by omega)]
    refine ⟨g.s3, H9.cell rfl, ?_⟩
    rw [hb]
    have et : Int.toNat ((pos kP P fr : Nat) + (i : Int)) = pos kP P fr + i := by omega
    rw [et]
    have bad2 : (e.1 ≠ fr + i ∨ e.2.1 ≠ 2) → cnt V.ready fr (to + 1) ≠ to - fr + 1 := fun h hc => by
      obtain ⟨d, hd, hde⟩ := hrow hc i hlt
      rw [he] at hd; cases hd
      rcases h with h | h
      · exact h hde
      · exact h ((hI.is2 hem).2 (hready.1 hc _ (by omega) (by omega)))
    refine ⟨⟨by omega, by omega⟩, e.1, c0, e.2.1, c1, e.2.2, c2, copy3 H9 fun b17 w19 H19 => JOIN_in ⟨e.1, H19.cell0 rfl, CND_ne (fun hne j => CND_t rfl (bad (bad2 (.inl hne)) _ H19.tail)) fun heq => ⟨e.2.1, H19.cell rfl, fun j => CND_ne (fun hne => bad (bad2 (.inr hne)) _ H19.tail) fun h2 => ?_⟩⟩⟩
    refine ⟨⟨H19.tail, i + 1, by omega, by omega, fun m m1 m2 => ?_⟩, by omega⟩
    rcases Int.lt_or_le m (fr + i) with q | q
    · exact hall m m1 q
    · rw [show m = e.1 by omega]; exact (hI.is2 hem).1 h2
  · have hip : (i : Int) = to - fr + 1 := by omega
    have hc : cnt V.ready fr (to + 1) = to - fr + 1 := hready.2 fun m m1 m2 => hall m m1 (by omega)
    have hrd := hready.1 hc
    have hzV : zeroV V addr bytes = { V with wd := fun p i => if addr ≤ p * 8192 + i * 8 ∧ p * 8192 + i * 8 < addr + bytes then 0 else V.wd p i } := by
      unfold zeroV zeroE; rw [if_neg hn1, if_neg b0, if_neg (show ¬ (281474976710656 ≤ addr ∨ 281474976710656 - addr < bytes) by omega), ← hto, hfr, if_pos hc, if_pos rfl]
    rw [if_pos hc, hzV] at hK
    clear hip hge hile hall hz bad h11 h12
    have hfw := hI.fewW2 hfew
    refine mforget_spec hI.srw (by omega) H9 h0 p0 (by omega) fun s w30 H30 => ?_
    have hab : addr ≤ addr + bytes := by omega
    -- words, as far as they are cleared
    let cl (x : Int) : VS := { V with wd := fun p i => if addr ≤ p * 8192 + i * 8 ∧ p * 8192 + i * 8 < addr + bytes ∧ inL V.ready p = true then (if p * 8192 + i * 8 < x then 0 else fillP P p) else V.wd p i }
    have hclok : ∀ x, VOk (cl x) := fun x => hI.ok.congr rfl rfl rfl fun p i i0 i1 hn => by
      show (if _ then _ else _) = _
      rw [if_neg fun q => hn (inL_iff.1 q.2.2)]
      exact hI.ok.clean p i i0 i1 hn
    have hI0 : MInv (cl 0) P (W.take (pos kW W addr) ++ W.drop (pos kW W (addr + bytes))) := by
      refine hI.forgot (a := addr) (b := addr + bytes) (hclok 0) rfl rfl rfl rfl ha (by omega) (fun p i i0 i1 hp => ?_) (cutW_srt hI.srw hab) (cutW_mem hI.srw hab)
      show (if _ then _ else _) = _
      by_cases q : addr ≤ p * 8192 + i * 8 ∧ p * 8192 + i * 8 < addr + bytes
      · rw [if_pos ⟨q.1, q.2, inL_iff.2 hp⟩, if_pos q, if_neg (by omega)]
      · rw [if_neg fun h => q ⟨h.1, h.2.1⟩, if_neg q]
    have same : ∀ x y, (∀ p i, 0 ≤ i → i < 1024 → addr ≤ p * 8192 + i * 8 → p * 8192 + i * 8 < addr + bytes → mem V.ready p → (p * 8192 + i * 8 < x ↔ p * 8192 + i * 8 < y) ∨ fillP P p = 0) → ∀ W', MInv (cl x) P W' → MInv (cl y) P W' := fun x y hs W' hm => by
      refine hm.congr rfl rfl rfl (fun x hx => hx) fun p i i0 i1 => ?_
      show (if _ then _ else _) = if _ then _ else _
      by_cases q : addr ≤ p * 8192 + i * 8 ∧ p * 8192 + i * 8 < addr + bytes ∧ inL V.ready p = true
      · rw [if_pos q, if_pos q]
        rcases hs p i i0 i1 q.1 q.2.1 (inL_iff.1 q.2.2) with h | h
        · by_cases q2 : p * 8192 + i * 8 < x
          · rw [if_pos q2, if_pos (h.1 q2)]
          · rw [if_neg q2, if_neg fun k => q2 (h.2 k)]
        · rw [h]; split <;> split <;> rfl
      · rw [if_neg q, if_neg q]
    have hI0' := same 0 (fr * 8192) (fun p i i0 i1 a1 a2 _ => .inl (by omega)) _ hI0
    refine LOOP_intro (fun st w' => ∃ (i : Nat) (s : SlV) (W' : WdL), st.1 = i ∧ (i : Int) ≤ to - fr + 1 ∧ MInv (cl ((fr + i) * 8192)) P W' ∧ Sat (mres E c V { g with s4 := s } P W' ++ Z) w') (fun st _ => (to - fr + 1 - st.1).toNat)
      ⟨0, s, _, rfl, by show (0 : Int) ≤ to - fr + 1; omega, by rw [show fr + ((0 : Nat) : Int) = fr by omega]; exact hI0', H30⟩ ?_
    rintro ⟨i', v⟩ _ w32 ⟨i, s, W', hi, hile, hm, H32⟩
    dsimp only at hi ⊢
    subst hi
    refine CND_dec (fun hlt => ?_) fun hge => ?_
    · obtain ⟨e, he, hke⟩ := hrow hc i hlt
      obtain ⟨b, hb, _, c0, c1, c2⟩ := mpage H32 he
      have hem := List.mem_of_getElem? he
      have her := hI.rng hem
      have hlen := (List.getElem?_eq_some_iff.1 he).1
      have hl2 := mlenP H32
      have hfill := fillP_of hI.srt hem
      have hre : mem V.ready e.1 := hrd _ (by omega) (by omega)
      rw [i64_id (n := (i : Int)) (by omega) (by omega), i64_id (n := (pos kP P fr : Nat) + (i : Int)) (by omega) (by omega), u64_id (n := (i : Int) + 1) (by omega) (by omega)]
      refine ⟨_, H32.cell rfl, ?_⟩
      rw [hb]
      have et : Int.toNat ((pos kP P fr : Nat) + (i : Int)) = pos kP P fr + i := by omega
      rw [et]
      refine ⟨⟨by omega, by omega⟩, e.1, c0, e.2.1, c1, e.2.2, c2, copy3 H32 fun b40 w42 H42 => ⟨e.2.2, H42.cell rfl, CND_eq (fun f0 => ?_) fun f0 => ?_⟩⟩
      · refine ⟨⟨i + 1, s, W', by omega, by omega, ?_, H42.tail⟩, by omega⟩
        refine same _ _ (fun p j j0 j1 a1 a2 _ => ?_) _ hm
        by_cases q : p = e.1
        · exact .inr (by rw [q, hfill, f0])
        · exact .inl (by omega)
      · refine ⟨e.1, H42.cell0 rfl, ?_⟩
        rw [u64_id (n := e.1 * 8192) (by omega) (by omega)]
        refine LOOP_intro (fun st w' => ∃ (k : Nat) (s : SlV) (W' : WdL), st.1 = e.1 * 8192 + k * 8 ∧ k ≤ 1024 ∧ MInv (cl (e.1 * 8192 + k * 8)) P W' ∧ Sat (Cells b40 E.t_mallowref3_Page [.int .u64 e.1, .int .i64 e.2.1, .int .u64 e.2.2] :: (mres E c V { g with s4 := s } P W' ++ Z)) w') (fun st _ => (e.1 * 8192 + 8192 - st.1).toNat)
          ⟨0, s, W', by show e.1 * 8192 = _; omega, by decide, by rw [show e.1 * 8192 + ((0 : Nat) : Int) * 8 = (fr + i) * 8192 by omega]; exact hm, H42⟩ ?_
        rintro ⟨a', v⟩ _ w46 ⟨k, s2, W2, hk, hkle, hm2, H46⟩
        dsimp only at hk ⊢
        subst hk
        refine ⟨e.1, H46.cell0 rfl, ?_⟩
        rw [u64_id (n := e.1 * 8192) (by omega) (by omega), u64_id (n := e.1 * 8192 + 8192) (by omega) (by omega)]
        refine CND_dec (fun hlt2 => ?_) fun hge2 => ?_
        · rw [u64_id (n := e.1 * 8192 + (k : Int) * 8 + 8) (by omega) (by omega), u64_id (n := addr + bytes) (by omega) (by omega)]
          have skip : ¬ (addr ≤ e.1 * 8192 + (k : Int) * 8 ∧ e.1 * 8192 + (k : Int) * 8 < addr + bytes) → (∃ (k_1 : Nat) (s : SlV) (W' : WdL), e.1 * 8192 + (k : Int) * 8 + 8 = e.1 * 8192 + (k_1 : Int) * 8 ∧ k_1 ≤ 1024 ∧ MInv (cl (e.1 * 8192 + (k_1 : Int) * 8)) P W' ∧
              Sat (Cells b40 E.t_mallowref3_Page [.int .u64 e.1, .int .i64 e.2.1, .int .u64 e.2.2] :: (mres E c V { g with s4 := s } P W' ++ Z)) w46) ∧ (e.1 * 8192 + 8192 - (e.1 * 8192 + (k : Int) * 8 + 8)).toNat < (e.1 * 8192 + 8192 - (e.1 * 8192 + (k : Int) * 8)).toNat := fun hno =>
            ⟨⟨k + 1, s2, W2, by omega, by omega, same _ _ (fun p j j0 j1 a1 a2 _ => .inl (by omega)) _ hm2, H46⟩, by omega⟩
          refine JOIN_in (CND_dec (fun g3 j => CND_dec (fun g4 => ?_) fun g4 => skip fun h => g4 h.2) fun g3 j => CND_f rfl (skip fun h => g3 h.1))
          have hst : storeE (cl (e.1 * 8192 + (k : Int) * 8)) (e.1 * 8192 + (k : Int) * 8) = 0 := by
            unfold storeE
            rw [if_neg (by omega), if_pos (inL_iff.2 (by show mem V.ready _; rw [show (e.1 * 8192 + (k : Int) * 8) / 8192 = e.1 by omega]; exact hre))]
          have H46' := H46.perm (List.perm_middle (l₁ := mres E c V { g with s4 := s2 } P W2)).symm
          refine mstore_spec (V := cl (e.1 * 8192 + (k : Int) * 8)) (g := { g with s4 := s2 }) hm2 hfew H46' (by omega) (by omega) (fun h => absurd hst h) fun _ s3 W3 w53 hm3 H53 => ⟨⟨k + 1, s3, W3, by omega, by omega, ?_, ?_⟩, by omega⟩
          · refine hm3.congr ?_ ?_ ?_ ?_ ?_
            · unfold storeV; rw [if_pos hst]
            · unfold storeV; rw [if_pos hst]
            · unfold storeV; rw [if_pos hst]
            · intro x hx; unfold storeV; rw [if_pos hst]; exact hx
            · intro p j j0 j1
              unfold storeV
              rw [if_pos hst]
              show (if _ then _ else _) = if _ then _ else if _ then _ else _
              by_cases q : p = (e.1 * 8192 + (k : Int) * 8) / 8192 ∧ j = (e.1 * 8192 + (k : Int) * 8) % 8192 / 8
              · have q1 : p = e.1 := by omega
                rw [if_pos q, if_pos ⟨by omega, by omega, inL_iff.2 (by rw [q1]; exact hre)⟩, if_pos (by omega)]
              · rw [if_neg q]
                by_cases q2 : addr ≤ p * 8192 + j * 8 ∧ p * 8192 + j * 8 < addr + bytes ∧ inL V.ready p = true
                · rw [if_pos q2, if_pos q2]
                  by_cases q3 : p * 8192 + j * 8 < e.1 * 8192 + (k : Int) * 8
                  · rw [if_pos (by omega), if_pos q3]
                  · rw [if_neg (by omega), if_neg q3]
                · rw [if_neg q2, if_neg q2]
          · have e3 : mres E c (storeV (cl (e.1 * 8192 + (k : Int) * 8)) (e.1 * 8192 + (k : Int) * 8) 0) { { g with s4 := s2 } with s4 := s3 } P W3 = mres E c V { g with s4 := s3 } P W3 := by
              unfold storeV; rw [if_pos hst]; rfl
            rw [e3] at H53
            exact H53.perm List.perm_middle
        · have hk2 : (k : Int) = 1024 := by omega
          refine ⟨⟨i + 1, s2, W2, by omega, by omega, ?_, H46.tail⟩, by omega⟩
          rw [show (fr + ((i + 1 : Nat) : Int)) * 8192 = e.1 * 8192 + (k : Int) * 8 by omega]
          exact hm2
    · have hip : (i : Int) = to - fr + 1 := by omega
      refine hK w32 (Sat.refm.2 ⟨{ g with s4 := s }, P, W', ?_, H32⟩)
      refine hm.congr rfl rfl rfl (fun x hx => hx) fun p j j0 j1 => ?_
      show (if _ then _ else _) = if _ then _ else _
      by_cases q : addr ≤ p * 8192 + j * 8 ∧ p * 8192 + j * 8 < addr + bytes
      · rw [if_pos q, if_pos ⟨q.1, q.2, inL_iff.2 (hrd p (by omega) (by omega))⟩, if_pos (by omega)]
      · rw [if_neg q, if_neg fun h => q ⟨h.1, h.2.1⟩]
end
end Go.Sh

set_option linter.all false
set_option maxRecDepth 4000
set_option maxHeartbeats 4000000
namespace Go.Sh

theorem al_slot (i : Nat) {t : Nat} {Ps : List Pr} {w : World} {K : Nat → World → Prop} (H : Sat Ps w) (hi : Ps[i]? = some Emp) (hK : ∀ b w', Sat (Ps.set i (Row t 1 ⟨some ⟨b, 0, none⟩, 0, 0⟩ [])) w' → K b w') : AL (.cells ⟨[]⟩ t) w K :=
  AL_rows (n := 0) (z := 1) (H.front i hi).tail rfl (by decide) fun b w' H' => hK b w' (Sat.back i H' (List.getElem?_eq_some_iff.1 hi).1)

theorem app_slot (i : Nat) {t bytes b : Nat} {zs : Array Value} {a : SlV} {vs : List Value} {Ps : List Pr} {w : World} {K : SlV → World → Prop} (H : Sat Ps w) (hi : Ps[i]? = some (Row t 1 ⟨some ⟨b, 0, none⟩, 0, 0⟩ [])) (hz : zs.size = 1)
    (hrow : ∀ w', Sat (Ps.eraseIdx i) w' → rowAt w' a.base a.len vs) (hl : vs.length = a.len) (hlen : a.len ≤ 1099511627776) (hby : bytes ≤ 8) (ho : ∀ v ∈ vs, v.oneCell' = true) (hK : ∀ s' w', Sat (Ps.set i (Row t 1 s' vs)) w' → K s' w') :
    APP t 1 bytes zs ⟨some ⟨b, 0, none⟩, 0, 0⟩ a w K := by
  have hm : (0 + a.len) * bytes ≤ 1099511627776 * 8 := Nat.mul_le_mul (by omega) hby
  exact APP_row (H.front i hi) hz (by simpa using hrow w (H.front i hi).tail) (by simpa using hl) ho (by simp only; omega) (by simp only; omega) fun s' w' H' _ => hK s' w' (Sat.back i H' (List.getElem?_eq_some_iff.1 hi).1)

section
variable {E : Env} {b c : Nat} {V : VS} {Z Rs : List Pr} {w : World}

theorem newV_ok (pl : List Int) (rf : List Bool) (fl : List Int) : VOk (newV pl rf fl) :=
  ⟨trivial, trivial, trivial, fun p h => absurd h (mem_nil p), fun p h => absurd h (mem_nil p), fun p h => absurd h (mem_nil p), fun p h => absurd h (mem_nil p), fun _ _ _ _ _ => rfl, by show tot [] + tot [] ≤ tot []; decide⟩

theorem mnew_fin {b1 t1 : Nat} {vs : List Value} {s0 s1 s2 : SlV} {pl : List Int} {rf : List Bool} {fl : List Int} (hpl : ∀ x ∈ pl, 0 ≤ x ∧ x < 18446744073709551616)
    (H : Sat (Cells c E.t_mallowref3_Mem [slV s0, slV s1, slV s2, .slice none 0 0, .slice none 0 0] :: Cells b1 t1 vs :: Row E.t_uint64 1 s0 (ints .u64 pl) :: Row E.t_bool 1 s1 (bools rf) :: Row E.t_uint64 1 s2 (ints .u64 fl) :: Rs) w) : Sat (RefMP E c (newV pl rf fl) :: Rs) w := by
  refine Sat.refm.2 ⟨⟨s0, s1, s2, ⟨none, 0, 0⟩, ⟨none, 0, 0⟩⟩, [], [], ⟨newV_ok pl rf fl, .nil, .nil, fun p => ⟨fun h => absurd h (mem_nil p), fun ⟨e, he, _⟩ => (by cases he)⟩, fun e he => (by cases he), fun e he => (by cases he), fun e he => (by cases he), hpl⟩, ?_⟩
  have h1 := (H.front 1 rfl).tail
  have h2 := (h1.front 1 rfl).rowV
  have h3 := (h2.front 2 rfl).rowV
  have h4 := (h3.front 3 rfl).rowV
  have h5 := (h4.nil E.t_mallowref3_Page 3)
  have h6 := (h5.nil E.t_mallowref3_Word 2)
  -- Word, Page, s2, s1, s0, Cells
  exact h6.perm ((List.reverse_perm [_, _, _, _, _, _]).symm.append_right Rs)

theorem mnew_spec (H : Sat Rs w) {a0 a1 a2 : SlV} {pl : List Int} {rf : List Bool} {fl : List Int} (hpl : ∀ x ∈ pl, 0 ≤ x ∧ x < 18446744073709551616)
    (h0 : ∀ w', Sat Rs w' → rowAt w' a0.base a0.len (ints .u64 pl)) (l0 : pl.length = a0.len) (k0 : a0.len ≤ 1099511627776)
    (h1 : ∀ w', Sat Rs w' → rowAt w' a1.base a1.len (bools rf)) (l1 : rf.length = a1.len) (k1 : a1.len ≤ 1099511627776)
    (h2 : ∀ w', Sat Rs w' → rowAt w' a2.base a2.len (ints .u64 fl)) (l2 : fl.length = a2.len) (k2 : a2.len ≤ 1099511627776)
    {K : Option Addr → World → Prop} (hK : ∀ b w', Sat (RefMP E b (newV pl rf fl) :: Rs) w' → K (some ⟨b, 0, none⟩) w') : F.mallowref3_New E a0 a1 a2 K w := by
  unfold F.mallowref3_New
  have l0' : (ints IntKind.u64 pl).length = a0.len := by rw [ints, List.length_map]; exact l0
  have l1' : (bools rf).length = a1.len := by rw [bools, List.length_map]; exact l1
  have l2' : (ints IntKind.u64 fl).length = a2.len := by rw [ints, List.length_map]; exact l2
  refine AL_cells (vs := [slV a0, slV a1, slV a2]) H.emp.emp.emp fun b1 w2 H2 _ => ?_
  have Hd := H2.drew
  clear H2
  have t4 : ∀ {P0 P1 P2 : Pr} {w'}, Sat (P0 :: P1 :: P2 :: Rs) w' → Sat Rs w' := fun h => h.tail.tail.tail
  refine ⟨a0, Hd.cell0 rfl, a1, Hd.cell rfl, a2, Hd.cell rfl, ?_⟩
  repeat' first
    | (exact Sat.cell (by assumption) (by rfl))
    | (exact Sat.cell0 (by assumption) (by rfl))
    | (refine app_slot 1 (a := a0) (vs := ints .u64 pl) (by assumption) (by rfl) rfl (by intro w' h; exact h0 w' (t4 h)) l0' k0 (by decide) (oneInts _ _) fun s' w' H' => ?_)
    | (refine app_slot 1 (a := a2) (vs := ints .u64 fl) (by assumption) (by rfl) rfl (by intro w' h; exact h2 w' (t4 h)) l2' k2 (by decide) (oneInts _ _) fun s' w' H' => ?_)
    | (refine app_slot 2 (a := a1) (vs := bools rf) (by assumption) (by rfl) rfl (by intro w' h; exact h1 w' (t4 h)) l1' k1 (by decide) (oneBools _) fun s' w' H' => ?_)
    | (refine app_slot 3 (a := a0) (vs := ints .u64 pl) (by assumption) (by rfl) rfl (by intro w' h; exact h0 w' (t4 h)) l0' k0 (by decide) (oneInts _ _) fun s' w' H' => ?_)
    | (refine app_slot 3 (a := a2) (vs := ints .u64 fl) (by assumption) (by rfl) rfl (by intro w' h; exact h2 w' (t4 h)) l2' k2 (by decide) (oneInts _ _) fun s' w' H' => ?_)
    | (refine al_slot 2 (t := E.t_bool) (by assumption) (by rfl) fun b' w' H' => ?_)
    | (refine al_slot 1 (t := E.t_uint64) (by assumption) (by rfl) fun b' w' H' => ?_)
    | (refine al_slot 3 (t := E.t_uint64) (by assumption) (by rfl) fun b' w' H' => ?_)
    | (refine AL_cells (vs := [slV _, slV _, slV _, .slice none 0 0, .slice none 0 0]) (by assumption) fun b' w' H' _ => hK _ _ (mnew_fin hpl H'))
    | (refine AL_cells (vs := [slV _, slV _, slV _, .slice none 0 0, .slice none 0 0]) (by assumption) fun b' w' H' _ => hK _ _ (mnew_fin hpl (H'.perm (.cons _ (.cons _ (((List.Perm.swap _ _ _).trans (.cons _ (.swap _ _ _))).trans (.swap _ _ _)))))))
    | (refine And.intro ?_ ?_)
end
end Go.Sh

set_option linter.all false
set_option maxRecDepth 4000
set_option maxHeartbeats 4000000
namespace Go.Sh

section
variable {E : Env} {b c : Nat} {V : VS} {Z Rs : List Pr} {w : World}

theorem given_fin {b1 b3 t1 t3 : Nat} {us : List Value} {s0 s1 s2 : SlV} {r0 r1 r2 : List Value} {K : SlV → SlV → SlV → World → Prop}
    (hK : ∀ s0 s1 s2 w', Sat (Row E.t_uint64 1 s0 r0 :: Row E.t_bool 1 s1 r1 :: Row E.t_uint64 1 s2 r2 :: Rs) w' → K s0 s1 s2 w')
    (H : Sat (Cells b1 t1 us :: Row E.t_uint64 1 s0 r0 :: Row E.t_bool 1 s1 r1 :: Row E.t_uint64 1 s2 r2 :: Cells b3 t3 [.slice none 0 0, .slice none 0 0, .slice none 0 0] :: Rs) w) :
    stCells (Addr.mk b3 0 none) 0 [.slice s0.base s0.len s0.cap, .slice s1.base s1.len s1.cap, .slice s2.base s2.len s2.cap] w fun w20 =>
          ∃ c21 : SlV, w20.cell? ((Addr.mk b3 0 none).add 0) = some (.slice c21.base c21.len c21.cap) ∧
          ∃ c22 : SlV, w20.cell? ((Addr.mk b3 0 none).add 1) = some (.slice c22.base c22.len c22.cap) ∧
          ∃ c23 : SlV, w20.cell? ((Addr.mk b3 0 none).add 2) = some (.slice c23.base c23.len c23.cap) ∧
          K c21 c22 c23 w20 := by
  refine st_all (news := [.slice s0.base s0.len s0.cap, .slice s1.base s1.len s1.cap, .slice s2.base s2.len s2.cap]) (H.tail.front 3 rfl) rfl (by intro v hv; simp at hv; rcases hv with rfl | rfl | rfl <;> rfl) fun w' H' => ⟨s0, H'.cell rfl, s1, H'.cell rfl, s2, H'.cell rfl, hK _ _ _ _ H'.tail⟩

theorem given_spec (H : Sat Rs w) {a0 a1 a2 : SlV} {pl : List Int} {rf : List Bool} {fl : List Int}
    (h0 : ∀ w', Sat Rs w' → rowAt w' a0.base a0.len (ints .u64 pl)) (l0 : pl.length = a0.len) (k0 : a0.len ≤ 1099511627776)
    (h1 : ∀ w', Sat Rs w' → rowAt w' a1.base a1.len (bools rf)) (l1 : rf.length = a1.len) (k1 : a1.len ≤ 1099511627776)
    (h2 : ∀ w', Sat Rs w' → rowAt w' a2.base a2.len (ints .u64 fl)) (l2 : fl.length = a2.len) (k2 : a2.len ≤ 1099511627776)
    {K : SlV → SlV → SlV → World → Prop} (hK : ∀ s0 s1 s2 w', Sat (Row E.t_uint64 1 s0 (ints .u64 pl) :: Row E.t_bool 1 s1 (bools rf) :: Row E.t_uint64 1 s2 (ints .u64 fl) :: Rs) w' → K s0 s1 s2 w') : F.mallowlaw3_given E a0 a1 a2 K w := by
  unfold F.mallowlaw3_given
  have l0' : (ints IntKind.u64 pl).length = a0.len := by rw [ints, List.length_map]; exact l0
  have l1' : (bools rf).length = a1.len := by rw [bools, List.length_map]; exact l1
  have l2' : (ints IntKind.u64 fl).length = a2.len := by rw [ints, List.length_map]; exact l2
  refine AL_cells (vs := [slV a0, slV a1, slV a2]) H fun b1 w2 H2 _ => ?_
  refine AL_cells (vs := [.slice none 0 0, .slice none 0 0, .slice none 0 0]) H2 fun b3 w4 H4 _ => ?_
  have Hd : Sat (Cells b1 E.t_api_Answers [slV a0, slV a1, slV a2] :: Emp :: Emp :: Emp :: Cells b3 E.t_api_Answers [.slice none 0 0, .slice none 0 0, .slice none 0 0] :: Rs) w4.drew := (H4.drew.emp.emp.emp).front 4 rfl
  clear H2 H4
  have t4 : ∀ {P0 P1 P2 P3 : Pr} {w'}, Sat (P0 :: P1 :: P2 :: P3 :: Rs) w' → Sat Rs w' := fun h => h.tail.tail.tail.tail
  refine ⟨a0, Hd.cell0 rfl, a1, Hd.cell rfl, a2, Hd.cell rfl, ?_⟩
  repeat' first
    | (exact Sat.cell (by assumption) (by rfl))
    | (exact Sat.cell0 (by assumption) (by rfl))
    | (refine app_slot 1 (a := a0) (vs := ints .u64 pl) (by assumption) (by rfl) rfl (by intro w' h; exact h0 w' (t4 h)) l0' k0 (by decide) (oneInts _ _) fun s' w' H' => ?_)
    | (refine app_slot 1 (a := a2) (vs := ints .u64 fl) (by assumption) (by rfl) rfl (by intro w' h; exact h2 w' (t4 h)) l2' k2 (by decide) (oneInts _ _) fun s' w' H' => ?_)
    | (refine app_slot 2 (a := a1) (vs := bools rf) (by assumption) (by rfl) rfl (by intro w' h; exact h1 w' (t4 h)) l1' k1 (by decide) (oneBools _) fun s' w' H' => ?_)
    | (refine app_slot 3 (a := a0) (vs := ints .u64 pl) (by assumption) (by rfl) rfl (by intro w' h; exact h0 w' (t4 h)) l0' k0 (by decide) (oneInts _ _) fun s' w' H' => ?_)
    | (refine app_slot 3 (a := a2) (vs := ints .u64 fl) (by assumption) (by rfl) rfl (by intro w' h; exact h2 w' (t4 h)) l2' k2 (by decide) (oneInts _ _) fun s' w' H' => ?_)
    | (refine al_slot 2 (t := E.t_bool) (by assumption) (by rfl) fun b' w' H' => ?_)
    | (refine al_slot 1 (t := E.t_uint64) (by assumption) (by rfl) fun b' w' H' => ?_)
    | (refine al_slot 3 (t := E.t_uint64) (by assumption) (by rfl) fun b' w' H' => ?_)
    | (exact given_fin hK (by assumption))
    | (exact given_fin hK (Sat.perm (by assumption) (.cons _ (((List.Perm.swap _ _ _).trans (.cons _ (.swap _ _ _))).trans (.swap _ _ _)))))
    | (refine And.intro ?_ ?_)

/-! ### How much a row of acts asks for -/

def resv (z : Nat → Int × Int × Int × Int × Unit) : Nat → Int
  | 0 => 0
  | i + 1 => resv z i + if (z i).1 = 1 ∧ (z i).2.2.1 ≤ 134217728 then (z i).2.2.1 else 0

theorem heavy2_spec (H : Sat Rs w) {a0 a1 a2 l : SlV} {z : Nat → Int × Int × Int × Int × Unit} (hrow : ∀ w', Sat Rs w' → RowA w' VAct l z) {K : Bool → World → Prop} (hk1 : ∀ w', Sat Rs w' → K true w')
    (hk0 : l.len ≤ 120 → a0.len ≤ 120 → a1.len ≤ 120 → a2.len ≤ 2000 → (∀ i, i ≤ l.len → 0 ≤ resv z i ∧ resv z i ≤ 12000) → ∀ w', Sat Rs w' → K false w') : F.mallowlaw3_heavy E a0 a1 a2 l K w := by
  unfold F.mallowlaw3_heavy
  refine AL_cells H fun b1 w2 H2 _ => ?_
  have ht := fun w' (h : Sat (Cells b1 E.t_api_Answers [.slice a0.base a0.len a0.cap, .slice a1.base a1.len a1.cap, .slice a2.base a2.len a2.cap] :: Rs) w') => hk1 w' h.tail
  refine JOIN_in (CND_dec (fun _ j => CND_t rfl (ht _ H2)) fun g1 => ⟨a0, H2.cell0 rfl, CND_dec (fun _ j => CND_t rfl (ht _ H2)) fun g2 => ⟨a1, H2.cell rfl, CND_dec (fun _ j => CND_t rfl (ht _ H2)) fun g3 => ⟨a2, H2.cell rfl, fun j => CND_dec (fun _ => ht _ H2) fun g4 => ?_⟩⟩⟩)
  have h00 : ∀ j, j ≤ 0 → 0 ≤ resv z j ∧ resv z j ≤ 12000 := fun j hj => by
    obtain rfl : j = 0 := by omega
    exact ⟨Int.le_refl _, by show (0 : Int) ≤ 12000; decide⟩
  refine LOOP_intro (fun st w' => ∃ i : Nat, st.2.1 = i ∧ i ≤ l.len ∧ st.1 = resv z i ∧ (∀ j, j ≤ i → 0 ≤ resv z j ∧ resv z j ≤ 12000) ∧ w' = w2) (fun st _ => (l.len - st.2.1).toNat) ⟨0, rfl, Nat.zero_le _, rfl, h00, rfl⟩ ?_
  rintro ⟨p, i', v⟩ _ w10 ⟨i, hi, i1, hp, hres, rfl⟩
  dsimp only at hi hp ⊢
  subst hi; subst hp
  refine CND_dec (fun hlt => ?_) fun hge => hk0 (by omega) (by omega) (by omega) (by omega) (fun j hj => hres j (by omega)) w10 H2.tail
  have hik : i < l.len := by omega
  obtain ⟨x, hx, c0, c1, c2, c3, b0, b1', b2, b3⟩ := vact_cells (hrow _ H2.tail) (j := i) hik
  rw [hx]
  simp only [NC_some, Int.toNat_natCast]
  have hii : (0 : Int) ≤ i ∧ (i : Int) < (l.len : Int) := ⟨by omega, by omega⟩
  rw [i64_id (n := (i : Int) + 1) (by omega) (by omega)]
  have hri := hres i (Nat.le_refl _)
  have hn : ∀ p', p' = resv z (i + 1) → 0 ≤ p' ∧ p' ≤ 12000 → (∃ k : Nat, (i : Int) + 1 = k ∧ k ≤ l.len ∧ p' = resv z k ∧ (∀ j, j ≤ k → 0 ≤ resv z j ∧ resv z j ≤ 12000) ∧ w10 = w10) ∧ ((l.len : Int) - ((i : Int) + 1)).toNat < ((l.len : Int) - (i : Int)).toNat := fun p' hp' hpb =>
    ⟨⟨i + 1, by omega, by omega, hp', fun j hj => by
      rcases Nat.lt_or_eq_of_le hj with q | q
      · exact hres j (by omega)
      · subst q; rw [← hp']; exact hpb, rfl⟩, by omega⟩
  refine JOIN_intro (fun st w' => w' = w10 ∧ st.1 = resv z (i + 1) ∧ 0 ≤ st.1 ∧ st.1 ≤ 12000) ?_ ?_
  · have hno : ¬ ((z i).1 = 1 ∧ (z i).2.2.1 ≤ 134217728) → resv z i = resv z (i + 1) := fun h => by show _ = resv z i + _; rw [if_neg h]; omega
    refine JOIN_in ⟨hii, _, c0, CND_eq (fun e1 => ⟨hii, _, c2, fun j => CND_dec (fun g => ⟨hii, _, c2, CND_dec (fun _ => ht _ H2) fun g3 => ⟨hii, _, c2, ?_⟩⟩) fun g => ⟨rfl, hno fun h => g h.2, hri.1, hri.2⟩⟩) fun e1 j => CND_f rfl ⟨rfl, hno fun h => e1 h.1, hri.1, hri.2⟩⟩
    rw [u64_id (n := resv z i + (z i).2.2.1) (by omega) (by omega)]
    refine CND_dec (fun _ => ht _ H2) fun g5 => ⟨by trivial, ?_, by show 0 ≤ resv z i + (z i).2.2.1; omega, by show resv z i + (z i).2.2.1 ≤ 12000; omega⟩
    show _ = resv z i + _
    rw [if_pos ⟨e1, g⟩]
  · rintro ⟨p', v⟩ _ w14 ⟨rfl, e1, e2, e3⟩
    dsimp only at e1 e2 e3
    refine JOIN_in ⟨hii, _, c0, CND_eq (fun _ => ⟨hii, _, c2, CND_dec (fun _ => ⟨hii, _, c2, fun j => CND_dec (fun _ => ht _ H2) fun _ => hn p' e1 ⟨e2, e3⟩⟩) fun _ j => CND_f rfl (hn p' e1 ⟨e2, e3⟩)⟩) fun _ j => CND_f rfl (hn p' e1 ⟨e2, e3⟩)⟩

/-! ### Places are told outright -/

theorem placed_uniq {l : Iv} {frm n a a' : Int} (h : Placed l frm n a) (h' : Placed l frm n a') : a = a' := by
  rcases Int.lt_trichotomy a a' with g | g | g
  · obtain ⟨m, m1, m2, m3⟩ := h'.first a h.mul h.low h.fr g
    exact absurd m3 (h.free m m1 m2)
  · exact g
  · obtain ⟨m, m1, m2, m3⟩ := h.first a' h'.mul h'.low h'.fr g
    exact absurd m3 (h'.free m m1 m2)
theorem hint_not {l : Iv} {frm n a : Int} (h : Hinted l frm n a) (h' : NoHint l frm n) : False := by
  rcases h' with g | ⟨a', g1, g2⟩
  · have := h.1; omega
  · rw [placed_uniq h.2.1 g1] at h; exact g2 h.2.2
theorem chosen_uniq {hint n a a' : Int} (h : Chosen V hint n a) (h' : Chosen V hint n a') : a = a' := by
  rcases h with ⟨p, r, h1, h2, h3⟩ | ⟨h1, h2⟩
  · rcases h' with ⟨p', r', h1', h2', h3'⟩ | ⟨h1', _⟩
    · rw [h1] at h1'; cases h1'; rw [h3, h3']
    · exact absurd h2 (h1' p r h1)
  · rcases h' with ⟨p', r', h1', h2', h3'⟩ | ⟨_, h2'⟩
    · exact absurd h2' (h1 p' r' h1')
    · rcases h2 with h2 | ⟨h2, h3⟩
      · rcases h2' with h2' | ⟨h2', _⟩
        · exact placed_uniq h2.2.1 h2'.2.1
        · exact (hint_not h2 h2').elim
      · rcases h2' with h2' | ⟨_, h3'⟩
        · exact (hint_not h2' h2).elim
        · exact placed_uniq h3.2.1 h3'.2.1
theorem chosen_not {hint n a : Int} (h : Chosen V hint n a) (h' : Unplaced V hint n) : False := by
  rcases h with ⟨p, r, h1, h2, _⟩ | ⟨_, h | ⟨_, h⟩⟩
  · exact h'.1 p r h1 h2
  · exact hint_not h h'.2.1
  · exact hint_not h h'.2.2

variable (hE : EnvS E)
include hE

theorem act_spec (H : Sat (VmemP E b V :: RefMP E c V :: Z) w) (hfew : tot V.laid ≤ 100000) {what page n x : Int} (b1 : 0 ≤ page ∧ page < 18446744073709551616) (b2 : 0 ≤ n ∧ n < 18446744073709551616) (b3 : 0 ≤ x ∧ x < 18446744073709551616)
    {K : Bool → World → Prop} (hK : ∀ V' w', Sat (VmemP E b V' :: RefMP E c V' :: Z) w' → tot V'.laid ≤ tot V.laid + (if what = 1 ∧ n ≤ 134217728 then n else 0) → K true w') : F.mallowlaw3_act E (some ⟨b, 0, none⟩) (some ⟨c, 0, none⟩) what page n x K w := by
  unfold F.mallowlaw3_act
  refine AL_cells (vs := [.int .i64 what, .int .u64 page, .int .u64 n, .int .u64 x]) H fun b1' w2 H2 _ => ⟨what, H2.cell0 rfl, ?_⟩
  have fin : ∀ {V' : VS} {w'}, Sat (RefMP E c V' :: VmemP E b V' :: Cells b1' E.t_mallowlaw3_Act [.int .i64 what, .int .u64 page, .int .u64 n, .int .u64 x] :: Z) w' → tot V'.laid ≤ tot V.laid + (if what = 1 ∧ n ≤ 134217728 then n else 0) → K true w' := fun h ht =>
    hK _ _ ((h.front 1 rfl).front 2 rfl).tail.drew.drew |> fun _ => hK _ _ (((h.front 2 rfl).tail).perm (.swap _ _ _)) ht
  have hpos : 0 ≤ (if what = 1 ∧ n ≤ 134217728 then n else 0) := by split <;> omega
  have fin0 : ∀ {V' : VS} {w'}, V'.laid = V.laid → Sat (RefMP E c V' :: VmemP E b V' :: Cells b1' E.t_mallowlaw3_Act [.int .i64 what, .int .u64 page, .int .u64 n, .int .u64 x] :: Z) w' → K true w' := fun he h => fin h (by rw [he]; omega)
  have H3 := H2.front 1 rfl
  have hfew1 : tot V.laid ≤ 1000000 := by omega
  have hv := H3.vok
  refine CND_eq (fun e1 => ?_) fun e1 => CND_eq (fun e2 => ?_) fun e2 => CND_eq (fun e3 => ?_) fun e3 => CND_eq (fun e4 => ?_) fun e4 => CND_eq (fun e5 => ?_) fun e5 => CND_eq (fun e6 => ?_) fun e6 => CND_eq (fun e7 => ?_) fun e7 => ?_
  · refine ⟨page, H2.cell rfl, n, H2.cell rfl, ?_⟩
    refine reserve_spec hE H3 b1.1 b1.2 b2.1 b2.2 (fun hb => ?_) (fun hb r hr w8 H8 => ?_) (fun hb hr hu w8 H8 => ?_) fun hb hr at_ hc w8 H8 => ?_
    · refine ⟨page, H2.cell rfl, n, H2.cell rfl, ?_⟩
      exact mreserve_spec (H3.front 2 rfl) b1.1 b1.2 b2.1 b2.2 (fun _ => CND_t rfl (fin0 rfl (H3.front 2 rfl))) (fun h => absurd hb h) (fun h => absurd hb h) fun h => absurd hb h
    · refine ⟨page, (H8.front 1 rfl).cell rfl, n, (H8.front 1 rfl).cell rfl, ?_⟩
      refine mreserve_spec (H8.front 2 rfl) b1.1 b1.2 b2.1 b2.2 (fun h => absurd h hb) (fun _ r' hr' w9 H9 => ?_) (fun _ h => absurd hr (h r)) fun _ h => absurd hr (h r)
      rw [hr] at hr'; cases hr'
      exact CND_t rfl (fin0 (V' := { V with rf := r }) rfl H9)
    · refine ⟨page, (H8.front 1 rfl).cell rfl, n, (H8.front 1 rfl).cell rfl, ?_⟩
      exact mreserve_spec (H8.front 2 rfl) b1.1 b1.2 b2.1 b2.2 (fun h => absurd h hb) (fun _ r' hr' => absurd hr' (hr r')) (fun _ _ _ w9 H9 => CND_t rfl (fin0 (V' := { V with rf := V.rf.tail, pl := V.pl.tail }) rfl H9)) fun _ _ at' _ _ hc' => (chosen_not hc' hu).elim
    · refine ⟨page, (H8.front 1 rfl).cell rfl, n, (H8.front 1 rfl).cell rfl, ?_⟩
      refine mreserve_spec (H8.front 2 rfl) b1.1 b1.2 b2.1 b2.2 (fun h => absurd h hb) (fun _ r' hr' => absurd hr' (hr r')) (fun _ _ hu => (chosen_not hc hu).elim) fun _ _ at' g1 g2 hc' w9 H9 => ?_
      have e := chosen_uniq hc hc'
      subst e
      refine CND_t (by simp) (fin (V' := { V with rf := V.rf.tail, pl := V.pl.tail, laid := addL V.laid at_ (at_ + n) }) (H9 H8.vok) ?_)
      have ht := (addL_spec hv.ok1 (a := at_) (b := at_ + n) (by omega) (by omega) (by omega)).2.2
      have hc0 := cnt_nonneg V.laid at_ (at_ + n)
      rw [if_pos ⟨e1, by omega⟩]
      show tot (addL V.laid at_ (at_ + n)) ≤ _
      omega
  · have Hd := H3.drew
    have c1 := (Hd.front 1 rfl)
    refine ⟨page, c1.cell rfl, n, c1.cell rfl, page, c1.cell rfl, n, c1.cell rfl, ?_⟩
    have step : ∀ {V' : VS} {r : Int} {w'}, Sat (VmemP E b V' :: Cells b1' E.t_mallowlaw3_Act [.int .i64 what, .int .u64 page, .int .u64 n, .int .u64 x] :: RefMP E c V :: Z) w' → F.mallowref3_Mem_Commit E (some ⟨c, 0, none⟩) page n (fun r20 w21 => K ((r : Int) == r20) w21) w' →
        w'.cell? ((Addr.mk b1' 0 none).add 2) = some (.int .u64 n) ∧ w'.cell? ((Addr.mk b1' 0 none).add 1) = some (.int .u64 page) ∧ F.mallowref3_Mem_Commit E (some ⟨c, 0, none⟩) page n (fun r20 w21 => K ((r : Int) == r20) w21) w' := fun h g => ⟨(h.front 1 rfl).cell rfl, (h.front 1 rfl).cell rfl, g⟩
    refine commit_spec hE Hd b1.1 b1.2 b2.1 b2.2 (fun h0 => step Hd ?_) (fun h0 h1 w' he => step (Hd.nothing he) ?_) (fun h0 h1 h2 w' he => step (Hd.nothing he) ?_) (fun h0 h1 h2 r hr w' H' => step H' ?_) fun h0 h1 h2 hr w' H' => step H' ?_
    · exact mcommit_spec (Hd.front 2 rfl) b1.1 b1.2 b2.1 b2.2 (fun _ w9 H9 => fin0 rfl H9) (fun g => absurd g h0) (fun g => absurd g h0) (fun g => absurd g h0) fun g => absurd g h0
    · exact mcommit_spec ((Hd.nothing he).front 2 rfl) b1.1 b1.2 b2.1 b2.2 (fun g => absurd h0 g) (fun _ _ w9 H9 => fin0 rfl H9) (fun _ g => absurd g h1) (fun _ g => absurd g h1) fun _ g => absurd g h1
    · exact mcommit_spec ((Hd.nothing he).front 2 rfl) b1.1 b1.2 b2.1 b2.2 (fun g => absurd h0 g) (fun _ g => absurd h1 g) (fun _ _ _ w9 H9 => fin0 rfl H9) (fun _ _ g => absurd h2 g) fun _ _ g => absurd h2 g
    · refine mcommit_spec (H'.front 2 rfl) b1.1 b1.2 b2.1 b2.2 (fun g => absurd h0 g) (fun _ g => absurd h1 g) (fun _ _ g => absurd g h2) (fun _ _ _ r' hr' w9 H9 => ?_) fun _ _ _ g => absurd hr (g r)
      rw [hr] at hr'; cases hr'
      exact fin0 (V' := { V with rf := r }) rfl H9
    · exact mcommit_spec (H'.front 2 rfl) b1.1 b1.2 b2.1 b2.2 (fun g => absurd h0 g) (fun _ g => absurd h1 g) (fun _ _ g => absurd g h2) (fun _ _ _ r' hr' => absurd hr' (hr r')) fun _ _ _ _ w9 H9 => fin0 (V' := commitV V page n) rfl (H9 H'.vok)
  · have Hd := H3.drew
    have c1 := (Hd.front 1 rfl)
    refine ⟨page, c1.cell rfl, n, c1.cell rfl, page, c1.cell rfl, n, c1.cell rfl, ?_⟩
    have step : ∀ {V' : VS} {r : Int} {w'}, Sat (VmemP E b V' :: Cells b1' E.t_mallowlaw3_Act [.int .i64 what, .int .u64 page, .int .u64 n, .int .u64 x] :: RefMP E c V :: Z) w' → F.mallowref3_Mem_Release E (some ⟨c, 0, none⟩) page n (fun r20 w21 => K ((r : Int) == r20) w21) w' →
        w'.cell? ((Addr.mk b1' 0 none).add 2) = some (.int .u64 n) ∧ w'.cell? ((Addr.mk b1' 0 none).add 1) = some (.int .u64 page) ∧ F.mallowref3_Mem_Release E (some ⟨c, 0, none⟩) page n (fun r20 w21 => K ((r : Int) == r20) w21) w' := fun h g => ⟨(h.front 1 rfl).cell rfl, (h.front 1 rfl).cell rfl, g⟩
    refine release_spec hE Hd b1.1 b1.2 b2.1 b2.2 (fun h0 => step Hd ?_) (fun h0 h1 w' he => step (Hd.nothing he) ?_) fun h0 h1 w' H' => step H' ?_
    · exact mrelease_spec hfew1 (Hd.front 2 rfl) b1.1 b1.2 b2.1 b2.2 (fun _ w9 H9 => fin0 rfl H9) (fun g => absurd g h0) fun g => absurd g h0
    · exact mrelease_spec hfew1 ((Hd.nothing he).front 2 rfl) b1.1 b1.2 b2.1 b2.2 (fun g => absurd h0 g) (fun _ _ w9 H9 => fin0 rfl H9) fun _ g => absurd g h1
    · exact mrelease_spec hfew1 (H'.front 2 rfl) b1.1 b1.2 b2.1 b2.2 (fun g => absurd h0 g) (fun _ g => absurd h1 g) fun _ _ w9 H9 => fin0 (V' := releaseV V page n) rfl (H9 H'.vok)
  · refine ⟨x, H2.cell rfl, load_spec hE H3 b3.1 b3.2 fun w' H' => ⟨x, (H'.front 1 rfl).cell rfl, mloadS_spec hfew1 (H'.front 2 rfl) b3.1 b3.2 fun w9 H9 => CND_t (by simp) ?_⟩⟩
    rw [beq_self_eq_true]
    exact fin0 rfl H9
  · have Hd := H3.drew
    have c1 := (Hd.front 1 rfl)
    refine ⟨x, c1.cell rfl, n, c1.cell rfl, x, c1.cell rfl, n, c1.cell rfl, store_spec hE Hd b3.1 b3.2 fun w' H' => ⟨(H'.front 1 rfl).cell rfl, (H'.front 1 rfl).cell rfl, ?_⟩⟩
    have hl : (storeV V x n).laid = V.laid := by unfold storeV; split <;> rfl
    obtain ⟨g, P, W, hI, Hm⟩ := Sat.refm.1 (H'.front 2 rfl)
    refine mstore_spec hI hfew1 Hm b3.1 b3.2 (fun hne w9 H9 => ?_) fun h0 s W' w9 hI9 H9 => ?_
    · rw [beq_self_eq_true]
      have e : storeV V x n = V := by unfold storeV; rw [if_neg hne]
      rw [e] at H9
      exact fin0 rfl (Sat.refm.2 ⟨g, P, W, hI, H9⟩)
    · rw [h0]
      exact fin0 hl (Sat.refm.2 ⟨_, P, W', hI9, H9⟩)
  · have Hd := H3.drew
    have c1 := (Hd.front 1 rfl)
    refine ⟨x, c1.cell rfl, n, c1.cell rfl, x, c1.cell rfl, n, c1.cell rfl, zero_spec hE Hd b3.1 b3.2 b2.1 b2.2 fun w' H' => ⟨(H'.front 1 rfl).cell rfl, (H'.front 1 rfl).cell rfl, ?_⟩⟩
    have hl : (zeroV V x n).laid = V.laid := by unfold zeroV; split <;> rfl
    refine mzero_spec hfew1 (H'.front 2 rfl) b3.1 b3.2 b2.1 b2.2 fun w9 H9 => ?_
    rw [beq_self_eq_true]
    exact fin0 hl H9
  · refine LOOP_intro (fun st w' => -1 ≤ st.1 ∧ st.1 ≤ 6 ∧ Sat (VmemP E b V :: Cells b1' E.t_mallowlaw3_Act [.int .i64 what, .int .u64 page, .int .u64 n, .int .u64 x] :: RefMP E c V :: Z) w') (fun st _ => (6 - st.1).toNat) ⟨Int.le_refl _, by show (-1 : Int) ≤ 6; decide, H3⟩ ?_
    rintro ⟨k, v⟩ _ w5 ⟨k0, k1, H5⟩
    dsimp only at k0 k1 ⊢
    refine CND_dec (fun hlt => ?_) fun hge => ?_
    · refine vcount_spec H5 fun w' H' => mcount_spec (H'.front 2 rfl) fun w9 H9 => CND_ne (fun hne => absurd rfl hne) fun _ => ?_
      rw [i64_id (n := k + 1) (by omega) (by omega)]
      exact ⟨⟨by omega, by omega, (H9.front 1 rfl).front2 1 rfl⟩, by omega⟩
    · have Hd := H5.drew
      have c1 := (Hd.front 1 rfl)
      refine ⟨page, c1.cell rfl, page, c1.cell rfl, vstate_spec hE Hd b1.1 fun w' H' => ⟨(H'.front 1 rfl).cell rfl, mstate_spec (H'.front 2 rfl) fun w9 H9 => ?_⟩⟩
      rw [show (if inL V.laid page then if inL V.ready page then (2 : Int) else if inL V.rel page then 3 else 1 else 0) = stV V page from rfl, beq_self_eq_true]
      exact fin0 rfl H9
  · exact hK V _ (H2.tail) (by omega)
end
end Go.Sh

set_option linter.all false
set_option maxRecDepth 4000
set_option maxHeartbeats 4000000
namespace Go.Sh

theorem rowAt_argB {w : World} {ok : Bool → Prop} {s : SlV} {z : Nat → Bool} (h : RowG w .bool ok s z) : rowAt w s.base s.len (bools (argL s.len z)) := by
  cases hb : s.base with
  | none =>
    have : s.len = 0 := by
      rcases Nat.eq_zero_or_pos s.len with e | e
      · exact e
      · obtain ⟨x, hx, _⟩ := h.cellB e
        rw [hb] at hx; cases hx
    show bools (argL s.len z) = []
    rw [this]; rfl
  | some a =>
    refine ⟨by simp [bools, argL_len], fun j v hj => ?_⟩
    have hjl : j < s.len := by
      have := (List.getElem?_eq_some_iff.1 hj).1
      simpa [bools, argL_len] using this
    rw [bools_get (argL_get z hjl)] at hj
    cases hj
    obtain ⟨x, hx, hc⟩ := h.cellB hjl
    rw [hb] at hx; cases hx
    exact hc

theorem RowG.oldB {w w' : World} {s : SlV} {z : Nat → Bool} (h : RowA w .bool s z) (he : Ext Nothing w w') : RowA w' .bool s z :=
  ⟨h.1, h.2.1, fun j hj => by
    obtain ⟨x, h1, h2, h3⟩ := h.2.2 j hj
    exact ⟨x, h1, fun i v hv => he.cell (h2 i v hv) fun f => f, h3⟩⟩

theorem argL_wf {w : World} {s : SlV} {z : Nat → Int} (h : RowA w (.int .u64) s z) : ∀ x ∈ argL s.len z, 0 ≤ x ∧ x < 18446744073709551616 := by
  intro x hx
  simp only [argL, List.mem_map, List.mem_range] at hx
  obtain ⟨j, hj, rfl⟩ := hx
  obtain ⟨_, _, _, ho⟩ := h.cell1 hj
  exact u64_wf ho

section
variable {E : Env} {b c : Nat} {V : VS} {Z Rs : List Pr} {w : World}
variable (hE : EnvS E)
include hE

theorem same_spec (H : Sat (VmemP E b V :: RefMP E c V :: Z) w) (hfew : tot V.laid ≤ 1000000) {K : Bool → World → Prop} (hK : ∀ w', Sat (VmemP E b V :: RefMP E c V :: Z) w' → K true w') : F.mallowlaw3_same E (some ⟨b, 0, none⟩) (some ⟨c, 0, none⟩) K w := by
  obtain ⟨g, P, W, hI, H0⟩ := Sat.refm.1 (H.front 1 rfl)
  have H1 : Sat (VmemP E b V :: (mres E c V g P W ++ Z)) w := H0.perm (List.perm_middle (l₁ := mres E c V g P W))
  have tr : ∀ {w'}, Sat (VmemP E b V :: (mres E c V g P W ++ Z)) w' → Sat (mres E c V g P W ++ VmemP E b V :: Z) w' := fun h => h.perm (List.perm_middle (l₁ := mres E c V g P W)).symm
  have rt : ∀ {w'}, Sat (mres E c V g P W ++ VmemP E b V :: Z) w' → Sat (VmemP E b V :: (mres E c V g P W ++ Z)) w' := fun h => h.perm (List.perm_middle (l₁ := mres E c V g P W))
  have hfP := hI.fewP
  have hfW := hI.fewW2 hfew
  clear H0 H
  unfold F.mallowlaw3_same
  simp only [NC_some]
  refine LOOP_intro (fun st w' => 0 ≤ st.1 ∧ st.1 < 9000000000000000000 ∧ Sat (VmemP E b V :: (mres E c V g P W ++ Z)) w') (fun st _ => (P.length - st.1).toNat) ⟨Int.le_refl _, by show (0 : Int) < _; decide, H1⟩ ?_
  rintro ⟨i, v⟩ _ w2 ⟨i0, i1, H2⟩
  dsimp only at i0 i1 ⊢
  have hl := mlenP (tr H2)
  refine ⟨g.s3, (tr H2).cell rfl, CND_dec (fun hlt => ?_) fun hge => ?_⟩
  · obtain ⟨e, he⟩ : ∃ e, P[i.toNat]? = some e := ⟨_, List.getElem?_eq_getElem (by omega)⟩
    have hem := List.mem_of_getElem? he
    have her := hI.rng hem
    obtain ⟨p, hb, c0, _⟩ := mpage (tr H2) he
    have Hd := H2.drew
    obtain ⟨p', hb', _, _, c1, _⟩ := mpage (tr Hd) he
    refine ⟨g.s3, (tr H2).cell rfl, ?_⟩
    rw [hb]
    have hii : (0 : Int) ≤ i ∧ i < (g.s3.len : Int) := ⟨i0, by omega⟩
    refine ⟨hii, e.1, c0, g.s3, (tr Hd).cell rfl, ?_⟩
    rw [hb']
    refine ⟨hii, e.2.1, c1, vstate_spec hE Hd (by omega) fun w15 H15 => ?_⟩
    obtain ⟨p'', hb'', _, _, c1', _⟩ := mpage (tr H15) he
    have hpp : p'' = p' := by rw [hb'] at hb''; cases hb''; rfl
    subst hpp
    rw [show (if inL V.laid e.1 then if inL V.ready e.1 then (2 : Int) else if inL V.rel e.1 then 3 else 1 else 0) = stV V e.1 from rfl, ← hI.hs e hem]
    have hc3 : w15.cell? ((Addr.mk c 0 none).add 3) = some (.slice g.s3.base g.s3.len g.s3.cap) := (tr H15).cell rfl
    rw [hb'] at hc3
    refine ⟨c1', hc3, CND_ne (fun h => absurd rfl h) fun _ => ?_⟩
    rw [u64_id (n := e.1 * 8192) (by omega) (by omega), u64_id (n := e.1 * 8192 + 8) (by omega) (by omega)]
    refine load_spec hE H15 (by omega) (by omega) fun w18 H18 => mload_spec hI hfew (tr H18) (by omega) (by omega) fun w21 H21 => ?_
    refine JOIN_in (CND_ne (fun h => absurd rfl h) fun _ j => CND_ne (fun h => absurd rfl h) fun _ => ⟨by decide, LET_intro fun k hk => ?_⟩)
    rw [Int.tdiv_eq_ediv_of_nonneg i0, i64_id (n := i / 40) (by omega) (by omega), i64_id (n := 1 + i / 40) (by omega) (by omega), i64_id (n := i + (1 + i / 40)) (by omega) (by omega)] at hk
    exact ⟨⟨by omega, by omega, rt H21⟩, by omega⟩
  · refine LOOP_intro (fun st w' => 0 ≤ st.1 ∧ st.1 ≤ W.length ∧ Sat (VmemP E b V :: (mres E c V g P W ++ Z)) w') (fun st _ => (W.length - st.1).toNat) ⟨Int.le_refl _, by show (0 : Int) ≤ _; omega, H2⟩ ?_
    clear hge hl i0 i1 i H2 H1
    rintro ⟨i, v⟩ _ w27 ⟨i0, i1, H27⟩
    dsimp only at i0 i1 ⊢
    have hl := mlenW (tr H27)
    refine ⟨g.s4, (tr H27).cell rfl, CND_dec (fun hlt => ?_) fun hge => ?_⟩
    · obtain ⟨x, hx⟩ : ∃ x, W[i.toNat]? = some x := ⟨_, List.getElem?_eq_getElem (by omega)⟩
      have hxm := List.mem_of_getElem? hx
      have hxr := hI.rngW hxm
      obtain ⟨g1, g2, g3⟩ := hI.hw x hxm
      obtain ⟨p, hb, c0, _⟩ := mword (tr H27) hx
      have hii : (0 : Int) ≤ i ∧ i < (g.s4.len : Int) := ⟨i0, by omega⟩
      refine ⟨g.s4, (tr H27).cell rfl, ?_⟩
      rw [hb]
      refine ⟨hii, x.1, c0, load_spec hE H27 (by omega) (by omega) fun w37 H37 => ?_⟩
      have hld : loadV V x.1 = (x.2, 0) := by unfold loadV; rw [if_neg (by omega), if_pos (inL_iff.2 g2), g3]
      rw [hld]
      obtain ⟨p', hb', _, c1⟩ := mword (tr H37) hx
      have hpp : p' = p := by rw [hb] at hb'; cases hb'; rfl
      subst hpp
      have hc4 : w37.cell? ((Addr.mk c 0 none).add 4) = some (.slice g.s4.base g.s4.len g.s4.cap) := (tr H37).cell rfl
      refine JOIN_in ⟨g.s4, hc4, ?_⟩
      rw [hb]
      refine ⟨hii, x.2, c1, CND_ne (fun h => absurd rfl h) fun _ j => CND_f rfl ?_⟩
      rw [i64_id (n := i + 1) (by omega) (by omega)]
      exact ⟨⟨by omega, by omega, H37⟩, by omega⟩
    · have Hb : Sat (VmemP E b V :: RefMP E c V :: Z) w27 := (Sat.refm.2 ⟨g, P, W, hI, tr H27⟩).perm (.swap _ _ _)
      refine LOOP_intro (fun st w' => 0 ≤ st.1 ∧ st.1 ≤ 4 ∧ Sat (VmemP E b V :: RefMP E c V :: Z) w') (fun st _ => (4 - st.1).toNat) ⟨by show (0 : Int) ≤ 1; decide, by show (1 : Int) ≤ 4; decide, Hb⟩ ?_
      clear hge hl i0 i1 i H27 Hb
      rintro ⟨k, v⟩ _ w5 ⟨k0, k1, H5⟩
      dsimp only at k0 k1 ⊢
      refine CND_dec (fun hlt => ?_) fun hge => hK _ H5
      refine vcount_spec H5 fun w' H' => mcount_spec (H'.front 1 rfl) fun w9 H9 => CND_ne (fun hne => absurd rfl hne) fun _ => ?_
      rw [i64_id (n := k + 1) (by omega) (by omega)]
      exact ⟨⟨by omega, by omega, H9.perm (.swap _ _ _)⟩, by omega⟩

theorem plays_spec {a00 a01 a02 l : SlV} {z0 : Nat → Int} {z1 : Nat → Bool} {z2 : Nat → Int} {z : Nat → Int × Int × Int × Int × Unit} (h0 : RowA w (.int .u64) a00 z0) (h1 : RowA w .bool a01 z1) (h2 : RowA w (.int .u64) a02 z2) (hl : RowA w VAct l z)
    {K : Bool → World → Prop} (hK : ∀ w', Ext Nothing w w' → K true w') : F.mallowlaw3_VmemPlays E a00 a01 a02 l K w := by
  unfold F.mallowlaw3_VmemPlays
  simp only [Nat.mul_one]
  have hpl := argL_wf h0
  refine AL_cells (vs := [slV a00, slV a01, slV a02]) (Sat.start w) fun b1 w2 H2 _ => ⟨a00, H2.cell rfl, a01, H2.cell rfl, a02, H2.cell rfl, ?_⟩
  refine heavy2_spec H2 (fun w' h => hl.oldA (h.old 1 rfl)) (fun w' h => CND_t rfl (hK _ (h.old 1 rfl))) fun n1 n2 n3 n4 hres w7 H7 => CND_f rfl ⟨a00, H7.cell rfl, a01, H7.cell rfl, a02, H7.cell rfl, ?_⟩
  refine given_spec H7 (fun w' h => rowAt_arg (h0.old (h.old 1 rfl))) (argL_len _ _) (by omega) (fun w' h => rowAt_argB (h1.oldB (h.old 1 rfl))) (argL_len _ _) (by omega) (fun w' h => rowAt_arg (h2.old (h.old 1 rfl))) (argL_len _ _) (by omega) fun s0 s1 s2 w14 H14 => ?_
  refine AL_cells (vs := [.slice none 0 0, .slice none 0 0, .slice none 0 0]) H14 fun b15 w16 H16 _ => st_all (news := [slV s0, slV s1, slV s2]) H16 rfl (by intro v hv; simp at hv; rcases hv with rfl | rfl | rfl <;> rfl) fun w17 H17 => ⟨s0, H17.cell rfl, s1, H17.cell rfl, s2, H17.cell rfl, ?_⟩
  have e0 : (argL a00.len z0).length = s0.len := by have := (H17.front 1 rfl).rowLen; rw [ints, List.length_map] at this; omega
  have e1 : (argL a01.len z1).length = s1.len := by have := (H17.front 2 rfl).rowLen; rw [bools, List.length_map] at this; omega
  have e2 : (argL a02.len z2).length = s2.len := by have := (H17.front 3 rfl).rowLen; rw [ints, List.length_map] at this; omega
  have k0 := e0; have k1 := e1; have k2 := e2
  rw [argL_len] at k0 k1 k2
  refine vnew_spec H17 hpl (fun w' h => by simpa using (h.front 1 rfl).rowAll) e0 (by omega) (fun w' h => by simpa using (h.front 2 rfl).rowAll) e1 (by omega) (fun w' h => by simpa using (h.front 3 rfl).rowAll) e2 (by omega) fun b w22 H22 => ⟨a00, (H22.front 5 rfl).cell rfl, a01, (H22.front 5 rfl).cell rfl, a02, (H22.front 5 rfl).cell rfl, ?_⟩
  refine mnew_spec H22 hpl (fun w' h => rowAt_arg (h0.old (h.old 6 rfl))) (argL_len _ _) (by omega) (fun w' h => rowAt_argB (h1.oldB (h.old 6 rfl))) (argL_len _ _) (by omega) (fun w' h => rowAt_arg (h2.old (h.old 6 rfl))) (argL_len _ _) (by omega) fun c w27 H27 => CND_f rfl ?_
  -- the answers that were handed in change
  refine LOOP_intro (fun st w' => 0 ≤ st.1 ∧ st.1 ≤ s0.len ∧ ∃ vs : List Value, Sat (RefMP E c (newV (argL a00.len z0) (argL a01.len z1) (argL a02.len z2)) :: VmemP E b (newV (argL a00.len z0) (argL a01.len z1) (argL a02.len z2)) :: Cells b15 E.t_api_Answers [slV s0, slV s1, slV s2] ::
      Row E.t_uint64 1 s0 vs :: Row E.t_bool 1 s1 (bools (argL a01.len z1)) :: Row E.t_uint64 1 s2 (ints .u64 (argL a02.len z2)) :: [Cells b1 E.t_api_Answers [slV a00, slV a01, slV a02], Old w]) w') (fun st _ => (s0.len - st.1).toNat) ⟨Int.le_refl _, by show (0 : Int) ≤ _; omega, _, H27⟩ ?_
  rintro ⟨i, v⟩ _ w29 ⟨i0, i1, vs0, H29⟩
  dsimp only at i0 i1 ⊢
  refine ⟨s0, (H29.front 2 rfl).cell0 rfl, CND_dec (fun hlt => ⟨s0, (H29.front 2 rfl).cell0 rfl, ?_⟩) fun hge => ?_⟩
  · obtain ⟨a, ha⟩ := (H29.front 3 rfl).own.base_of (by omega)
    have hvl := (H29.front 3 rfl).rowLen
    rw [ha]
    refine ⟨⟨i0, by omega⟩, ?_⟩
    rw [i64_id (n := i + 1) (by omega) (by omega)]
    exact st_row (H29.front 3 rfl) (j := i.toNat) rfl (by omega) ha fun w' H' => ⟨⟨by omega, by omega, _, Sat.back 3 H'⟩, by omega⟩
  clear hge i0 i1 i H27
  refine LOOP_intro (fun st w' => 0 ≤ st.1 ∧ st.1 ≤ s1.len ∧ ∃ l1 : List Bool, Sat (RefMP E c (newV (argL a00.len z0) (argL a01.len z1) (argL a02.len z2)) :: VmemP E b (newV (argL a00.len z0) (argL a01.len z1) (argL a02.len z2)) :: Cells b15 E.t_api_Answers [slV s0, slV s1, slV s2] ::
      Row E.t_uint64 1 s0 vs0 :: Row E.t_bool 1 s1 (bools l1) :: Row E.t_uint64 1 s2 (ints .u64 (argL a02.len z2)) :: [Cells b1 E.t_api_Answers [slV a00, slV a01, slV a02], Old w]) w') (fun st _ => (s1.len - st.1).toNat) ⟨Int.le_refl _, by show (0 : Int) ≤ _; omega, _, H29⟩ ?_
  clear H29
  rintro ⟨i, v⟩ _ w36 ⟨i0, i1, l1, H36⟩
  dsimp only at i0 i1 ⊢
  refine ⟨s1, (H36.front 2 rfl).cell rfl, CND_dec (fun hlt => ?_) fun hge => ?_⟩
  · have Hd := H36.drew
    obtain ⟨a, ha⟩ := (Hd.front 4 rfl).own.base_of (by omega)
    have hvl := (Hd.front 4 rfl).rowLen
    rw [bools, List.length_map] at hvl
    obtain ⟨x, hx⟩ : ∃ x, l1[i.toNat]? = some x := ⟨_, List.getElem?_eq_getElem (by omega)⟩
    have hcell := (Hd.front 4 rfl).own.cell ha (bools_get hx)
    have hcc : w36.drew.cell? ((Addr.mk b15 0 none).add 1) = some (.slice s1.base s1.len s1.cap) := (Hd.front 2 rfl).cell rfl
    refine ⟨s1, hcc, s1, hcc, ?_⟩
    rw [ha]
    refine ⟨⟨i0, by omega⟩, x, hcell, ⟨i0, by omega⟩, ?_⟩
    rw [i64_id (n := i + 1) (by omega) (by omega)]
    refine st_row (Hd.front 4 rfl) (j := i.toNat) rfl (by rw [bools, List.length_map]; omega) ha fun w' H' => ⟨⟨by omega, by omega, l1.set i.toNat (!x), ?_⟩, by omega⟩
    have : bools (l1.set i.toNat (!x)) = (bools l1).set i.toNat (.bool !x) := by simp [bools, List.map_set]
    rw [this]
    exact Sat.back 4 H'
  clear hge i0 i1 i
  refine LOOP_intro (fun st w' => 0 ≤ st.1 ∧ st.1 ≤ s2.len ∧ ∃ l2 : List Int, Sat (RefMP E c (newV (argL a00.len z0) (argL a01.len z1) (argL a02.len z2)) :: VmemP E b (newV (argL a00.len z0) (argL a01.len z1) (argL a02.len z2)) :: Cells b15 E.t_api_Answers [slV s0, slV s1, slV s2] ::
      Row E.t_uint64 1 s0 vs0 :: Row E.t_bool 1 s1 (bools l1) :: Row E.t_uint64 1 s2 (ints .u64 l2) :: [Cells b1 E.t_api_Answers [slV a00, slV a01, slV a02], Old w]) w') (fun st _ => (s2.len - st.1).toNat) ⟨Int.le_refl _, by show (0 : Int) ≤ _; omega, _, H36⟩ ?_
  clear H36
  rintro ⟨i, v⟩ _ w46 ⟨i0, i1, l2, H46⟩
  dsimp only at i0 i1 ⊢
  refine ⟨s2, (H46.front 2 rfl).cell rfl, CND_dec (fun hlt => ?_) fun hge => ?_⟩
  · have Hd := H46.drew
    obtain ⟨a, ha⟩ := (Hd.front 5 rfl).own.base_of (by omega)
    have hvl := (Hd.front 5 rfl).rowLen
    rw [ints, List.length_map] at hvl
    obtain ⟨x, hx⟩ : ∃ x, l2[i.toNat]? = some x := ⟨_, List.getElem?_eq_getElem (by omega)⟩
    have hcell := (Hd.front 5 rfl).own.cell ha (ints_get (k := .u64) hx)
    have hcc : w46.drew.cell? ((Addr.mk b15 0 none).add 2) = some (.slice s2.base s2.len s2.cap) := (Hd.front 2 rfl).cell rfl
    refine ⟨s2, hcc, s2, hcc, ?_⟩
    rw [ha]
    refine ⟨⟨i0, by omega⟩, x, hcell, ⟨i0, by omega⟩, ?_⟩
    rw [i64_id (n := i + 1) (by omega) (by omega)]
    refine st_row (Hd.front 5 rfl) (j := i.toNat) rfl (by rw [ints, List.length_map]; omega) ha fun w' H' => ⟨⟨by omega, by omega, l2.set i.toNat (u64 (x + 1)), ?_⟩, by omega⟩
    have : ints .u64 (l2.set i.toNat (u64 (x + 1))) = (ints .u64 l2).set i.toNat (.int .u64 (u64 (x + 1))) := by simp [ints, List.map_set]
    rw [this]
    exact Sat.back 5 H'
  clear hge i0 i1 i
  have H47 := H46.perm (.swap _ _ _)
  clear H46
  refine LOOP_intro (fun st w' => ∃ (i : Nat) (V : VS), st.1 = i ∧ i ≤ l.len ∧ tot V.laid ≤ resv z i ∧ Sat (VmemP E b V :: RefMP E c V :: Cells b15 E.t_api_Answers [slV s0, slV s1, slV s2] ::
      Row E.t_uint64 1 s0 vs0 :: Row E.t_bool 1 s1 (bools l1) :: Row E.t_uint64 1 s2 (ints .u64 l2) :: [Cells b1 E.t_api_Answers [slV a00, slV a01, slV a02], Old w]) w') (fun st _ => (l.len - st.1).toNat) ⟨0, _, rfl, Nat.zero_le _, Int.le_refl _, H47⟩ ?_
  clear H47
  rintro ⟨i', v⟩ _ w56 ⟨i, V, hi, hil, hV, H56⟩
  dsimp only at hi ⊢
  subst hi
  have hri := hres i hil
  refine CND_dec (fun hlt => ?_) fun hge => ?_
  · have hik : i < l.len := by omega
    obtain ⟨x, hx, c0, c1, c2, c3, _, w1, w2', w3⟩ := vact_cells (hl.oldA (H56.old 7 rfl)) hik
    rw [hx]
    simp only [NC_some, Int.toNat_natCast]
    refine ⟨⟨by omega, by omega⟩, _, by rw [add_zero]; exact c0, _, c1, _, c2, _, c3, act_spec hE H56 (by omega) w1 w2' w3 fun V' w' H' hV' => CND_f rfl ?_⟩
    rw [i64_id (n := (i : Int) + 1) (by omega) (by omega)]
    refine ⟨⟨i + 1, V', by omega, by omega, ?_, H'⟩, by omega⟩
    show _ ≤ resv z i + _
    omega
  · exact same_spec hE H56 (by omega) fun w' H' => CND_t rfl (vawake_spec hE H' fun w'' H'' => hK w'' (H''.old 7 rfl))

theorem apart_spec {a00 a01 a02 l a2 : SlV} {z0 : Nat → Int} {z1 : Nat → Bool} {z2 : Nat → Int} {z : Nat → Int × Int × Int × Int × Unit} {z3 : Nat → Bool} (h0 : RowA w (.int .u64) a00 z0) (h1 : RowA w .bool a01 z1) (h2 : RowA w (.int .u64) a02 z2) (hl : RowA w VAct l z) (h3 : RowA w .bool a2 z3)
    {K : Bool → World → Prop} (hK : ∀ w', Ext Nothing w w' → K true w') : F.mallowlaw3_VmemApart E a00 a01 a02 l a2 K w := by
  unfold F.mallowlaw3_VmemApart
  simp only [Nat.mul_one]
  have hpl := argL_wf h0
  refine AL_cells (vs := [slV a00, slV a01, slV a02]) (Sat.start w) fun b1 w2 H2 _ => ⟨a00, H2.cell rfl, a01, H2.cell rfl, a02, H2.cell rfl, ?_⟩
  refine heavy2_spec H2 (fun w' h => hl.oldA (h.old 1 rfl)) (fun w' h => CND_t rfl (hK _ (h.old 1 rfl))) fun n1 n2 n3 n4 hres w7 H7' => CND_f rfl ?_
  have H7 := H7'.drew
  refine ⟨a00, H7.cell rfl, a01, H7.cell rfl, a02, H7.cell rfl, a00, H7.cell rfl, a01, H7.cell rfl, a02, H7.cell rfl, ?_⟩
  refine given_spec H7 (fun w' h => rowAt_arg (h0.old (h.old 1 rfl))) (argL_len _ _) (by omega) (fun w' h => rowAt_argB (h1.oldB (h.old 1 rfl))) (argL_len _ _) (by omega) (fun w' h => rowAt_arg (h2.old (h.old 1 rfl))) (argL_len _ _) (by omega) fun s0 s1 s2 w17 H17 => ?_
  refine ⟨⟨(H17.front 3 rfl).cell rfl, (H17.front 3 rfl).cell rfl, (H17.front 3 rfl).cell rfl, trivial⟩, ?_⟩
  have e0 : (argL a00.len z0).length = s0.len := by have := (H17.front 0 rfl).rowLen; rw [ints, List.length_map] at this; omega
  have e1 : (argL a01.len z1).length = s1.len := by have := (H17.front 1 rfl).rowLen; rw [bools, List.length_map] at this; omega
  have e2 : (argL a02.len z2).length = s2.len := by have := (H17.front 2 rfl).rowLen; rw [ints, List.length_map] at this; omega
  have k0 := e0; have k1 := e1; have k2 := e2
  rw [argL_len] at k0 k1 k2
  refine vnew_spec H17 hpl (fun w' h => by simpa using (h.front 0 rfl).rowAll) e0 (by omega) (fun w' h => by simpa using (h.front 1 rfl).rowAll) e1 (by omega) (fun w' h => by simpa using (h.front 2 rfl).rowAll) e2 (by omega) fun b w19 H19 => ?_
  refine ⟨⟨(H19.front 4 rfl).cell rfl, (H19.front 4 rfl).cell rfl, (H19.front 4 rfl).cell rfl, trivial⟩, ?_⟩
  have H20 : Sat (VmemP E b (newV (argL a00.len z0) (argL a01.len z1) (argL a02.len z2)) :: [Cells b1 E.t_api_Answers [slV a00, slV a01, slV a02], Old w]) w19 := (((H19.front 1 rfl).tail.front 1 rfl).tail.front 1 rfl).tail
  refine given_spec H20 (fun w' h => rowAt_arg (h0.old (h.old 2 rfl))) (argL_len _ _) (by omega) (fun w' h => rowAt_argB (h1.oldB (h.old 2 rfl))) (argL_len _ _) (by omega) (fun w' h => rowAt_arg (h2.old (h.old 2 rfl))) (argL_len _ _) (by omega) fun s0' s1' s2' w23 H23 => ?_
  clear e0 e1 e2 k0 k1 k2
  have e0 : (argL a00.len z0).length = s0'.len := by have := (H23.front 0 rfl).rowLen; rw [ints, List.length_map] at this; omega
  have e1 : (argL a01.len z1).length = s1'.len := by have := (H23.front 1 rfl).rowLen; rw [bools, List.length_map] at this; omega
  have e2 : (argL a02.len z2).length = s2'.len := by have := (H23.front 2 rfl).rowLen; rw [ints, List.length_map] at this; omega
  have k0 := e0; have k1 := e1; have k2 := e2
  rw [argL_len] at k0 k1 k2
  refine vnew_spec H23 hpl (fun w' h => by simpa using (h.front 0 rfl).rowAll) e0 (by omega) (fun w' h => by simpa using (h.front 1 rfl).rowAll) e1 (by omega) (fun w' h => by simpa using (h.front 2 rfl).rowAll) e2 (by omega) fun b2 w25 H25' => ?_
  have H25 := H25'.drew
  have H26 := (((H25.front 1 rfl).tail.front 1 rfl).tail.front 1 rfl).tail
  clear H25
  have cc := H26.front 2 rfl
  refine ⟨a00, cc.cell rfl, a01, cc.cell rfl, a02, cc.cell rfl, a00, cc.cell rfl, a01, cc.cell rfl, a02, cc.cell rfl, ?_⟩
  refine mnew_spec H26 hpl (fun w' h => rowAt_arg (h0.old (h.old 3 rfl))) (argL_len _ _) (by omega) (fun w' h => rowAt_argB (h1.oldB (h.old 3 rfl))) (argL_len _ _) (by omega) (fun w' h => rowAt_arg (h2.old (h.old 3 rfl))) (argL_len _ _) (by omega) fun c w33 H33 => ?_
  refine ⟨⟨(H33.front 3 rfl).cell rfl, (H33.front 3 rfl).cell rfl, (H33.front 3 rfl).cell rfl, trivial⟩, ?_⟩
  refine mnew_spec H33 hpl (fun w' h => rowAt_arg (h0.old (h.old 4 rfl))) (argL_len _ _) (by omega) (fun w' h => rowAt_argB (h1.oldB (h.old 4 rfl))) (argL_len _ _) (by omega) (fun w' h => rowAt_arg (h2.old (h.old 4 rfl))) (argL_len _ _) (by omega) fun c2 w35 H35 => ?_
  refine JOIN_in (CND_f rfl fun j => CND_f rfl ?_)
  -- RefMP c2, RefMP c, VmemP b2, VmemP b
  have H36 : Sat (VmemP E b (newV (argL a00.len z0) (argL a01.len z1) (argL a02.len z2)) :: RefMP E c (newV (argL a00.len z0) (argL a01.len z1) (argL a02.len z2)) :: VmemP E b2 (newV (argL a00.len z0) (argL a01.len z1) (argL a02.len z2)) :: RefMP E c2 (newV (argL a00.len z0) (argL a01.len z1) (argL a02.len z2)) :: [Cells b1 E.t_api_Answers [slV a00, slV a01, slV a02], Old w]) w35 :=
    ((H35.front 1 rfl).front 3 rfl).perm (.cons _ (.cons _ (.swap _ _ _)))
  clear H35
  refine LOOP_intro (fun st w' => ∃ (i : Nat) (V V2 : VS), st.1 = i ∧ i ≤ l.len ∧ tot V.laid ≤ resv z i ∧ tot V2.laid ≤ resv z i ∧ Sat (VmemP E b V :: RefMP E c V :: VmemP E b2 V2 :: RefMP E c2 V2 :: [Cells b1 E.t_api_Answers [slV a00, slV a01, slV a02], Old w]) w') (fun st _ => (l.len - st.1).toNat) ⟨0, _, _, rfl, Nat.zero_le _, Int.le_refl _, Int.le_refl _, H36⟩ ?_
  clear H36
  rintro ⟨i', v⟩ _ w40 ⟨i, V, V2, hi, hil, hV, hV2, H40⟩
  dsimp only at hi ⊢
  subst hi
  have hri := hres i hil
  have sw : ∀ {V V2 : VS} {b c b2 c2 : Nat} {w'}, Sat (VmemP E b V :: RefMP E c V :: VmemP E b2 V2 :: RefMP E c2 V2 :: [Cells b1 E.t_api_Answers [slV a00, slV a01, slV a02], Old w]) w' → Sat (VmemP E b2 V2 :: RefMP E c2 V2 :: VmemP E b V :: RefMP E c V :: [Cells b1 E.t_api_Answers [slV a00, slV a01, slV a02], Old w]) w' := fun h =>
    h.perm ((List.perm_append_comm (l₁ := [_, _]) (l₂ := [_, _])).append_right [Cells b1 E.t_api_Answers [slV a00, slV a01, slV a02], Old w])
  refine CND_dec (fun hlt => ?_) fun hge => ?_
  · have hik : i < l.len := by omega
    have hr2 := hres (i + 1) (by omega)
    have hrs : resv z (i + 1) = resv z i + if (z i).1 = 1 ∧ (z i).2.2.1 ≤ 134217728 then (z i).2.2.1 else 0 := rfl
    obtain ⟨x, hx, c0, c1, c2', c3, _, w1, w2', w3⟩ := vact_cells (hl.oldA (H40.old 5 rfl)) hik
    have hpos : 0 ≤ (if (z i).1 = 1 ∧ (z i).2.2.1 ≤ 134217728 then (z i).2.2.1 else 0) := by split <;> omega
    have body : ∀ t : Bool, CND t (
                NC l.base fun p47 =>
                ((0 : Int) ≤ (i : Int) ∧ ((i : Int) : Int) < (l.len : Nat)) ∧
                ∃ c48 : Int, w40.cell? ((p47.add (Int.toNat (i : Int) * 4)).add 0) = some (.int .i64 c48) ∧
                ∃ c49 : Int, w40.cell? ((p47.add (Int.toNat (i : Int) * 4)).add 1) = some (.int .u64 c49) ∧
                ∃ c50 : Int, w40.cell? ((p47.add (Int.toNat (i : Int) * 4)).add 2) = some (.int .u64 c50) ∧
                ∃ c51 : Int, w40.cell? ((p47.add (Int.toNat (i : Int) * 4)).add 3) = some (.int .u64 c51) ∧
                F.mallowlaw3_act E (some ⟨b2, 0, none⟩) (some ⟨c2, 0, none⟩) c48 c49 c50 c51 (fun r52 w53 =>
                CND (!r52) (
                  K false w53
                ) (
                  (∃ (k : Nat) (V V2 : VS), i64 ((i : Int) + 1) = k ∧ k ≤ l.len ∧ tot V.laid ≤ resv z k ∧ tot V2.laid ≤ resv z k ∧ Sat (VmemP E b V :: RefMP E c V :: VmemP E b2 V2 :: RefMP E c2 V2 :: [Cells b1 E.t_api_Answers [slV a00, slV a01, slV a02], Old w]) w53) ∧ ((l.len : Int) - i64 ((i : Int) + 1)).toNat < ((l.len : Int) - (i : Int)).toNat
                )
                ) w40
              ) (
                NC l.base fun p54 =>
                ((0 : Int) ≤ (i : Int) ∧ ((i : Int) : Int) < (l.len : Nat)) ∧
                ∃ c55 : Int, w40.cell? ((p54.add (Int.toNat (i : Int) * 4)).add 0) = some (.int .i64 c55) ∧
                ∃ c56 : Int, w40.cell? ((p54.add (Int.toNat (i : Int) * 4)).add 1) = some (.int .u64 c56) ∧
                ∃ c57 : Int, w40.cell? ((p54.add (Int.toNat (i : Int) * 4)).add 2) = some (.int .u64 c57) ∧
                ∃ c58 : Int, w40.cell? ((p54.add (Int.toNat (i : Int) * 4)).add 3) = some (.int .u64 c58) ∧
                F.mallowlaw3_act E (some ⟨b, 0, none⟩) (some ⟨c, 0, none⟩) c55 c56 c57 c58 (fun r59 w60 =>
                CND (!r59) (
                  K false w60
                ) (
                  (∃ (k : Nat) (V V2 : VS), i64 ((i : Int) + 1) = k ∧ k ≤ l.len ∧ tot V.laid ≤ resv z k ∧ tot V2.laid ≤ resv z k ∧ Sat (VmemP E b V :: RefMP E c V :: VmemP E b2 V2 :: RefMP E c2 V2 :: [Cells b1 E.t_api_Answers [slV a00, slV a01, slV a02], Old w]) w60) ∧ ((l.len : Int) - i64 ((i : Int) + 1)).toNat < ((l.len : Int) - (i : Int)).toNat
                )
                ) w40
              ) := by
      intro t
      rw [hx, i64_id (n := (i : Int) + 1) (by omega) (by omega)]
      simp only [NC_some, Int.toNat_natCast]
      cases t
      · refine CND_f rfl ⟨⟨by omega, by omega⟩, _, by rw [add_zero]; exact c0, _, c1, _, c2', _, c3, act_spec hE H40 (by omega) w1 w2' w3 fun V' w' H' hV' => CND_f rfl ⟨⟨i + 1, V', V2, by omega, by omega, by omega, by omega, H'⟩, by omega⟩⟩
      · refine CND_t rfl ⟨⟨by omega, by omega⟩, _, by rw [add_zero]; exact c0, _, c1, _, c2', _, c3, act_spec hE (sw H40) (by omega) w1 w2' w3 fun V' w' H' hV' => CND_f rfl ⟨⟨i + 1, V, V', by omega, by omega, by omega, by omega, sw H'⟩, by omega⟩⟩
    refine JOIN_in (CND_dec (fun hlt2 => ?_) fun hge2 j => body false)
    obtain ⟨y, hy, hyc⟩ := (h3.oldB (H40.old 5 rfl)).cellB (j := i) (by omega)
    rw [hy]
    exact ⟨⟨by omega, by omega⟩, _, by simpa using hyc, fun j => body _⟩
  · refine same_spec hE H40 (by omega) fun w' H' => CND_t rfl (same_spec hE (sw H') (by omega) fun w'' H'' => CND_t rfl (vawake_spec hE H'' fun w3 H3 => hK w3 (H3.old 5 rfl)))

theorem plays_spec2 {a00 a01 a02 l : SlV} {z : Nat → Int × Int × Int × Int × Unit} (h0 : ∃ z0, RowA w (.int .u64) a00 z0) (h1 : ∃ z1, RowA w .bool a01 z1) (h2 : ∃ z2, RowA w (.int .u64) a02 z2) (hl : RowA w VAct l z)
    {K : Bool → World → Prop} (hK : ∀ w', Ext Nothing w w' → K true w') : F.mallowlaw3_VmemPlays E a00 a01 a02 l K w :=
  let ⟨_, h0⟩ := h0; let ⟨_, h1⟩ := h1; let ⟨_, h2⟩ := h2; plays_spec hE h0 h1 h2 hl hK
theorem apart_spec2 {a00 a01 a02 l a2 : SlV} {z : Nat → Int × Int × Int × Int × Unit} {z3 : Nat → Bool} (h0 : ∃ z0, RowA w (.int .u64) a00 z0) (h1 : ∃ z1, RowA w .bool a01 z1) (h2 : ∃ z2, RowA w (.int .u64) a02 z2) (hl : RowA w VAct l z) (h3 : RowA w .bool a2 z3)
    {K : Bool → World → Prop} (hK : ∀ w', Ext Nothing w w' → K true w') : F.mallowlaw3_VmemApart E a00 a01 a02 l a2 K w :=
  let ⟨_, h0⟩ := h0; let ⟨_, h1⟩ := h1; let ⟨_, h2⟩ := h2; apart_spec hE h0 h1 h2 hl h3 hK
end
end Go.Sh

namespace Go.Proofs.Ytelbllakgljffaa.vmemApart
open Go.ChangeShapes Go.WideShapes Go.ChangeAt Go.RowKit
set_option linter.unusedVariables false
set_option linter.unusedSimpArgs false

theorem own : ownKnob Try.prog.godebug = none := by kernel_rfl
theorem laidOut : laidOutB Try.prog = true := by kernel_rfl

theorem walk (x : Go.Sh.ArgTs [.cons (.sl (.int .u64)) (.cons (.sl (.bool)) (.cons (.sl (.int .u64)) (.nil))), .sl (.cons (.int .i64) (.cons (.int .u64) (.cons (.int .u64) (.cons (.int .u64) (.nil))))), .sl (.bool)]) (w : World) (h : Go.Sh.argOks w [.cons (.sl (.int .u64)) (.cons (.sl (.bool)) (.cons (.sl (.int .u64)) (.nil))), .sl (.cons (.int .i64) (.cons (.int .u64) (.cons (.int .u64) (.cons (.int .u64) (.nil))))), .sl (.bool)] x) :
    Calls Try.prog 8 ⟨Go.Sh.argVals [.cons (.sl (.int .u64)) (.cons (.sl (.bool)) (.cons (.sl (.int .u64)) (.nil))), .sl (.cons (.int .i64) (.cons (.int .u64) (.cons (.int .u64) (.cons (.int .u64) (.nil))))), .sl (.bool)] x⟩ w fun e w' => e = .returned (.bool true) ∧ Below w.heap.size w w' := by
  obtain ⟨a0, a1, a2, u⟩ := x
  obtain ⟨w0, w1, w2, _⟩ := h
  obtain ⟨z1, w1⟩ := w1
  obtain ⟨z2, w2⟩ := w2
  refine (Go.Sh.fits8 _ w (fun v w' => v = .bool true ∧ Below w.heap.size w w') Go.Sh.noP ?_).2.mono ?_
  · show Go.Sh.F.mallowlaw3_VmemApart Go.Sh.env a0.1 a0.2.1 a0.2.2.1 a1 a2 (fun r w' => Value.bool r = .bool true ∧ Below w.heap.size w w') w
    exact Go.Sh.apart_spec2 Go.Sh.envS w0.1 w0.2.1 w0.2.2.1 w1 w2 fun w' h => ⟨rfl, h.below (Nat.le_refl _) fun _ f => f.elim⟩
  · intro e w' hE
    obtain ⟨v, rfl, rfl, h⟩ := hE.val
    exact ⟨rfl, h⟩

set_option maxRecDepth 100000 in
theorem lifted (os : Os) (started : os.Started) (H : Type) (enc : TypeId × Value → H) :
    ReturnsInHanded {} Try.checked os 8 .any (Rows.vmemApartSpec.pre6 enc Try.prog Try.f8 Rows.vmemApartRow.domain false) (Rows.vmemApartSpec.post enc Try.prog Try.f8 false true false false) := by
  refine returnsInHanded_of_change (C := Try.checked) own started (by kernel_rfl) Try.func8
    (ChangeSpec.witness6 (enc := enc) (C := Try.checked) false ⟨#[], #[.agg #[.slice none 0 0, .slice none 0 0, .slice none 0 0], .slice none 0 0, .slice none 0 0], []⟩ 8 (by kernel_rfl) (by kernel_rfl) (by kernel_rfl) (by kernel_rfl)) ?_
  intro W base args ds gs before hval0 hW hcnd _
  have hW' := hW
  obtain ⟨p, q, hA, hV, rfl, hfz, hnd⟩ := hW
  obtain ⟨rfl, rfl⟩ := trodVars_none hV
  have hargs := Go.Sh.args_of (P := Try.prog) (shs := [.cons (.sl (.int .u64)) (.cons (.sl (.bool)) (.cons (.sl (.int .u64)) (.nil))), .sl (.cons (.int .i64) (.cons (.int .u64) (.cons (.int .u64) (.cons (.int .u64) (.nil))))), .sl (.bool)]) (by kernel_rfl) (fun j t v ht hv => hval0 j t v (by simpa using ht) (by simpa using hv)) hA
  obtain ⟨x, hx, hok⟩ := Go.Sh.argVals_of hargs
  obtain rfl : args = ⟨Go.Sh.argVals [.cons (.sl (.int .u64)) (.cons (.sl (.bool)) (.cons (.sl (.int .u64)) (.nil))), .sl (.cons (.int .i64) (.cons (.int .u64) (.cons (.int .u64) (.cons (.int .u64) (.nil))))), .sl (.bool)] x⟩ := Array.toList_inj.1 (by simpa using hx)
  have hlen := Go.Sh.trodAll_len hA
  obtain ⟨d0, d1, d2, rfl⟩ : ∃ d0 d1 d2, ds = [d0, d1, d2] := by
    have hl : ds.length = 3 := hlen
    match ds, hl with
    | [d0, d1, d2], _ => exact ⟨d0, d1, d2, rfl⟩
  refine (walk x W hok).mono fun e W' ⟨he, bel⟩ => ?_
  subst he
  exact ⟨_, rfl, _, _, _, [], _, [], hW', trodAll_mk1 (shut_bool Try.underlying4 _), Go.Sh.trodAll_below laidOut bel (by kernel_rfl) hA, rfl, bel.frame _, fun h => by cases h⟩

theorem over : Rows.vmemApartRow.holds Try.pinned (OpenSpec.ofChange Rows.vmemApartSpec) :=
  OpenClaim.holds_of_wide 8 Try.f8 rfl rfl rfl rfl rfl rfl rfl ⟨rfl, rfl, rfl, rfl, rfl⟩ rfl rfl rfl rfl rfl (by kernel_rfl) Try.func8 (by kernel_rfl)
    (of_decide_eq_true (by kernel_rfl)) (by unfold Func.isWrapper; first | (rw [if_pos (by decide +kernel)]; kernel_rfl) | (rw [if_neg (by decide +kernel)]; exact ⟨rfl, rfl⟩))
    (fun os started H enc _ => lifted os started H enc)

/-- ████ THE STATEMENT ████ -/
theorem proved : Rows.VmemApartSaid := over
#print axioms proved
end Go.Proofs.Ytelbllakgljffaa.vmemApart
