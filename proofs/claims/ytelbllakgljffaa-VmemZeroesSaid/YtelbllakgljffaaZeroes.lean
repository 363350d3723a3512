/- The law VmemZeroes holds: for every input the Go function returns true and leaves its arguments alone. No further condition. -/
import Derived.Test.YtelbllakgljffaaV
import Derived.Test.YtelbllakgljffaaT
import Derived.Test.YtelbllakgljffaaA
import Derived.Test.YtelbllakgljffaaRows
import Derived.WalkKit
import Derived.ProofKit
import Derived.OpenShut
set_option linter.all false
set_option maxRecDepth 40000
set_option maxHeartbeats 4000000
namespace Go.Sh

theorem mem_one {a b p : Int} : mem [(a, b)] p ↔ a ≤ p ∧ p < b := by
  rw [mem_cons]
  have := mem_nil p
  simp only [this, or_false]

section
variable {E : Env} {b : Nat} {V : VS} {Rs : List Pr} {w : World}

theorem placed_nil {hint pages a : Int} (h : Placed [] hint pages a) (hh : hint ≤ 512) : a = 512 := by
  have h1 := h.low
  by_cases e : 512 < a
  · obtain ⟨m, _, _, h4⟩ := h.first 512 (by decide) (by decide) hh e
    exact absurd h4 (mem_nil _)
  · omega

theorem vcount_spec (H : Sat (VmemP E b V :: Rs) w) {k : Int} {K : Int → World → Prop}
    (hK : ∀ w', Sat (VmemP E b V :: Rs) w' → K (if k = 2 then tot V.ready else if k = 3 then tot V.rel else if k = 1 then tot V.laid - tot V.ready - tot V.rel else 0) w') :
    F.vmem_Mem_Count E (some ⟨b, 0, none⟩) k K w := countS_spec H (fun w' hw' => hK w' (H.nothing hw')) H.vok.sums

variable (hE : EnvS E)
include hE

theorem vstate_spec (H : Sat (VmemP E b V :: Rs) w) {x : Int} (h0 : 0 ≤ x) {K : Int → World → Prop}
    (hK : ∀ w', Sat (VmemP E b V :: Rs) w' → K (if inL V.laid x then if inL V.ready x then 2 else if inL V.rel x then 3 else 1 else 0) w') : F.vmem_Mem_State E (some ⟨b, 0, none⟩) x K w :=
  stateS_spec hE H h0 fun w' hw' => hK w' (H.nothing hw')

/-- The first pages that are reserved, with nothing said of places. -/
theorem reserve_first (H : Sat (VmemP E b V :: Rs) w) (hl : V.laid = []) (hp : V.pl = []) (hr : ∀ r, V.rf ≠ true :: r) {K : Int → Int → World → Prop}
    (hK : ∀ w', Sat (VmemP E b { V with rf := V.rf.tail, laid := [(512, 1024)] } :: Rs) w' → K 512 0 w') : F.vmem_Mem_Reserve E (some ⟨b, 0, none⟩) 0 512 K w := by
  refine reserve_spec hE H (by decide) (by decide) (by decide) (by decide) (fun h => by omega) (fun _ r h => absurd h (hr r)) (fun _ _ hu => ?_) fun _ _ a hc w' H' => ?_
  · exfalso
    obtain ⟨_, h | ⟨a, h1, h2⟩, _⟩ := hu
    · omega
    · rw [hl] at h1
      have := placed_nil h1 (by decide)
      omega
  · have ha : a = 512 := by
      rcases hc with ⟨p, r, h1, _⟩ | ⟨_, ⟨_, h1, _⟩ | ⟨_, _, h1, _⟩⟩
      · rw [hp] at h1; cases h1
      · rw [hl] at h1; exact placed_nil h1 (by decide)
      · rw [hl] at h1; exact placed_nil h1 (by decide)
    subst ha
    have e1 : addL V.laid 512 (512 + 512) = [(512, 1024)] := by rw [hl, addL_nil]; rfl
    have e2 : V.pl.tail = V.pl := by rw [hp]; rfl
    rw [e1, e2] at H'
    exact hK w' H'

/-- Pages that are not ready yet are made so: no refusal. -/
theorem commit_ok (H : Sat (VmemP E b V :: Rs) w) {page pages : Int} (h0 : 0 ≤ page) (p0 : 0 < pages) (p1 : page + pages ≤ 34359738368) (hl : ∀ p, page ≤ p → p < page + pages → mem V.laid p) (hn : ∃ p, page ≤ p ∧ p < page + pages ∧ ¬ mem V.ready p)
    (hr : ∀ r, V.rf ≠ true :: r) {K : Int → World → Prop} (hK : ∀ w', Sat (VmemP E b (commitV V page pages) :: Rs) w' → K 0 w') : F.vmem_Mem_Commit E (some ⟨b, 0, none⟩) page pages K w := by
  have hv := H.vok
  have c1 : cnt V.laid page (page + pages) = pages := by have := (cnt_full hv.ok1 (a := page) (b := page + pages) (by omega)).2 hl; omega
  have c2 : cnt V.ready page (page + pages) ≠ pages := fun h => by
    obtain ⟨p, h1, h2, h3⟩ := hn
    exact h3 ((cnt_full hv.ok2 (a := page) (b := page + pages) (by omega)).1 (by omega) p h1 h2)
  refine commit_spec hE H h0 (by omega) (by omega) (by omega) (fun h => absurd ⟨by omega, p1⟩ h) (fun _ h => absurd c1 h) (fun _ _ h => absurd h c2) (fun _ _ _ r h => absurd h (hr r)) fun _ _ _ _ w' H' => hK w' H'

theorem commit_again (H : Sat (VmemP E b V :: Rs) w) {page pages : Int} (h0 : 0 ≤ page) (p0 : 0 < pages) (p1 : page + pages ≤ 34359738368) (hn : ∀ p, page ≤ p → p < page + pages → mem V.ready p)
    {K : Int → World → Prop} (hK : ∀ w', Sat (VmemP E b V :: Rs) w' → K 0 w') : F.vmem_Mem_Commit E (some ⟨b, 0, none⟩) page pages K w := by
  have hv := H.vok
  have c1 : cnt V.laid page (page + pages) = pages := by have := (cnt_full hv.ok1 (a := page) (b := page + pages) (by omega)).2 fun p h1 h2 => hv.rl p (hn p h1 h2); omega
  have c2 : cnt V.ready page (page + pages) = pages := by have := (cnt_full hv.ok2 (a := page) (b := page + pages) (by omega)).2 hn; omega
  refine commit_spec hE H h0 (by omega) (by omega) (by omega) (fun h => absurd ⟨by omega, p1⟩ h) (fun _ h => absurd c1 h) (fun _ _ _ w' hw' => hK w' (H.nothing hw')) (fun _ _ h => absurd c2 h) fun _ _ h => absurd c2 h

theorem commit_refused (H : Sat (VmemP E b V :: Rs) w) {page pages : Int} (h0 : 0 ≤ page) (p0 : 0 < pages) (p1 : page + pages ≤ 34359738368) (hl : ∀ p, page ≤ p → p < page + pages → mem V.laid p) (hn : ∃ p, page ≤ p ∧ p < page + pages ∧ ¬ mem V.ready p)
    {r : List Bool} (hr : V.rf = true :: r) {K : Int → World → Prop} (hK : ∀ w', Sat (VmemP E b { V with rf := r } :: Rs) w' → K 13 w') : F.vmem_Mem_Commit E (some ⟨b, 0, none⟩) page pages K w := by
  have hv := H.vok
  have c1 : cnt V.laid page (page + pages) = pages := by have := (cnt_full hv.ok1 (a := page) (b := page + pages) (by omega)).2 hl; omega
  have c2 : cnt V.ready page (page + pages) ≠ pages := fun h => by
    obtain ⟨p, h1, h2, h3⟩ := hn
    exact h3 ((cnt_full hv.ok2 (a := page) (b := page + pages) (by omega)).1 (by omega) p h1 h2)
  refine commit_spec hE H h0 (by omega) (by omega) (by omega) (fun h => absurd ⟨by omega, p1⟩ h) (fun _ h => absurd c1 h) (fun _ _ h => absurd h c2) (fun _ _ _ r' h w' H' => ?_) fun _ _ _ h => absurd hr (h r)
  rw [hr] at h; cases h
  exact hK w' H'

theorem release_ok (H : Sat (VmemP E b V :: Rs) w) {page pages : Int} (h0 : 0 ≤ page) (p0 : 0 < pages) (p1 : page + pages ≤ 34359738368) (hn : ∀ p, page ≤ p → p < page + pages → mem V.ready p)
    {K : Int → World → Prop} (hK : ∀ w', Sat (VmemP E b (releaseV V page pages) :: Rs) w' → K 0 w') : F.vmem_Mem_Release E (some ⟨b, 0, none⟩) page pages K w := by
  have hv := H.vok
  have c2 : cnt V.ready page (page + pages) = pages := by have := (cnt_full hv.ok2 (a := page) (b := page + pages) (by omega)).2 hn; omega
  exact release_spec hE H h0 (by omega) (by omega) (by omega) (fun h => absurd ⟨by omega, p1⟩ h) (fun _ h => absurd c2 h) fun _ _ w' H' => hK w' H'

theorem vnew_nil (H : Sat Rs w) {K : Option Addr → World → Prop} (hK : ∀ b w', Sat (VmemP E b (newV [] [] []) :: Rs) w' → K (some ⟨b, 0, none⟩) w') : F.vmem_New E ⟨none, 0, 0⟩ ⟨none, 0, 0⟩ ⟨none, 0, 0⟩ K w :=
  vnew_spec (a0 := ⟨none, 0, 0⟩) (a1 := ⟨none, 0, 0⟩) (a2 := ⟨none, 0, 0⟩) H (pl := []) (rf := []) (fl := []) (by simp) (fun _ _ => show ([] : List Value) = [] from rfl) rfl (by decide) (fun _ _ => show ([] : List Value) = [] from rfl) rfl (by decide) (fun _ _ => show ([] : List Value) = [] from rfl) rfl (by decide) hK

theorem vawake_spec (H : Sat Rs w) {K : Bool → World → Prop} (hK : ∀ w', Sat Rs w' → K true w') : F.mallowlaw3_awake E K w := by
  unfold F.mallowlaw3_awake
  refine vnew_nil hE H fun b w2 H2 => CND_f rfl ?_
  refine reserve_first hE H2 rfl rfl (fun r h => by cases h) fun w5 H5 => ?_
  refine commit_ok hE H5 (by decide) (by decide) (by decide) (fun p h1 h2 => mem_one.2 ⟨by omega, by omega⟩) ⟨512, by decide, by decide, mem_nil _⟩ (fun r h => by cases h) fun w7 H7 => ?_
  refine store_spec hE H7 (by decide) (by decide) fun w9 H9 => ?_
  refine load_spec hE H9 (by decide) (by decide) fun w12 H12 => ?_
  have hr : (storeV (commitV { newV [] [] [] with rf := [], laid := [(512, 1024)] } 512 1) 4194304 5).ready = [(512, 513)] := by decide
  refine release_ok hE H12 (by decide) (by decide) (by decide) (fun p h1 h2 => ?_) fun w14 H14 => ?_
  · exact (by rw [show (newV [] [] []).rf.tail = [] from rfl]; rw [hr]; exact mem_one.2 ⟨by omega, by omega⟩)
  refine CND_t rfl (CND_t rfl (CND_t rfl (CND_t (by decide) (CND_t (by decide) (CND_t (by decide) (CND_t rfl ?_))))))
  refine vstate_spec hE H14 (by decide) fun w16 H16 => CND_t (by decide) (vcount_spec H16 fun w18 H18 => ?_)
  have : tot (releaseV (storeV (commitV { newV [] [] [] with rf := [], laid := [(512, 1024)] } 512 1) 4194304 5) 512 1).laid - tot (releaseV (storeV (commitV { newV [] [] [] with rf := [], laid := [(512, 1024)] } 512 1) 4194304 5) 512 1).ready - tot (releaseV (storeV (commitV { newV [] [] [] with rf := [], laid := [(512, 1024)] } 512 1) 4194304 5) 512 1).rel = 511 := by decide
  rw [if_neg (by decide), if_neg (by decide), if_pos rfl]
  have e : (newV [] [] []).rf.tail = [] := rfl
  rw [e, this]
  exact hK w18 H18.tail

end
end Go.Sh

set_option linter.all false
set_option maxRecDepth 40000
set_option maxHeartbeats 4000000
namespace Go.Sh

def argL {α : Type} (n : Nat) (z : Nat → α) : List α := (List.range n).map z
theorem argL_len {α : Type} (n : Nat) (z : Nat → α) : (argL n z).length = n := by simp [argL]
theorem argL_get {α : Type} {n i : Nat} (z : Nat → α) (hi : i < n) : (argL n z)[i]? = some (z i) := by simp [argL, hi]

theorem rowAt_arg {w : World} {k : IntKind} {ok : Int → Prop} {s : SlV} {z : Nat → Int} (h : RowG w (.int k) ok s z) : rowAt w s.base s.len (ints k (argL s.len z)) := by
  cases hb : s.base with
  | none =>
    have : s.len = 0 := by
      rcases Nat.eq_zero_or_pos s.len with e | e
      · exact e
      · obtain ⟨x, hx, _⟩ := h.cell1 e
        rw [hb] at hx; cases hx
    show ints k (argL s.len z) = []
    rw [this]; rfl
  | some a =>
    refine ⟨by simp [ints, argL_len], fun j v hj => ?_⟩
    have hjl : j < s.len := by
      have := (List.getElem?_eq_some_iff.1 hj).1
      simpa [ints, argL_len] using this
    rw [ints_get (argL_get z hjl)] at hj
    cases hj
    obtain ⟨x, hx, hc, _⟩ := h.cell1 hjl
    rw [hb] at hx; cases hx
    exact hc

theorem RowG.old {w w' : World} {k : IntKind} {s : SlV} {z : Nat → Int} (h : RowA w (.int k) s z) (he : Ext Nothing w w') : RowA w' (.int k) s z :=
  ⟨h.1, h.2.1, fun j hj => by
    obtain ⟨x, h1, h2, h3⟩ := h.2.2 j hj
    exact ⟨x, h1, fun i v hv => he.cell (h2 i v hv) fun f => f, h3⟩⟩

/-- A copy of a row, put behind nothing. -/
theorem app_copy {t bytes : Nat} {zs : Array Value} {a : SlV} {vs : List Value} {K : SlV → World → Prop} {Rs : List Pr} {w : World} (H : Sat Rs w) (hz : zs.size = 1) (hrow : ∀ w', Sat Rs w' → rowAt w' a.base a.len vs) (hl : vs.length = a.len) (hlen : a.len ≤ 1099511627776) (hby : bytes ≤ 8)
    (ho : ∀ v ∈ vs, v.oneCell' = true) (hK : ∀ s' w', Sat (Row t 1 s' vs :: Rs) w' → s'.len = a.len → K s' w') :
    AL (.cells ⟨[]⟩ t) w fun b1 w2 => APP t 1 bytes zs ⟨(some (Addr.mk b1 0 none)), 0, 0⟩ a w2 fun s3 w4 => K s3 w4 := by
  refine AL_intro fun w2 hb2 hs2 he2 => ?_
  have H2 : Sat (Row t 1 ⟨some ⟨w.heap.size, 0, none⟩, 0, 0⟩ [] :: Rs) w2 := H.new (P := Row t 1 ⟨some ⟨w.heap.size, 0, none⟩, 0, 0⟩ []) (D := Blk' ⟨some ⟨w.heap.size, 0, none⟩, 0, 0⟩) he2
    ⟨fun _ => Iff.rfl, own_new hb2 rfl (Nat.zero_le _) (by decide)⟩ fun k hk => by obtain ⟨x, hx, rfl⟩ := hk; cases hx; exact Nat.le_refl _
  have hm : (0 + a.len) * bytes ≤ 1099511627776 * 8 := Nat.mul_le_mul (by omega) hby
  exact APP_row H2 hz (by simpa using hrow w2 H2.tail) (by simpa using hl) ho (by simp only; omega) (by simp only; omega) fun s' w' H' hl' => hK s' w' H' (by simpa using hl')

theorem cut_self (a b : Int) : cutL [(a, b)] a b = [] := by
  simp [cutL, cut1]

theorem oneInts (k : IntKind) (l : List Int) : ∀ v ∈ ints k l, v.oneCell' = true := by intro v hv; simp [ints] at hv; obtain ⟨x, _, rfl⟩ := hv; rfl
theorem oneBools (l : List Bool) : ∀ v ∈ bools l, v.oneCell' = true := by intro v hv; simp [bools] at hv; rcases hv with ⟨_, rfl⟩ | ⟨_, rfl⟩ <;> rfl

/-- Between two rounds: so often made ready again. -/
structure FillSt (n : Int) (L : List Int) (V : VS) (i : Int) : Prop where
  laid : V.laid = [(512, 1024)]
  ready : V.ready = [(512, 512 + n)]
  rel : V.rel = []
  rf : V.rf = []
  fl : V.fl = L.drop (i * n).toNat
  wd : ∀ k j, 0 ≤ k → k < n → 0 ≤ j → j < 1024 → V.wd (512 + k) j = if i = 0 then 0 else L.getD ((i - 1) * n + k).toNat 0

/-- Between two pages of a round. -/
def FillIn (E : Env) (w : World) (b : Nat) (s6 : SlV) (L : List Int) (fl : Nat) (n i : Int) (V : VS) (st : Int × Int × Unit) (w' : World) : Prop :=
  0 ≤ st.2.1 ∧ st.2.1 ≤ n ∧ (i = 0 → st.1 = 0) ∧ (0 < i → st.1 = min (fl : Int) ((i - 1) * n + st.2.1)) ∧ Sat (VmemP E b V :: [Row E.t_uint64 1 s6 (ints .u64 L), Old w]) w'

section
variable {E : Env} (hE : EnvS E) {w : World}
include hE

theorem fills_spec {fs : SlV} {zf : Nat → Int} {rounds n : Int} (hf : RowA w (.int .u64) fs zf) (hr : -9223372036854775808 ≤ rounds ∧ rounds < 9223372036854775808) (hn : 0 ≤ n ∧ n < 18446744073709551616)
    {K : Bool → World → Prop} (hK : ∀ w', Ext Nothing w w' → K true w') : F.mallowlaw3_VmemFills E fs rounds n K w := by
  unfold F.mallowlaw3_VmemFills
  simp only [Nat.mul_one]
  have h00 : K true w := hK _ (Ext.refl _ _)
  refine JOIN_in (CND_dec (fun _ j => CND_t rfl h00) fun g1 => CND_dec (fun _ j => CND_t rfl h00) fun g2 => CND_dec (fun _ j => CND_t rfl h00) fun g3 => CND_dec (fun _ j => CND_t rfl h00) fun g4 j => CND_dec (fun _ => h00) fun g5 => ?_)
  generalize hL : argL fs.len zf = L
  have hLl : L.length = fs.len := by rw [← hL]; exact argL_len _ _
  have hrow : ∀ w', Sat [Old w] w' → rowAt w' fs.base fs.len (ints .u64 L) := fun w' h => by rw [← hL]; exact rowAt_arg (RowG.old hf (h.old 0 rfl))
  refine app_copy (Sat.start w) rfl hrow (by simp [ints, hLl]) (by omega) (by decide) (oneInts _ _) fun s6 w7 H7 hl6 => ?_
  refine vnew_spec (a0 := ⟨none, 0, 0⟩) (a1 := ⟨none, 0, 0⟩) (pl := []) (rf := []) (fl := L) H7 (by simp) (fun _ _ => show ([] : List Value) = [] from rfl) rfl (by decide) (fun _ _ => show ([] : List Value) = [] from rfl) rfl (by decide)
    (fun w' h => by have := h.rowAll; rwa [Nat.mul_one] at this) (by rw [hLl, hl6]) (by omega) fun b w9 H9 => CND_f rfl ?_
  refine reserve_first hE H9 rfl rfl (fun r h => by cases h) fun w12 H12 => ?_
  refine JOIN_in (CND_f rfl ?_)
  refine commit_ok hE H12 (by decide) (by omega) (by omega) (fun p h1 h2 => mem_one.2 ⟨by omega, by omega⟩) ⟨512, by omega, by omega, mem_nil _⟩ (fun r h => by cases h) fun w17 H17 j => CND_f rfl ?_
  obtain ⟨V, hst, hH⟩ : ∃ V, FillSt n L V 0 ∧ Sat (VmemP E b V :: [Row E.t_uint64 1 s6 (ints .u64 L), Old w]) w17 := by
    refine ⟨_, ⟨rfl, addL_nil _ _, rfl, rfl, ?_, fun k j _ _ _ _ => ?_⟩, H17⟩
    · show L.drop (cnt [] 512 (512 + n)).toNat = L.drop (0 * n).toNat
      rw [Int.zero_mul]; rfl
    · rw [if_pos rfl]
      show (if 512 ≤ 512 + k ∧ 512 + k < 512 + n ∧ inL [] (512 + k) = true then _ else (0 : Int)) = 0
      rw [if_neg (fun h => by have := h.2.2; cases this)]
  refine LOOP_intro (fun st w' => ∃ V, 0 ≤ st.2.1 ∧ st.2.1 ≤ rounds + 1 ∧ st.1 = min (fs.len : Int) ((max 0 (st.2.1 - 1)) * n) ∧ FillSt n L V st.2.1 ∧ Sat (VmemP E b V :: [Row E.t_uint64 1 s6 (ints .u64 L), Old w]) w') (fun st _ => (rounds + 1 - st.2.1).toNat)
    ⟨V, Int.le_refl _, by show (0 : Int) ≤ rounds + 1; omega, ?_, hst, hH⟩ ?_
  · show (0 : Int) = min (fs.len : Int) ((max 0 ((0 : Int) - 1)) * n)
    rw [show max 0 ((0 : Int) - 1) = 0 by omega, Int.zero_mul]; omega
  rintro ⟨nx, i, v⟩ _ w19 ⟨V, hi0, hi1, hnx, hst, H19⟩
  simp only at hi0 hi1 hnx hst ⊢
  refine CND_dec (fun hle => ?_) fun hgt => ?_
  · have hm0 : 0 ≤ (max 0 (i - 1)) * n := Int.mul_nonneg (by omega) hn.1
    have hm1 : (max 0 (i - 1)) * n ≤ 100 := by
      have := Int.mul_le_mul (show max 0 (i - 1) ≤ 10 by omega) (show n ≤ 10 by omega) hn.1 (by decide)
      omega
    refine LOOP_intro (FillIn E w b s6 L fs.len n i V) (fun st _ => (n - st.2.1).toNat)
      ⟨Int.le_refl _, hn.1, fun e => ?_, fun e => ?_, H19⟩ ?_
    · show nx = 0
      rw [hnx, e, show max 0 ((0 : Int) - 1) = 0 by omega, Int.zero_mul]; omega
    · show nx = min _ ((i - 1) * n + 0)
      rw [hnx, show max 0 (i - 1) = i - 1 by omega, Int.add_zero]
    rintro ⟨nx2, k, v⟩ _ w22 ⟨hk0, hk1, hz, hp, H22⟩
    simp only at hk0 hk1 hz hp ⊢
    refine CND_dec (fun hlt => ?_) fun hge => ?_
    · -- one page
      have hword : V.wd (512 + k) k = if i = 0 then 0 else L.getD ((i - 1) * n + k).toNat 0 := hst.wd k k hk0 hlt hk0 (by omega)
      have hload : loadV V ((512 + k) * 8192 + 8 * k) = (if i = 0 then 0 else L.getD ((i - 1) * n + k).toNat 0, 0) := by
        unfold loadV
        rw [if_neg (by omega), show ((512 + k) * 8192 + 8 * k) / 8192 = 512 + k by omega, show ((512 + k) * 8192 + 8 * k) % 8192 / 8 = k by omega, if_pos (inL_iff.2 (by rw [hst.ready]; exact mem_one.2 ⟨by omega, by omega⟩)), hword]
      have haddr : u64 ((u64 ((u64 (512 + k)) * 8192)) + (u64 (8 * k))) = (512 + k) * 8192 + 8 * k := by
        rw [u64_id (n := 512 + k) (by omega) (by omega), u64_id (n := (512 + k) * 8192) (by omega) (by omega), u64_id (n := 8 * k) (by omega) (by omega), u64_id (by omega) (by omega)]
      have hafter : ∀ (nx3 want : Int) (w26 : World), want = (if i = 0 then 0 else L.getD ((i - 1) * n + k).toNat 0) → (i = 0 → nx3 = 0) → (0 < i → nx3 = min (fs.len : Int) ((i - 1) * n + (k + 1))) → Sat (VmemP E b V :: [Row E.t_uint64 1 s6 (ints .u64 L), Old w]) w26 →
          ∀ (nxt : Int × Int × Unit → World → Prop), (∀ w', Sat (VmemP E b V :: [Row E.t_uint64 1 s6 (ints .u64 L), Old w]) w' → nxt (nx3, u64 (k + 1), ()) w') →
          F.vmem_Mem_Load E (some ⟨b, 0, none⟩) (u64 ((u64 ((u64 (512 + k)) * 8192)) + (u64 (8 * k)))) (fun r32 r33 w34 =>
                      JOIN (Bool × Unit) (fun J35 =>
                        CND ((r32 : Int) != want) (
                          J35 (true, ()) w34
                        ) (
                          J35 ((r33 : Int) != 0, ()) w34
                        )
                      ) fun s36 _ w37 =>
                        CND (s36.1) (
                          K false w37
                        ) (
                          nxt (nx3, u64 (k + 1), ()) w37
                        )
                      ) w26 := by
        intro nx3 want w26 hw _ _ H26 nxt hnxt
        rw [haddr]
        refine load_spec hE H26 (by omega) (by omega) fun w34 H34 => ?_
        rw [hload]
        exact JOIN_in (CND_f (by rw [hw]; simp) fun j => CND_f rfl (hnxt w34 H34))
      have hnext : ∀ (nx3 : Int), (i = 0 → nx3 = 0) → (0 < i → nx3 = min (fs.len : Int) ((i - 1) * n + (k + 1))) → ∀ w', Sat (VmemP E b V :: [Row E.t_uint64 1 s6 (ints .u64 L), Old w]) w' →
          (0 ≤ u64 (k + 1) ∧ u64 (k + 1) ≤ n ∧ (i = 0 → nx3 = 0) ∧ (0 < i → nx3 = min (fs.len : Int) ((i - 1) * n + u64 (k + 1))) ∧ Sat (VmemP E b V :: [Row E.t_uint64 1 s6 (ints .u64 L), Old w]) w') ∧ (n - u64 (k + 1)).toNat < (n - k).toNat := by
        intro nx3 h1 h2 w' H'
        rw [u64_id (n := k + 1) (by omega) (by omega)]
        exact ⟨⟨by omega, by omega, h1, h2, H'⟩, by omega⟩
      have hmax : 0 < i → (i - 1) * n ≤ 100 ∧ 0 ≤ (i - 1) * n := fun h => by rw [show max 0 (i - 1) = i - 1 by omega] at hm1 hm0; exact ⟨hm1, hm0⟩
      refine JOIN_in (JOIN_in (CND_dec (fun hip j => CND_dec (fun hlt2 => ?_) fun hge2 => ?_) fun hip j => CND_f rfl ?_))
      · -- a fill
        have hpv := hp hip
        have hmx := hmax hip
        have hidx : nx2 = (i - 1) * n + k := by omega
        have hnl : nx2.toNat < fs.len := by omega
        obtain ⟨x0, hx0, hc0, _⟩ := (RowG.old hf (H22.old 2 rfl)).cell1 hnl
        rw [hx0]
        simp only [NC_some]
        refine ⟨⟨by omega, hlt2⟩, zf nx2.toNat, hc0, fun j => ?_⟩
        rw [i64_id (n := nx2 + 1) (by omega) (by omega)]
        refine hafter (nx2 + 1) (zf nx2.toNat) w22 ?_ (fun e => by omega) (fun _ => by omega) H22 (fun st w' => FillIn E w b s6 L fs.len n i V st w' ∧ (n - st.2.1).toNat < (n - k).toNat) (hnext (nx2 + 1) (fun e => by omega) fun _ => by omega)
        rw [if_neg (by omega), ← hidx, List.getD_eq_getElem?_getD, ← hL, argL_get zf hnl]; rfl
      · have hpv := hp hip
        have hmx := hmax hip
        refine fun j => hafter nx2 0 w22 ?_ (fun e => by omega) (fun _ => by omega) H22 (fun st w' => FillIn E w b s6 L fs.len n i V st w' ∧ (n - st.2.1).toNat < (n - k).toNat) (hnext nx2 (fun e => by omega) fun _ => by omega)
        rw [if_neg (by omega), List.getD_eq_getElem?_getD, List.getElem?_eq_none (by omega)]; rfl
      · refine fun j => hafter nx2 0 w22 (by rw [if_pos (by omega)]) hz (fun h => by omega) H22 (fun st w' => FillIn E w b s6 L fs.len n i V st w' ∧ (n - st.2.1).toNat < (n - k).toNat) (hnext nx2 hz fun h => by omega)
    · have hke : k = n := by omega
      subst hke
      refine JOIN_in (release_ok hE H22 (by decide) (by omega) (by omega) (fun p h1 h2 => by rw [hst.ready]; exact mem_one.2 ⟨h1, h2⟩) fun w42 H42 => CND_f rfl ?_)
      have r1 : (releaseV V 512 k).ready = [] := by show cutL V.ready _ _ = _; rw [hst.ready, cut_self]
      have r2 : (releaseV V 512 k).rel = [(512, 512 + k)] := by show addL V.rel _ _ = _; rw [hst.rel, addL_nil]
      refine commit_ok hE H42 (by decide) (by omega) (by omega) (fun p h1 h2 => by show mem V.laid p; rw [hst.laid]; exact mem_one.2 ⟨by omega, by omega⟩) ⟨512, by omega, by omega, by rw [r1]; exact mem_nil _⟩ (fun r h => by have h : V.rf = true :: r := h; rw [hst.rf] at h; cases h) fun w44 H44 j => CND_f rfl ?_
      have hmm0 : 0 ≤ i * k := Int.mul_nonneg hi0 hn.1
      refine ⟨⟨_, ?_, ?_, ?_, ?_, H44⟩, ?_⟩
      · show 0 ≤ i64 (i + 1); rw [i64_id (by omega) (by omega)]; omega
      · show i64 (i + 1) ≤ rounds + 1; rw [i64_id (by omega) (by omega)]; omega
      · show nx2 = min (fs.len : Int) (max 0 (i64 (i + 1) - 1) * k)
        rw [i64_id (by omega) (by omega), show max 0 (i + 1 - 1) = i by omega]
        by_cases e : i = 0
        · subst e; rw [hz rfl, Int.zero_mul]; omega
        · rw [hp (by omega), show (i - 1) * k + k = i * k by rw [Int.sub_mul, Int.one_mul]; omega]
      · show FillSt k L (commitV (releaseV V 512 k) 512 k) (i64 (i + 1))
        rw [i64_id (by omega) (by omega)]
        have cr : ∀ p, 512 ≤ p → p ≤ 512 + k → cnt (releaseV V 512 k).rel 512 p = p - 512 := fun p h1 h2 => by rw [r2]; simp only [cnt, cnt1]; omega
        refine ⟨hst.laid, ?_, ?_, ?_, ?_, fun p j hp0 hp1 hj0 hj1 => ?_⟩
        · show addL (releaseV V 512 k).ready _ _ = _; rw [r1, addL_nil]
        · show cutL (releaseV V 512 k).rel _ _ = _; rw [r2, cut_self]
        · show V.rf.tail = _; rw [hst.rf]; rfl
        · show V.fl.drop (cnt (releaseV V 512 k).rel 512 (512 + k)).toNat = _
          rw [cr _ (by omega) (by omega), hst.fl, List.drop_drop]
          congr 1
          rw [Int.add_mul, Int.one_mul]; omega
        · rw [if_neg (by omega), show i + 1 - 1 = i by omega]
          show (if 512 ≤ 512 + p ∧ 512 + p < 512 + k ∧ inL (releaseV V 512 k).rel (512 + p) = true then V.fl.getD (cnt (releaseV V 512 k).rel 512 (512 + p)).toNat 0 else _) = _
          rw [if_pos ⟨by omega, by omega, inL_iff.2 (by rw [r2]; exact mem_one.2 ⟨by omega, by omega⟩)⟩, cr _ (by omega) (by omega), hst.fl]
          rw [List.getD_eq_getElem?_getD, List.getElem?_drop, List.getD_eq_getElem?_getD]
          congr 2
          omega
      · show (rounds + 1 - i64 (i + 1)).toNat < (rounds + 1 - i).toNat
        rw [i64_id (by omega) (by omega)]; omega
  · refine vcount_spec H19 fun w46 H46 => ?_
    rw [if_pos rfl, hst.ready]
    have : tot [((512 : Int), 512 + n)] = n := by simp [tot]; omega
    rw [this]
    exact CND_t (by simp) (vawake_spec hE H46 fun w' H' => hK w' (H'.old 2 rfl))

end
end Go.Sh

set_option linter.all false
set_option maxRecDepth 40000
set_option maxHeartbeats 4000000
namespace Go.Sh

/-- A new row, out of what is written into it at once. -/
theorem AL_row {t n : Nat} {vs : List Value} {Rs : List Pr} {w : World} (H : Sat Rs w) (hn : vs.length = n) (hl : n < 9223372036854775808) {K : Nat → World → Prop} (hK : ∀ b w', Sat (Row t 1 ⟨some ⟨b, 0, none⟩, n, n⟩ vs :: Rs) w' → K b w') : AL (.cells ⟨vs⟩ t) w K :=
  AL_intro fun w' hb hs he => hK _ _ (H.new (P := Row t 1 ⟨some ⟨w.heap.size, 0, none⟩, n, n⟩ vs) (D := Blk' ⟨some ⟨w.heap.size, 0, none⟩, n, n⟩) he
    ⟨fun _ => Iff.rfl, own_new hb (by omega) (Nat.zero_le _) hl⟩ fun k hk => by obtain ⟨x, hx, rfl⟩ := hk; cases hx; exact Nat.le_refl _)

def RefV (k : Nat) : VS := ⟨[(512, 1024)], [], [], fun _ _ => 0, [], List.replicate k true, []⟩

section
variable {E : Env} (hE : EnvS E) {w : World}
include hE

theorem refused_spec {pages n : Int} (hp : 0 ≤ pages ∧ pages < 18446744073709551616) (hn : -9223372036854775808 ≤ n ∧ n < 9223372036854775808)
    {K : Bool → World → Prop} (hK : ∀ w', Ext Nothing w w' → K true w') : F.mallowlaw3_VmemRefused E pages n K w := by
  unfold F.mallowlaw3_VmemRefused
  have h00 : K true w := hK _ (Ext.refl _ _)
  refine JOIN_in (CND_dec (fun _ j => CND_t rfl h00) fun g1 => CND_dec (fun _ j => CND_t rfl h00) fun g2 => CND_dec (fun _ j => CND_t rfl h00) fun g3 j => CND_dec (fun _ => h00) fun g4 => ?_)
  refine AL_row (Sat.start w) rfl (by decide) fun b4 w5 H5 => ?_
  refine LOOP_intro (fun st w' => ∃ i : Nat, st.2.1 = (i : Int) ∧ (i : Int) ≤ n ∧ st.1.len = i + 1 ∧ Sat [Row E.t_bool 1 st.1 (bools (false :: List.replicate i true)), Old w] w') (fun st _ => (n - st.2.1).toNat) ⟨0, rfl, by show (0 : Int) ≤ n; omega, rfl, H5⟩ ?_
  rintro ⟨s, i', v⟩ _ w7 ⟨i, hi, hil, hsl, H7⟩
  simp only at hi hsl H7 ⊢
  subst hi
  refine CND_dec (fun hlt => ?_) fun hge => ?_
  · refine AL_cells H7 fun b9 w10 H10 _ => APP_one (news := [.bool true]) H10 rfl rfl (by simp [Value.oneCell']) (by omega) (by omega) fun s11 w12 H12 hl12 => ?_
    have ei : i64 ((i : Int) + 1) = ((i + 1 : Nat) : Int) := by rw [i64_id (by omega) (by omega)]; omega
    refine ⟨⟨i + 1, ei, by omega, by show s11.len = i + 1 + 1; omega, ?_⟩, by simp only [ei]; omega⟩
    have : bools (false :: List.replicate (i + 1) true) = bools (false :: List.replicate i true) ++ [.bool true] := by
      simp only [bools, List.replicate_succ' (n := i), List.map_cons, List.map_append, List.cons_append, List.map_nil]
    rw [this]; exact H12
  · have hin : (i : Int) = n := by omega
    refine vnew_spec (a0 := ⟨none, 0, 0⟩) (a2 := ⟨none, 0, 0⟩) (pl := []) (rf := false :: List.replicate i true) (fl := []) H7 (by simp) (fun _ _ => show ([] : List Value) = [] from rfl) rfl (by decide)
      (fun w' h => by have := h.rowAll; rwa [Nat.mul_one] at this) (by simp; omega) (by omega) (fun _ _ => show ([] : List Value) = [] from rfl) rfl (by decide) fun b w9 H9 => CND_f rfl ?_
    refine reserve_first hE H9 rfl rfl (fun r h => by cases h) fun w17 H17 => CND_f rfl ?_
    have H17' : Sat (VmemP E b (RefV (i - 0)) :: [Row E.t_bool 1 s (bools (false :: List.replicate i true)), Old w]) w17 := H17
    refine LOOP_intro (fun st w' => ∃ k : Nat, st.1 = (k : Int) ∧ k ≤ i ∧ Sat (VmemP E b (RefV (i - k)) :: [Row E.t_bool 1 s (bools (false :: List.replicate i true)), Old w]) w') (fun st _ => (n - st.1).toNat) ⟨0, rfl, Nat.zero_le _, H17'⟩ ?_
    rintro ⟨k', v⟩ _ w19 ⟨k, hk, hki, H19⟩
    simp only at hk ⊢
    subst hk
    refine CND_dec (fun hlt => ?_) fun hge => ?_
    · have hrf : (RefV (i - k)).rf = true :: List.replicate (i - (k + 1)) true := by
        show List.replicate (i - k) true = _
        rw [show i - k = (i - (k + 1)) + 1 by omega, List.replicate_succ]
      have ek : i64 ((k : Int) + 1) = ((k + 1 : Nat) : Int) := by rw [i64_id (by omega) (by omega)]; omega
      refine JOIN_intro (fun _ w' => Sat (VmemP E b (RefV (i - (k + 1))) :: [Row E.t_bool 1 s (bools (false :: List.replicate i true)), Old w]) w') ⟨by decide, CND_eq (fun _ => ?_) fun _ => ?_⟩ fun st _ w23 H23 => ?_
      · exact commit_refused hE H19 (by decide) (by omega) (by omega) (fun p h1 h2 => mem_one.2 ⟨by omega, by omega⟩) ⟨512, by omega, by omega, mem_nil _⟩ hrf fun w' H' => CND_f rfl H'
      · refine reserve_spec hE H19 (by decide) (by decide) (by decide) (by decide) (fun h => by omega) (fun _ r h w' H' => ?_) (fun _ h => absurd hrf (h _)) fun _ h => absurd hrf (h _)
        rw [hrf] at h; cases h
        exact CND_f rfl H'
      · refine JOIN_in (vcount_spec H23 fun w33 H33 => ?_)
        refine CND_f ?_ (vcount_spec H33 fun w35 H35 j => CND_f ?_ ?_)
        · rw [if_neg (by decide), if_neg (by decide), if_pos rfl]; rfl
        · rw [if_pos rfl]; rfl
        · exact ⟨⟨k + 1, ek, by omega, H35⟩, by simp only [ek]; omega⟩
    · have hke : i - k = 0 := by omega
      rw [hke] at H19
      refine commit_ok hE H19 (by decide) (by omega) (by omega) (fun p h1 h2 => mem_one.2 ⟨by omega, by omega⟩) ⟨512, by omega, by omega, mem_nil _⟩ (fun r h => by cases h) fun w37 H37 => CND_t rfl (vcount_spec H37 fun w39 H39 => ?_)
      have hr : (commitV (RefV 0) 512 pages).ready = [(512, 512 + pages)] := addL_nil _ _
      rw [if_pos rfl, hr]
      refine CND_t (by simp [tot]; omega) ?_
      refine commit_again hE H39 (by decide) (by omega) (by omega) (fun p h1 h2 => by rw [hr]; exact mem_one.2 ⟨h1, h2⟩) fun w41 H41 => CND_t rfl (vawake_spec hE H41 fun w' H' => hK w' (H'.old 2 rfl))

end
end Go.Sh

set_option linter.all false
set_option maxRecDepth 40000
set_option maxHeartbeats 4000000
namespace Go.Sh

/-- Pages from 512 on are ready, and nothing else is there but what is reserved. -/
structure Plain (n : Int) (V : VS) : Prop where
  laid : V.laid = [(512, 1024)]
  ready : ∀ p, mem V.ready p ↔ 512 ≤ p ∧ p < 512 + n
  rel : V.rel = []
  rf : V.rf = []

theorem load_plain {n : Int} {V : VS} (h : Plain n V) {addr : Int} (h8 : addr % 8 = 0) (h1 : 512 ≤ addr / 8192) (h2 : addr / 8192 < 512 + n) : loadV V addr = (V.wd (addr / 8192) (addr % 8192 / 8), 0) := by
  unfold loadV
  rw [if_neg (by omega), if_pos (inL_iff.2 ((h.ready _).2 ⟨h1, h2⟩))]
theorem store_plain {n : Int} {V : VS} (h : Plain n V) {addr : Int} (h8 : addr % 8 = 0) (h1 : 512 ≤ addr / 8192) (h2 : addr / 8192 < 512 + n) : storeE V addr = 0 := by
  unfold storeE
  rw [if_neg (by omega), if_pos (inL_iff.2 ((h.ready _).2 ⟨h1, h2⟩))]

section
variable {E : Env} (hE : EnvS E) {w : World} {Rs : List Pr} {b : Nat} {V : VS}
include hE

/-- Pages are let go and made ready again. -/
theorem again_spec (H : Sat (VmemP E b V :: Rs) w) {n page pages : Int} (hV : Plain n V) (h0 : 512 ≤ page) (p0 : 0 < pages) (p1 : page + pages ≤ 512 + n) (hn : n ≤ 512) {K : Int → World → Prop} {X : World → Prop}
    (hF : ∀ V' w', Plain n V' → V'.fl = V.fl.drop pages.toNat → (∀ p i, V'.wd p i = if page ≤ p ∧ p < page + pages then V.fl.getD (p - page).toNat 0 else V.wd p i) → Sat (VmemP E b V' :: Rs) w' → K 0 w') :
    F.vmem_Mem_Release E (some ⟨b, 0, none⟩) page pages (fun r w' => CND (r != 0) (X w') (F.vmem_Mem_Commit E (some ⟨b, 0, none⟩) page pages K w')) w := by
  have hv := H.vok
  refine release_ok hE H (by omega) p0 (by omega) (fun p h1 h2 => (hV.ready p).2 ⟨by omega, by omega⟩) fun w1 H1 => CND_f rfl ?_
  have r1 : ∀ p, mem (releaseV V page pages).ready p ↔ mem V.ready p ∧ ¬ (page ≤ p ∧ p < page + pages) := fun p => mem_cutL (by omega)
  have r2 : (releaseV V page pages).rel = [(page, page + pages)] := by show addL V.rel _ _ = _; rw [hV.rel, addL_nil]
  have hv1 := H1.vok
  refine commit_ok hE H1 (by omega) p0 (by omega) (fun p h1 h2 => by show mem V.laid p; rw [hV.laid]; exact mem_one.2 ⟨by omega, by omega⟩) ⟨page, by omega, by omega, fun h => ((r1 _).1 h).2 ⟨by omega, by omega⟩⟩ (fun r h => by have h : V.rf = true :: r := h; rw [hV.rf] at h; cases h) fun w2 H2 => ?_
  have cr : ∀ p, page ≤ p → p ≤ page + pages → cnt (releaseV V page pages).rel page p = p - page := fun p h1 h2 => by rw [r2]; simp only [cnt, cnt1]; omega
  refine hF (commitV (releaseV V page pages) page pages) w2 ⟨hV.laid, fun p => ?_, ?_, ?_⟩ ?_ (fun p i => ?_) H2
  · rw [show (commitV (releaseV V page pages) page pages).ready = addL (releaseV V page pages).ready page (page + pages) from rfl, mem_addL hv1.ok2 (by omega) (by omega) (by omega), r1, hV.ready]
    omega
  · show cutL (releaseV V page pages).rel _ _ = _; rw [r2, cut_self]
  · show V.rf.tail = _; rw [hV.rf]; rfl
  · show V.fl.drop (cnt (releaseV V page pages).rel page (page + pages)).toNat = _
    rw [cr _ (by omega) (by omega)]
    congr 1; omega
  · show (if page ≤ p ∧ p < page + pages ∧ inL (releaseV V page pages).rel p = true then V.fl.getD (cnt (releaseV V page pages).rel page p).toNat 0 else (if page ≤ p ∧ p < page + pages then 0 else V.wd p i)) = _
    by_cases e : page ≤ p ∧ p < page + pages
    · rw [if_pos ⟨e.1, e.2, inL_iff.2 (by rw [r2]; exact mem_one.2 e)⟩, if_pos e, cr _ e.1 (by omega)]
    · rw [if_neg (fun h => e ⟨h.1, h.2.1⟩), if_neg e, if_neg e]

theorem keeps_spec {ws : SlV} {zs : Nat → Int} {fill page : Int} (hs : RowA w (.int .u64) ws zs) (hp : -9223372036854775808 ≤ page ∧ page < 9223372036854775808)
    {K : Bool → World → Prop} (hK : ∀ w', Ext Nothing w w' → K true w') : F.mallowlaw3_VmemKeeps E ws fill page K w := by
  unfold F.mallowlaw3_VmemKeeps
  simp only [Nat.mul_one]
  have h00 : K true w := hK _ (Ext.refl _ _)
  refine JOIN_in (CND_dec (fun _ j => CND_t rfl h00) fun g1 => CND_dec (fun _ j => CND_t rfl h00) fun g2 j => CND_dec (fun _ => h00) fun g3 => ?_)
  refine AL_row (n := 1) (Sat.start w) rfl (by decide) fun b4 w5 H5 => ?_
  refine vnew_spec (a0 := ⟨none, 0, 0⟩) (a1 := ⟨none, 0, 0⟩) (pl := []) (rf := []) (fl := [fill]) H5 (by simp) (fun _ _ => show ([] : List Value) = [] from rfl) rfl (by decide) (fun _ _ => show ([] : List Value) = [] from rfl) rfl (by decide)
    (fun w' h => by have := h.rowAll; rwa [Nat.mul_one] at this) rfl (by show 1 ≤ 1099511627776; decide) fun b w7 H7 => CND_f rfl ?_
  refine reserve_first hE H7 rfl rfl (fun r h => by cases h) fun w10 H10 => ?_
  refine JOIN_in (CND_f rfl ?_)
  refine commit_ok hE H10 (by decide) (by omega) (by omega) (fun p h1 h2 => mem_one.2 ⟨by omega, by omega⟩) ⟨512, by omega, by omega, mem_nil _⟩ (fun r h => by cases h) fun w15 H15 j => CND_f rfl ?_
  obtain ⟨V, hP, hfl, hH⟩ : ∃ V, Plain 8 V ∧ V.fl = [fill] ∧ Sat (VmemP E b V :: [Row E.t_uint64 1 ⟨some ⟨b4, 0, none⟩, 1, 1⟩ [.int .u64 fill], Old w]) w15 := by
    refine ⟨_, ⟨rfl, fun p => ?_, rfl, rfl⟩, rfl, H15⟩
    show mem (addL [] 512 (512 + 8)) p ↔ _
    rw [addL_nil]; exact mem_one
  refine LOOP_intro (fun st w' => ∃ (i : Nat) (V : VS), st.1 = (i : Int) ∧ i ≤ ws.len ∧ Plain 8 V ∧ V.fl = [fill] ∧ (∀ j : Nat, j < i → V.wd ((4194304 + 640 * (j : Int)) / 8192) ((4194304 + 640 * (j : Int)) % 8192 / 8) = zs j) ∧
      Sat (VmemP E b V :: [Row E.t_uint64 1 ⟨some ⟨b4, 0, none⟩, 1, 1⟩ [.int .u64 fill], Old w]) w') (fun st _ => (ws.len - st.1).toNat) ⟨0, V, rfl, Nat.zero_le _, hP, hfl, fun j h => by omega, hH⟩ ?_
  rintro ⟨i', v⟩ _ w17 ⟨i, V, hi, hil, hP, hfl, hwd, H17⟩
  simp only at hi ⊢
  subst hi
  have haddr : ∀ i : Nat, i < 100 → u64 ((u64 (512 * 8192)) + (u64 ((u64 ((i : Nat) : Int)) * 640))) = 4194304 + 640 * (i : Int) := fun i hi => by
    rw [u64_id (n := 512 * 8192) (by decide) (by decide), u64_id (n := (i : Int)) (by omega) (by omega), u64_id (n := (i : Int) * 640) (by omega) (by omega), u64_id (by omega) (by omega)]; omega
  refine CND_dec (fun hlt => ?_) fun hge => ?_
  · have hik : i < ws.len := by omega
    obtain ⟨x0, hx0, hc0, _⟩ := (RowG.old hs (H17.old 2 rfl)).cell1 hik
    rw [hx0]
    simp only [NC_some, Int.toNat_natCast]
    refine ⟨⟨by omega, by omega⟩, zs i, hc0, ?_⟩
    rw [haddr i (by omega)]
    have hse := store_plain hP (addr := 4194304 + 640 * (i : Int)) (by omega) (by omega) (by omega)
    refine store_spec hE H17 (by omega) (by omega) fun w22 H22 => ?_
    rw [hse]
    have ei : i64 ((i : Int) + 1) = ((i + 1 : Nat) : Int) := by rw [i64_id (by omega) (by omega)]; omega
    have hsv : storeV V (4194304 + 640 * (i : Int)) (zs i) = { V with wd := fun p k => if p = (4194304 + 640 * (i : Int)) / 8192 ∧ k = (4194304 + 640 * (i : Int)) % 8192 / 8 then zs i else V.wd p k } := by unfold storeV; rw [if_pos hse]
    refine CND_f rfl ⟨⟨i + 1, storeV V (4194304 + 640 * (i : Int)) (zs i), ei, by omega, by rw [hsv]; exact ⟨hP.laid, hP.ready, hP.rel, hP.rf⟩, by rw [hsv]; exact hfl, fun j hj => ?_, H22⟩, by simp only [ei]; omega⟩
    rw [hsv]
    show (if (4194304 + 640 * (j : Int)) / 8192 = (4194304 + 640 * (i : Int)) / 8192 ∧ (4194304 + 640 * (j : Int)) % 8192 / 8 = (4194304 + 640 * (i : Int)) % 8192 / 8 then zs i else V.wd _ _) = zs j
    by_cases e : j = i
    · subst e; rw [if_pos ⟨rfl, rfl⟩]
    · rw [if_neg (by omega), hwd j (by omega)]
  · have hin : i = ws.len := by omega
    subst hin
    rw [u64_id (n := page) (by omega) (by omega), u64_id (n := 512 + page) (by omega) (by omega)]
    refine JOIN_in (again_spec hE H17 hP (by omega) (by decide) (by omega) (by decide) fun V' w29 hP' hfl' hwd' H29 j => CND_f rfl ?_)
    have hw2 : ∀ i : Nat, i < ws.len → loadV V' (4194304 + 640 * (i : Int)) = (if (4194304 + 640 * (i : Int)) / 8192 = 512 + page then fill else zs i, 0) := fun i hi => by
      rw [load_plain hP' (by omega) (by omega) (by omega), hwd']
      by_cases e : (4194304 + 640 * (i : Int)) / 8192 = 512 + page
      · rw [if_pos e, if_pos (by omega), hfl, show ((4194304 + 640 * (i : Int)) / 8192 - (512 + page)).toNat = 0 by omega]; rfl
      · rw [if_neg e, if_neg (by omega), hwd i hi]
    refine LOOP_intro (fun st w' => ∃ (k : Nat), st.1 = (k : Int) ∧ k ≤ ws.len ∧ Sat (VmemP E b V' :: [Row E.t_uint64 1 ⟨some ⟨b4, 0, none⟩, 1, 1⟩ [.int .u64 fill], Old w]) w') (fun st _ => (ws.len - st.1).toNat) ⟨0, rfl, Nat.zero_le _, H29⟩ ?_
    rintro ⟨k', v⟩ _ w31 ⟨k, hk, hkl, H31⟩
    simp only at hk ⊢
    subst hk
    refine CND_dec (fun hlt => LET_intro fun addr ha => ?_) fun hge => ?_
    · rw [haddr k (by omega)] at ha
      have hkk : k < ws.len := by omega
      subst ha
      refine load_spec hE H31 (by omega) (by omega) fun w36 H36 => ?_
      obtain ⟨x0, hx0, hc0, _⟩ := (RowG.old hs (H36.old 2 rfl)).cell1 hkk
      rw [hx0]
      simp only [NC_some, Int.toNat_natCast]
      rw [Int.tdiv_eq_ediv_of_nonneg (by omega), u64_id (n := (4194304 + 640 * (k : Int)) / 8192) (by omega) (by omega), hw2 k hkk]
      have ek : i64 ((k : Int) + 1) = ((k + 1 : Nat) : Int) := by rw [i64_id (by omega) (by omega)]; omega
      have hend : ∀ want, want = (if (4194304 + 640 * (k : Int)) / 8192 = 512 + page then fill else zs k) → ∀ (nx : Int × Unit → World → Prop), nx (i64 ((k : Int) + 1), ()) w36 → 
          JOIN (Bool × Unit) (fun J42 => 8192 ≠ (0 : Int) ∧
            CND (decide (((4194304 + 640 * (k : Int)) / 8192 : Int) < (u64 (512 + 8)))) (
              CND (((if (4194304 + 640 * (k : Int)) / 8192 = 512 + page then fill else zs k) : Int) != want) (J42 (true, ()) w36) (J42 (((0 : Int) : Int) != 0, ()) w36)) (J42 (false, ()) w36)) fun s43 _ w44 =>
            CND (s43.1) (K false w44) (nx (i64 ((k : Int) + 1), ()) w44) := by
        intro want hw nx hnx
        subst hw
        exact JOIN_in ⟨by decide, CND_dec (fun _ => CND_f (by simp) fun j => CND_f rfl hnx) fun _ j => CND_f rfl hnx⟩
      have hI : ∀ w', Sat (VmemP E b V' :: [Row E.t_uint64 1 ⟨some ⟨b4, 0, none⟩, 1, 1⟩ [.int .u64 fill], Old w]) w' → (∃ (k_1 : Nat), i64 ((k : Int) + 1) = (k_1 : Int) ∧ k_1 ≤ ws.len ∧ Sat (VmemP E b V' :: [Row E.t_uint64 1 ⟨some ⟨b4, 0, none⟩, 1, 1⟩ [.int .u64 fill], Old w]) w') ∧ (ws.len - i64 ((k : Int) + 1)).toNat < (ws.len - (k : Int)).toNat := fun w' h =>
        ⟨⟨k + 1, ek, by omega, h⟩, by rw [ek]; omega⟩
      refine ⟨⟨by omega, by omega⟩, zs k, hc0, JOIN_in ⟨by decide, CND_eq (fun e j => hend fill (by rw [if_pos e]) (fun st w' => (∃ (k_1 : Nat), st.1 = (k_1 : Int) ∧ k_1 ≤ ws.len ∧ Sat (VmemP E b V' :: [Row E.t_uint64 1 ⟨some ⟨b4, 0, none⟩, 1, 1⟩ [.int .u64 fill], Old w]) w') ∧ (ws.len - st.1).toNat < (ws.len - (k : Int)).toNat) (hI w36 H36))
        fun e j => hend (zs k) (by rw [if_neg e]) (fun st w' => (∃ (k_1 : Nat), st.1 = (k_1 : Int) ∧ k_1 ≤ ws.len ∧ Sat (VmemP E b V' :: [Row E.t_uint64 1 ⟨some ⟨b4, 0, none⟩, 1, 1⟩ [.int .u64 fill], Old w]) w') ∧ (ws.len - st.1).toNat < (ws.len - (k : Int)).toNat) (hI w36 H36)⟩⟩
    · rw [u64_id (n := (512 + page) * 8192) (by omega) (by omega), u64_id (n := (512 + page) * 8192 + 8184) (by omega) (by omega)]
      refine load_spec hE H31 (by omega) (by omega) fun w47 H47 => ?_
      have : loadV V' ((512 + page) * 8192 + 8184) = (fill, 0) := by
        rw [load_plain hP' (by omega) (by omega) (by omega), hwd', if_pos (by omega), hfl, show (((512 + page) * 8192 + 8184) / 8192 - (512 + page)).toNat = 0 by omega]; rfl
      rw [this]
      exact CND_t (by simp) (CND_t rfl (vawake_spec hE H47 fun w' H' => hK w' (H'.old 2 rfl)))

end
end Go.Sh

set_option linter.all false
set_option maxRecDepth 40000
set_option maxHeartbeats 4000000
namespace Go.Sh

section
variable {E : Env} (hE : EnvS E) {w : World}
include hE

theorem zeroes_spec {fill a n : Int} (hf : 0 ≤ fill ∧ fill < 18446744073709551616) (ha : 0 ≤ a ∧ a < 18446744073709551616) (hn : 0 ≤ n ∧ n < 18446744073709551616)
    {K : Bool → World → Prop} (hK : ∀ w', Ext Nothing w w' → K true w') : F.mallowlaw3_VmemZeroes E fill a n K w := by
  unfold F.mallowlaw3_VmemZeroes
  have h00 : K true w := hK _ (Ext.refl _ _)
  refine JOIN_in (CND_dec (fun _ j => CND_t rfl h00) fun g1 => CND_dec (fun _ j => CND_t rfl h00) fun g2 j => ?_)
  rw [u64_id (n := a + n) (by omega) (by omega)]
  refine CND_dec (fun _ => h00) fun g3 => ?_
  generalize hL : [fill, u64 (fill + 1), u64 (fill + 2), u64 (fill + 3)] = L
  have hLL : [Value.int .u64 fill, .int .u64 (u64 (fill + 1)), .int .u64 (u64 (fill + 2)), .int .u64 (u64 (fill + 3))] = ints .u64 L := by rw [← hL]; rfl
  have hLlen : L.length = 4 := by rw [← hL]; rfl
  rw [hLL]
  refine AL_row (n := 4) (Sat.start w) (by simp [ints, hLlen]) (by decide) fun b4 w5 H5 => ?_
  refine vnew_spec (a0 := ⟨none, 0, 0⟩) (a1 := ⟨none, 0, 0⟩) (pl := []) (rf := []) (fl := L) H5 (by simp) (fun _ _ => show ([] : List Value) = [] from rfl) rfl (by decide) (fun _ _ => show ([] : List Value) = [] from rfl) rfl (by decide)
    (fun w' h => by have := h.rowAll; rwa [Nat.mul_one] at this) hLlen (by show 4 ≤ 1099511627776; decide) fun b w7 H7 => CND_f rfl ?_
  refine reserve_first hE H7 rfl rfl (fun r h => by cases h) fun w10 H10 => ?_
  refine JOIN_in (CND_f rfl ?_)
  refine commit_ok hE H10 (by decide) (by omega) (by omega) (fun p h1 h2 => mem_one.2 ⟨by omega, by omega⟩) ⟨512, by omega, by omega, mem_nil _⟩ (fun r h => by cases h) fun w15 H15 => CND_f rfl ?_
  obtain ⟨V, hP, hfl, hH⟩ : ∃ V, Plain 4 V ∧ V.fl = L ∧ Sat (VmemP E b V :: [Row E.t_uint64 1 ⟨some ⟨b4, 0, none⟩, 4, 4⟩ (ints .u64 L), Old w]) w15 := by
    refine ⟨_, ⟨rfl, fun p => ?_, rfl, rfl⟩, rfl, H15⟩
    show mem (addL [] 512 (512 + 4)) p ↔ _
    rw [addL_nil]; exact mem_one
  refine again_spec hE hH hP (by decide) (by decide) (by decide) (by decide) fun V1 w19 hP1 hfl1 hwd1 H19 j => CND_f rfl ?_
  have hL4 : ∀ k : Int, 0 ≤ k → k < 4 → L.getD k.toNat 0 = u64 (fill + k) := by
    intro k h0 h1
    have : k = 0 ∨ k = 1 ∨ k = 2 ∨ k = 3 := by omega
    rw [← hL]
    rcases this with rfl | rfl | rfl | rfl
    · show fill = u64 (fill + 0); rw [Int.add_zero, u64_id hf.1 hf.2]
    · rfl
    · rfl
    · rfl
  -- the clearing
  rw [u64_id (n := 512 * 8192) (by decide) (by decide), u64_id (n := 8 * a) (by omega) (by omega), u64_id (n := 512 * 8192 + 8 * a) (by omega) (by omega), u64_id (n := 8 * n) (by omega) (by omega), u64_id (n := 512 * 8192 + 4) (by decide) (by decide)]
  have hz0 : zeroE V1 (512 * 8192 + 8 * a) (8 * n) = 0 := by
    unfold zeroE
    rw [if_neg (by omega)]
    by_cases e : 8 * n = 0
    · rw [if_pos e]
    · rw [if_neg e, if_neg (by omega), if_pos]
      have := (cnt_full H19.vok.ok2 (a := (512 * 8192 + 8 * a) / 8192) (b := (512 * 8192 + 8 * a + 8 * n - 1) / 8192 + 1) (by omega)).2 fun p h1 h2 => (hP1.ready p).2 ⟨by omega, by omega⟩
      omega
  refine JOIN_in (zero_spec hE H19 (by omega) (by omega) (by omega) (by omega) fun w24 H24 => ?_)
  rw [hz0]
  have hV2 : zeroV V1 (512 * 8192 + 8 * a) (8 * n) = { V1 with wd := fun p i => if 512 * 8192 + 8 * a ≤ p * 8192 + i * 8 ∧ p * 8192 + i * 8 < 512 * 8192 + 8 * a + 8 * n then 0 else V1.wd p i } := by unfold zeroV; rw [if_pos hz0]
  have hok2 := H24.vok.ok2
  obtain ⟨V2, hP2, hwd2, H24, hok2⟩ : ∃ V2, Plain 4 V2 ∧ (∀ p i, V2.wd p i = if 512 * 8192 + 8 * a ≤ p * 8192 + i * 8 ∧ p * 8192 + i * 8 < 512 * 8192 + 8 * a + 8 * n then 0 else V1.wd p i) ∧ Sat (VmemP E b V2 :: [Row E.t_uint64 1 ⟨some ⟨b4, 0, none⟩, 4, 4⟩ (ints .u64 L), Old w]) w24 ∧ Ok V2.ready :=
    ⟨zeroV V1 (512 * 8192 + 8 * a) (8 * n), by rw [hV2]; exact ⟨hP1.laid, hP1.ready, hP1.rel, hP1.rf⟩, fun _ _ => by rw [hV2], H24, hok2⟩
  refine CND_f rfl (zero_spec hE H24 (by decide) (by decide) (by decide) (by decide) fun w26 H26 => ?_)
  have e11 : ∀ V, zeroE V (512 * 8192 + 4) 8 = 11 := fun V => by unfold zeroE; rw [if_pos (by decide)]
  have z11 : ∀ V, zeroV V (512 * 8192 + 4) 8 = V := fun V => by unfold zeroV; rw [if_neg (by rw [e11]; decide)]
  rw [e11]
  rw [z11] at H26
  refine CND_f rfl (zero_spec hE H26 (by decide) (by decide) (by decide) (by decide) fun w28 H28 j => ?_)
  have e12 : ∀ V : VS, Ok V.ready → (∀ p, mem V.ready p ↔ 512 ≤ p ∧ p < 512 + 4) → zeroE V (512 * 8192) 40960 = 12 := fun V hok hm => by
    unfold zeroE
    rw [if_neg (by decide), if_neg (by decide), if_neg (by decide), if_neg]
    intro h
    have h' : cnt V.ready 512 517 = 5 := h
    have := (cnt_full hok (a := 512) (b := 517) (by decide)).1 (by omega) 516 (by decide) (by decide)
    have := (hm 516).1 this
    omega
  rw [e12 _ hok2 hP2.ready]
  have z12 : ∀ V : VS, Ok V.ready → (∀ p, mem V.ready p ↔ 512 ≤ p ∧ p < 512 + 4) → zeroV V (512 * 8192) 40960 = V := fun V hok hm => by unfold zeroV; rw [if_neg (by rw [e12 V hok hm]; decide)]
  rw [z12 _ hok2 hP2.ready] at H28
  refine CND_f rfl ?_
  refine LOOP_intro (fun st w' => 0 ≤ st.1 ∧ st.1 ≤ 4096 ∧ Sat (VmemP E b V2 :: [Row E.t_uint64 1 ⟨some ⟨b4, 0, none⟩, 4, 4⟩ (ints .u64 L), Old w]) w') (fun st _ => (4096 - st.1).toNat) ⟨Int.le_refl _, by show (0 : Int) ≤ 4096; omega, H28⟩ ?_
  rintro ⟨i, v⟩ _ w30 ⟨i0, i1, H30⟩
  simp only at i0 i1 ⊢
  refine CND_dec (fun hlt => ⟨by decide, LET_intro fun want hw => ?_⟩) fun hge => vawake_spec hE H30 fun w' H' => hK w' (H'.old 2 rfl)
  rw [Int.tdiv_eq_ediv_of_nonneg i0, u64_id (n := i / 1024) (by omega) (by omega)] at hw
  rw [u64_id (n := 8 * i) (by omega) (by omega), u64_id (n := 512 * 8192 + 8 * i) (by omega) (by omega), u64_id (n := i + 1) (by omega) (by omega)]
  have hld : loadV V2 (512 * 8192 + 8 * i) = (if a ≤ i ∧ i < a + n then 0 else want, 0) := by
    rw [load_plain hP2 (by omega) (by omega) (by omega), hwd2, hwd1]
    by_cases e : a ≤ i ∧ i < a + n
    · rw [if_pos e, if_pos (by omega)]
    · rw [if_neg e, if_neg (by omega), if_pos (by omega), hfl, show (512 * 8192 + 8 * i) / 8192 - 512 = i / 1024 by omega, hL4 _ (by omega) (by omega), hw]
  have hend : ∀ x, x = (if a ≤ i ∧ i < a + n then 0 else want) → ∀ (nx : Int × Unit → World → Prop), (∀ w', Sat (VmemP E b V2 :: [Row E.t_uint64 1 ⟨some ⟨b4, 0, none⟩, 4, 4⟩ (ints .u64 L), Old w]) w' → nx (i + 1, ()) w') →
      F.vmem_Mem_Load E (some ⟨b, 0, none⟩) (512 * 8192 + 8 * i) (fun r39 r40 w41 =>
        JOIN (Bool × Unit) (fun J42 => CND ((r39 : Int) != x) (J42 (true, ()) w41) (J42 ((r40 : Int) != 0, ()) w41)) fun s43 _ w44 => CND (s43.1) (K false w44) (nx (i + 1, ()) w44)) w30 := by
    intro x hx nx hnx
    refine load_spec hE H30 (by omega) (by omega) fun w41 H41 => ?_
    rw [hld]
    exact JOIN_in (CND_f (by rw [hx]; simp) fun j => CND_f rfl (hnx w41 H41))
  have hI : ∀ w', Sat (VmemP E b V2 :: [Row E.t_uint64 1 ⟨some ⟨b4, 0, none⟩, 4, 4⟩ (ints .u64 L), Old w]) w' → (0 ≤ i + 1 ∧ i + 1 ≤ 4096 ∧ Sat (VmemP E b V2 :: [Row E.t_uint64 1 ⟨some ⟨b4, 0, none⟩, 4, 4⟩ (ints .u64 L), Old w]) w') ∧ (4096 - (i + 1)).toNat < (4096 - i).toNat := fun w' h => ⟨⟨by omega, by omega, h⟩, by omega⟩
  refine JOIN_in (JOIN_in (CND_dec (fun h1 j => ?_) fun h1 j => CND_f rfl fun j => ?_))
  · refine CND_dec (fun h2 j => ?_) fun h2 j => ?_
    · exact hend 0 (by rw [if_pos ⟨h1, h2⟩]) (fun st w' => (0 ≤ st.1 ∧ st.1 ≤ 4096 ∧ Sat (VmemP E b V2 :: [Row E.t_uint64 1 ⟨some ⟨b4, 0, none⟩, 4, 4⟩ (ints .u64 L), Old w]) w') ∧ (4096 - st.1).toNat < (4096 - i).toNat) hI
    · exact hend want (by rw [if_neg (fun h => h2 h.2)]) (fun st w' => (0 ≤ st.1 ∧ st.1 ≤ 4096 ∧ Sat (VmemP E b V2 :: [Row E.t_uint64 1 ⟨some ⟨b4, 0, none⟩, 4, 4⟩ (ints .u64 L), Old w]) w') ∧ (4096 - st.1).toNat < (4096 - i).toNat) hI
  · exact hend want (by rw [if_neg (fun h => h1 h.1)]) (fun st w' => (0 ≤ st.1 ∧ st.1 ≤ 4096 ∧ Sat (VmemP E b V2 :: [Row E.t_uint64 1 ⟨some ⟨b4, 0, none⟩, 4, 4⟩ (ints .u64 L), Old w]) w') ∧ (4096 - st.1).toNat < (4096 - i).toNat) hI

end
end Go.Sh

namespace Go.Proofs.Ytelbllakgljffaa.vmemZeroes
open Go.ChangeShapes Go.WideShapes Go.ChangeAt Go.RowKit
set_option linter.unusedVariables false
set_option linter.unusedSimpArgs false

theorem own : ownKnob Try.prog.godebug = none := by kernel_rfl
theorem laidOut : laidOutB Try.prog = true := by kernel_rfl

theorem walk (x : Go.Sh.ArgTs [.int .u64, .int .u64, .int .u64]) (w : World) (h : Go.Sh.argOks w [.int .u64, .int .u64, .int .u64] x) :
    Calls Try.prog 10 ⟨Go.Sh.argVals [.int .u64, .int .u64, .int .u64] x⟩ w fun e w' => e = .returned (.bool true) ∧ Below w.heap.size w w' := by
  obtain ⟨a0, a1, a2, u⟩ := x
  obtain ⟨w0, w1, w2, _⟩ := h
  refine (Go.Sh.fits10 _ w (fun v w' => v = .bool true ∧ Below w.heap.size w w') Go.Sh.noP ?_).2.mono ?_
  · show Go.Sh.F.mallowlaw3_VmemZeroes Go.Sh.env a0 a1 a2 (fun r w' => Value.bool r = .bool true ∧ Below w.heap.size w w') w
    exact Go.Sh.zeroes_spec Go.Sh.envS (Go.Sh.u64_wf w0) (Go.Sh.u64_wf w1) (Go.Sh.u64_wf w2) fun w' h => ⟨rfl, h.below (Nat.le_refl _) fun _ f => f.elim⟩
  · intro e w' hE
    obtain ⟨v, rfl, rfl, h⟩ := hE.val
    exact ⟨rfl, h⟩

set_option maxRecDepth 100000 in
theorem lifted (os : Os) (started : os.Started) (H : Type) (enc : TypeId × Value → H) :
    ReturnsInHanded {} Try.checked os 10 .any (Rows.vmemZeroesSpec.pre6 enc Try.prog Try.f10 Rows.vmemZeroesRow.domain false) (Rows.vmemZeroesSpec.post enc Try.prog Try.f10 false true false false) := by
  refine returnsInHanded_of_change (C := Try.checked) own started (by kernel_rfl) Try.func10
    (ChangeSpec.witness6 (enc := enc) (C := Try.checked) false ⟨#[], #[.int .u64 0, .int .u64 0, .int .u64 0], []⟩ 8 (by kernel_rfl) (by kernel_rfl) (by kernel_rfl) (by kernel_rfl)) ?_
  intro W base args ds gs before hval0 hW hcnd _
  have hW' := hW
  obtain ⟨p, q, hA, hV, rfl, hfz, hnd⟩ := hW
  obtain ⟨rfl, rfl⟩ := trodVars_none hV
  have hargs := Go.Sh.args_of (P := Try.prog) (shs := [.int .u64, .int .u64, .int .u64]) (by kernel_rfl) (fun j t v ht hv => hval0 j t v (by simpa using ht) (by simpa using hv)) hA
  obtain ⟨x, hx, hok⟩ := Go.Sh.argVals_of hargs
  obtain rfl : args = ⟨Go.Sh.argVals [.int .u64, .int .u64, .int .u64] x⟩ := Array.toList_inj.1 (by simpa using hx)
  have hlen := Go.Sh.trodAll_len hA
  obtain ⟨d0, d1, d2, rfl⟩ : ∃ d0 d1 d2, ds = [d0, d1, d2] := by
    have hl : ds.length = 3 := hlen
    match ds, hl with
    | [d0, d1, d2], _ => exact ⟨d0, d1, d2, rfl⟩
  refine (walk x W hok).mono fun e W' ⟨he, bel⟩ => ?_
  subst he
  exact ⟨_, rfl, _, _, _, [], _, [], hW', trodAll_mk1 (shut_bool Try.underlying4 _), Go.Sh.trodAll_below laidOut bel (by kernel_rfl) hA, rfl, bel.frame _, fun h => by cases h⟩

theorem over : Rows.vmemZeroesRow.holds Try.pinned (OpenSpec.ofChange Rows.vmemZeroesSpec) :=
  OpenClaim.holds_of_wide 10 Try.f10 rfl rfl rfl rfl rfl rfl rfl ⟨rfl, rfl, rfl, rfl, rfl⟩ rfl rfl rfl rfl rfl (by kernel_rfl) Try.func10 (by kernel_rfl)
    (of_decide_eq_true (by kernel_rfl)) (by unfold Func.isWrapper; first | (rw [if_pos (by decide +kernel)]; kernel_rfl) | (rw [if_neg (by decide +kernel)]; exact ⟨rfl, rfl⟩))
    (fun os started H enc _ => lifted os started H enc)

/-- ████ THE STATEMENT ████ -/
theorem proved : Rows.VmemZeroesSaid := over
#print axioms proved
end Go.Proofs.Ytelbllakgljffaa.vmemZeroes
