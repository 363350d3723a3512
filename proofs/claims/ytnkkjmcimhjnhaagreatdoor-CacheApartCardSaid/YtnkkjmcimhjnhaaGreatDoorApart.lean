/- The law CacheApart holds (its card: math/bits' table as the program's text lays it): for every input the Go function returns true and leaves its arguments alone. No further condition. -/
import Derived.Test.YtnkkjmcimhjnhaaGreatDoorY
import Derived.Test.YtnkkjmcimhjnhaaGreatDoorA
import Derived.Test.YtnkkjmcimhjnhaaGreatDoorCards
import Derived.Test.YtnkkjmcimhjnhaaGreatDoorTie
import Derived.WalkKit
import Derived.ProofKit
import Derived.OpenShut
import Derived.Deep.DeepHandedRow
import Derived.Lib.LaidTab
set_option linter.all false
set_option maxRecDepth 8000
set_option maxHeartbeats 8000000
namespace Go.Sh

theorem cls2t : clsAt 2 = (16, 1, 512, 268435456) := by decide +kernel

def TinyIn (W : SW) (U : Bits) (t : Int) : Prop := t = 0 ∨ ∃ id x, ∃ n : Nat, W.S.sp id = some x ∧ x.2.cls = 2 ∧ (n : Int) < x.2.slots ∧ U id n = true ∧ t = x.2.base + n * x.2.elem

theorem TinyIn.grow {W W' : SW} {U U' : Bits} {t : Int} (h : TinyIn W U t) (hg : Grow W U W' U') : TinyIn W' U' t := by
  rcases h with h | ⟨id, x, n, hx, hc, hn, hu, ht⟩
  · exact .inl h
  · obtain ⟨⟨x', h1, h2, h3, h4, h5⟩, h6⟩ := hg id x hx
    exact .inr ⟨id, x', n, h1, h5.trans hc, by rw [h4]; exact hn, h6 n hu, by rw [h2, h3]; exact ht⟩
theorem Served.tin {W W' : SW} {U U' : Bits} {a : Int} (h : Served W U W' U' 2 a) : TinyIn W' U' a := by
  obtain ⟨id, x, n, h1, h2, h3, h4, h5, _⟩ := h
  exact .inr ⟨id, x, n, h1, h2, h3, h4, h5⟩

theorem Served.apart {W W' : SW} {U U' M' : Bits} {k a : Int} (hI : SwInv W' U' M') (h : Served W U W' U' k a) (hk : 0 < k) (hg : Grow W U W' U') {id : Int} {x : Nat × SI} {n : Nat} (hx : W.S.sp id = some x) (hn : (n : Int) < x.2.slots) (hu : U id n = true) :
    a + (clsAt k).1 ≤ x.2.base + n * x.2.elem ∨ x.2.base + n * x.2.elem + x.2.elem ≤ a := by
  obtain ⟨j, y, m, hy, hc, hm, hum, rfl, hor⟩ := h
  obtain ⟨⟨x', h1, h2, h3, h4, _⟩, h6⟩ := hg id x hx
  have hok := (hI.sp j y hy).1
  have he : y.2.elem = (clsAt k).1 := by have := hok.el; rw [if_neg (by omega), hc] at this; exact this
  have hne : ¬ (j = id ∧ m = n) := fun e => by
    rcases hor with q | q
    · rw [e.1, hx] at q; cases q
    · rw [e.1, e.2, hu] at q; cases q
  have := slots_apart hI hy h1 hm (by rw [h4]; exact hn) hne
  rw [h2, h3, he] at this
  rw [he]; exact this

section
variable {E : Env} {w : World} {Rs Z : List Pr} {cb b h s r : Nat} (hE : EnvK E)
include hE

end
end Go.Sh


set_option linter.all false
set_option maxRecDepth 8000
set_option maxHeartbeats 8000000
namespace Go.Sh

def TinyA (W : SW) (U : Bits) (C : KS) (L : List (Int × Int)) : Prop :=
  (0 ≤ C.away ∧ C.away ≤ 16) ∧ (0 ≤ C.tiny ∧ C.tiny ≤ 281474976710640) ∧ TinyIn W U C.tiny ∧ (C.tiny ≠ 0 → ∀ g ∈ L, g.2 ≤ C.tiny + C.away ∨ C.tiny + 16 ≤ g.1)

structure ApInv (W : SW) (U M : Bits) (n : Nat) (C D : KS) (L : List (Int × Int)) : Prop where
  inv : SwInv W U M
  all : KAll W n C D
  ga : ∀ g ∈ L, g.1 < g.2 ∧ ∃ id x, ∃ m : Nat, W.S.sp id = some x ∧ (m : Int) < x.2.slots ∧ U id m = true ∧ x.2.base + m * x.2.elem ≤ g.1 ∧ g.2 ≤ x.2.base + m * x.2.elem + x.2.elem
  tc : TinyA W U C L
  td : TinyA W U D L
  ne : C.tiny ≠ 0 → C.tiny ≠ D.tiny

theorem ApInv.swap {W : SW} {U M : Bits} {n : Nat} {C D : KS} {L : List (Int × Int)} (h : ApInv W U M n C D L) : ApInv W U M n D C L :=
  ⟨h.inv, h.all.swap, h.ga, h.td, h.tc, fun g e => h.ne (by rw [← e]; exact g) e.symm⟩

theorem TinyIn.slot {W : SW} {U M : Bits} (hI : SwInv W U M) {t : Int} (h : TinyIn W U t) (h0 : t ≠ 0) : t % 16 = 0 ∧ ∃ id x, ∃ m : Nat, W.S.sp id = some x ∧ (m : Int) < x.2.slots ∧ U id m = true ∧ t = x.2.base + m * x.2.elem ∧ x.2.elem = 16 := by
  rcases h with h | ⟨id, x, m, hx, hc, hm, hu, ht⟩
  · exact absurd h h0
  · have hok := (hI.sp id x hx).1
    have h4 : x.2.elem = 16 := by have := hok.el; rw [if_neg (by omega), hc, cls2t] at this; exact this
    have h3 := hok.ba
    refine ⟨?_, id, x, m, hx, hm, hu, ht, h4⟩
    rw [ht, h4]; omega

theorem ga_apart {W W' : SW} {U U' M' : Bits} {k a : Int} {g : Int × Int} (hI' : SwInv W' U' M') (hsv : Served W U W' U' k a) (hk : 0 < k) (hg : Grow W U W' U')
    (h : g.1 < g.2 ∧ ∃ id x, ∃ m : Nat, W.S.sp id = some x ∧ (m : Int) < x.2.slots ∧ U id m = true ∧ x.2.base + m * x.2.elem ≤ g.1 ∧ g.2 ≤ x.2.base + m * x.2.elem + x.2.elem) : a + (clsAt k).1 ≤ g.1 ∨ g.2 ≤ a := by
  obtain ⟨_, id, x, m, hx, hm, hu, h1, h2⟩ := h
  have := hsv.apart hI' hk hg hx hm hu
  omega

theorem ga_grow {W W' : SW} {U U' : Bits} {g : Int × Int} (hg : Grow W U W' U')
    (h : g.1 < g.2 ∧ ∃ id x, ∃ m : Nat, W.S.sp id = some x ∧ (m : Int) < x.2.slots ∧ U id m = true ∧ x.2.base + m * x.2.elem ≤ g.1 ∧ g.2 ≤ x.2.base + m * x.2.elem + x.2.elem) :
    g.1 < g.2 ∧ ∃ id x, ∃ m : Nat, W'.S.sp id = some x ∧ (m : Int) < x.2.slots ∧ U' id m = true ∧ x.2.base + m * x.2.elem ≤ g.1 ∧ g.2 ≤ x.2.base + m * x.2.elem + x.2.elem := by
  obtain ⟨h0, id, x, m, hx, hm, hu, h1, h2⟩ := h
  obtain ⟨⟨x', q1, q2, q3, q4, _⟩, q6⟩ := hg id x hx
  exact ⟨h0, id, x', m, q1, by rw [q4]; exact hm, q6 m hu, by rw [q2, q3]; exact h1, by rw [q2, q3]; exact h2⟩

theorem ga_served {W W' : SW} {U U' M' : Bits} {k a z : Int} (hI' : SwInv W' U' M') (hk : 0 < k ∧ k < 68) (hsv : Served W U W' U' k a) (hz : 0 < z ∧ z ≤ (clsAt k).1) :
    a < a + z ∧ ∃ id x, ∃ m : Nat, W'.S.sp id = some x ∧ (m : Int) < x.2.slots ∧ U' id m = true ∧ x.2.base + m * x.2.elem ≤ a ∧ a + z ≤ x.2.base + m * x.2.elem + x.2.elem := by
  obtain ⟨id, x, m, hx, hc, hm, hu, rfl, _⟩ := hsv
  have hok := (hI'.sp id x hx).1
  have h4 : x.2.elem = (clsAt k).1 := by have := hok.el; rw [if_neg (by omega), hc] at this; exact this
  exact ⟨by omega, id, x, m, hx, hm, hu, Int.le_refl _, by rw [h4]; omega⟩

theorem TinyA.served {W W' : SW} {U U' M M' : Bits} {k a z : Int} {C C' : KS} {L : List (Int × Int)} (h : TinyA W U C L) (hI : SwInv W U M) (hI' : SwInv W' U' M') (hk : 0 < k) (hsv : Served W U W' U' k a) (hg : Grow W U W' U') (h1 : C'.tiny = C.tiny) (h2 : C'.away = C.away) (hz : 0 < z ∧ z ≤ (clsAt k).1) : TinyA W' U' C' (L ++ [(a, a + z)]) := by
  obtain ⟨q1, q2, q3, q4⟩ := h
  refine ⟨by rw [h2]; exact q1, by rw [h1]; exact q2, by rw [h1]; exact q3.grow hg, fun h0 g hg2 => ?_⟩
  rw [h1] at h0 ⊢
  rw [h2]
  rcases List.mem_append.1 hg2 with hg2 | hg2
  · exact q4 h0 g hg2
  · obtain rfl := List.mem_singleton.1 hg2
    obtain ⟨_, id, x, m, hx, hm, hu, ht, h16⟩ := q3.slot hI h0
    have := hsv.apart hI' hk hg hx hm hu
    rw [← ht, h16] at this
    show a + z ≤ C.tiny + C.away ∨ C.tiny + 16 ≤ a
    omega

theorem ap_alloc {W W' : SW} {U M U' M' : Bits} {n n' : Nat} {C D C' : KS} {L : List (Int × Int)} {k a : Int} (h : ApInv W U M n C D L) (hk : 0 < k ∧ k < 68) (hI' : SwInv W' U' M') (hA' : KAll W' n' C' D) (h1 : C'.tiny = C.tiny) (h2 : C'.away = C.away) (hsv : Served W U W' U' k a) (hg : Grow W U W' U') :
    ApInv W' U' M' n' C' D (L ++ [(a, a + (clsAt k).1)]) ∧ ∀ g ∈ L, ¬ (a < g.2 ∧ g.1 < a + (clsAt k).1) := by
  have hp := cls_at_pos (c := k) (by omega) hk.2
  refine ⟨⟨hI', hA', fun g hg2 => ?_, h.tc.served h.inv hI' hk.1 hsv hg h1 h2 ⟨by omega, Int.le_refl _⟩, h.td.served h.inv hI' hk.1 hsv hg rfl rfl ⟨by omega, Int.le_refl _⟩, by rw [h1]; exact h.ne⟩, fun g hg2 => ?_⟩
  · rcases List.mem_append.1 hg2 with hg2 | hg2
    · exact ga_grow hg (h.ga g hg2)
    · obtain rfl := List.mem_singleton.1 hg2
      exact ga_served hI' hk hsv ⟨by omega, Int.le_refl _⟩
  · have := ga_apart hI' hsv hk.1 hg (h.ga g hg2)
    omega

theorem ap_tiny {W W' : SW} {U M U' M' : Bits} {n n' : Nat} {C D C' : KS} {L : List (Int × Int)} {x a e : Int} {nw : Bool} (h : ApInv W U M n C D L) (hx : 1 ≤ x ∧ x < 16) (hr : TinyRes x C C' W U W' U' a nw e) (hI' : SwInv W' U' M') (hA' : KAll W' n' C' D) (hg : Grow W U W' U') :
    ApInv W' U' M' n' C' D (L ++ [(a, a + x)]) ∧ (∀ g ∈ L, ¬ (a < g.2 ∧ g.1 < a + x)) ∧ e = 0 ∧ 4194304 ≤ a ∧ a + x ≤ 281474976710656 ∧ (x % 8 = 0 → a % 8 = 0) ∧ (x % 4 = 0 → a % 4 = 0) ∧ (x % 2 = 0 → a % 2 = 0) ∧ a / 16 = (a + x - 1) / 16 := by
  have e16 : (clsAt 2).1 = 16 := by rw [cls2t]
  rcases hr with ⟨hb, _⟩ | ⟨_, g0, g1, rfl, _, rfl, ht, hw, rfl, rfl⟩ | ⟨_, g1, _, rfl, hsv, hbg⟩
  · exact absurd hx hb
  · obtain ⟨q1, q2, q3, q4⟩ := h.tc
    obtain ⟨m16, id, y, m, hy, hm, hu, hty, h16⟩ := q3.slot h.inv g0
    have hob := offT_bnd C.away x
    have hac := alT_cases x
    have lo : 4194304 ≤ C.tiny := by
      obtain ⟨b, hb, _⟩ := h.all.la
      have h1 := span_lo h.inv hb hy
      have h2 := slot_in (h.inv.sp id y hy).1 hm
      omega
    have al : (x % 8 = 0 → offT C.away x % 8 = 0) ∧ (x % 4 = 0 → offT C.away x % 4 = 0) ∧ (x % 2 = 0 → offT C.away x % 2 = 0) := by
      rcases hac with ⟨g, g'⟩ | ⟨g, g'⟩ | ⟨g, g'⟩ | ⟨g, g'⟩ <;> rw [g] at hob <;> omega
    refine ⟨⟨hI', hA', fun g hg2 => ?_, ⟨by rw [hw]; omega, by rw [ht]; exact q2, by rw [ht]; exact q3, fun h0 g hg2 => ?_⟩, ⟨h.td.1, h.td.2.1, h.td.2.2.1, fun h0 g hg2 => ?_⟩, by rw [ht]; exact h.ne⟩, fun g hg2 => ?_, rfl, by omega, by omega, by omega, by omega, by omega, by omega⟩
    · rcases List.mem_append.1 hg2 with hg2 | hg2
      · exact h.ga g hg2
      · obtain rfl := List.mem_singleton.1 hg2
        exact ⟨by show C.tiny + offT C.away x < C.tiny + offT C.away x + x; omega, id, y, m, hy, hm, hu, by show _ ≤ C.tiny + offT C.away x; omega, by show C.tiny + offT C.away x + x ≤ _; omega⟩
    · rw [ht, hw]
      rcases List.mem_append.1 hg2 with hg2 | hg2
      · rcases q4 g0 g hg2 with q | q
        · exact .inl (by omega)
        · exact .inr q
      · obtain rfl := List.mem_singleton.1 hg2
        exact .inl (by show C.tiny + offT C.away x + x ≤ _; omega)
    · rcases List.mem_append.1 hg2 with hg2 | hg2
      · exact h.td.2.2.2 h0 g hg2
      · obtain rfl := List.mem_singleton.1 hg2
        obtain ⟨_, id2, y2, m2, hy2, hm2, hu2, hty2, h162⟩ := h.td.2.2.1.slot h.inv h0
        have hd := h.td.1
        have := slots_apart h.inv hy hy2 hm hm2 (fun e => h.ne g0 (by
          rw [e.1] at hy
          rw [hy] at hy2
          cases hy2
          rw [hty, hty2, e.2]))
        rw [← hty, ← hty2, h16, h162] at this
        show C.tiny + offT C.away x + x ≤ D.tiny + D.away ∨ D.tiny + 16 ≤ C.tiny + offT C.away x
        omega
    · rcases q4 g0 g hg2 with q | q <;> omega
  · have had := served_addr hI' (by decide) hA' hsv
    rw [e16] at had
    have h16 := had.2.2.2 (by decide)
    have nt : ∀ {t : Int}, TinyIn W U t → t ≠ 0 → a + 16 ≤ t ∨ t + 16 ≤ a := fun {t} hti h0 => by
      obtain ⟨_, id, y, m, hy, hm, hu, hty, h16⟩ := hti.slot h.inv h0
      have := hsv.apart hI' (by decide) hg hy hm hu
      rw [e16, ← hty, h16] at this
      exact this
    have hzz : 0 < x ∧ x ≤ (clsAt 2).1 := by rw [e16]; omega
    have hap : ∀ g ∈ L, a + 16 ≤ g.1 ∨ g.2 ≤ a := fun g hg2 => by have := ga_apart hI' hsv (by decide) hg (h.ga g hg2); rwa [e16] at this
    refine ⟨⟨hI', hA', fun g hg2 => ?_, ?_, h.td.served h.inv hI' (by decide) hsv hg rfl rfl hzz, ?_⟩, fun g hg2 => by have := hap g hg2; omega, rfl, had.1, by omega, by omega, by omega, by omega, by omega⟩
    · rcases List.mem_append.1 hg2 with hg2 | hg2
      · exact ga_grow hg (h.ga g hg2)
      · obtain rfl := List.mem_singleton.1 hg2
        exact ga_served hI' (by decide) hsv hzz
    · rcases hbg with ⟨_, h1, h2⟩ | ⟨_, h1, h2⟩
      · refine ⟨by rw [h2]; omega, by rw [h1]; omega, by rw [h1]; exact hsv.tin, fun _ g hg2 => ?_⟩
        rw [h1, h2]
        rcases List.mem_append.1 hg2 with hg2 | hg2
        · rcases hap g hg2 with q | q
          · exact .inr q
          · exact .inl (by omega)
        · obtain rfl := List.mem_singleton.1 hg2
          exact .inl (Int.le_refl _)
      · exact h.tc.served h.inv hI' (by decide) hsv hg h1 h2 hzz
    · rcases hbg with ⟨_, h1, h2⟩ | ⟨_, h1, h2⟩
      · rw [h1]
        intro _ e
        by_cases d0 : D.tiny = 0
        · omega
        · have := nt h.td.2.2.1 d0
          omega
      · rw [h1]; exact h.ne
end Go.Sh


set_option linter.all false
set_option maxRecDepth 8000
set_option maxHeartbeats 8000000
namespace Go.Sh

theorem ints_at {k : IntKind} {l : List Int} {j : Nat} {v : Int} (h : l[j]? = some v) : (ints k l)[j]? = some (.int k v) := by
  unfold ints; rw [List.getElem?_map, h]; rfl
theorem kash0 (p : Int) (k : Int) (np : Bool) : (⟨p, fun _ => 0, 0, 0⟩ : KS).held k np = 0 := by unfold KS.held; split <;> rfl
theorem cnd_bne_self {α : Type} [BEq α] [LawfulBEq α] (x : α) : (x != x) = false := by simp

section
variable {E : Env} {w : World} {Rs Z : List Pr} {cb b h s r : Nat} (hE : EnvK E)

def StAp (E : Env) (cb b h s r c1 c2 n : Nat) (L : List (Int × Int)) (R : List Pr) (w' : World) : Prop :=
  ∃ C1 C2 W U M, ApInv W U M n C1 C2 L ∧ Sat (KashP E c1 cb C1 :: CentP E cb b h s r W :: KashP E c2 cb C2 :: R) w'

theorem StAp.act {c1 c2 n b15 t : Nat} {L : List (Int × Int)} {R : List Pr} {w' : World} {q : Int} (hS : StAp E cb b h s r c1 c2 n L (Cells b15 t [.pointer (some ⟨c1, 0, none⟩), .pointer (some ⟨c2, 0, none⟩)] :: R) w') (hq : q = 0 ∨ q = 1) :
    ∃ ca co CA CO W U M, ((0 : Int) ≤ q ∧ (q : Int) < (2 : Nat)) ∧ w'.cell? ((Addr.mk b15 0 none).add (Int.toNat q * 1)) = some (.pointer (some ⟨ca, 0, none⟩)) ∧ ApInv W U M n CA CO L ∧ Sat (KashP E ca cb CA :: CentP E cb b h s r W :: KashP E co cb CO :: Cells b15 t [.pointer (some ⟨c1, 0, none⟩), .pointer (some ⟨c2, 0, none⟩)] :: R) w' ∧
      ∀ n' L' R' w'' CA' W' U' M', ApInv W' U' M' n' CA' CO L' → Sat (KashP E ca cb CA' :: CentP E cb b h s r W' :: KashP E co cb CO :: R') w'' → StAp E cb b h s r c1 c2 n' L' R' w'' := by
  obtain ⟨C1, C2, W, U, M, hA, H⟩ := hS
  rcases hq with rfl | rfl
  · exact ⟨c1, c2, C1, C2, W, U, M, ⟨by decide, by decide⟩, (H.front 3 rfl).cell rfl, hA, H, fun n' L' R' w'' CA' W' U' M' h1 h2 => ⟨CA', C2, W', U', M', h1, h2⟩⟩
  · exact ⟨c2, c1, C2, C1, W, U, M, ⟨by decide, by decide⟩, (H.front 3 rfl).cell rfl, hA.swap, (H.front 2 rfl).front2 1 rfl, fun n' L' R' w'' CA' W' U' M' h1 h2 => ⟨C1, CA', W', U', M', h1.swap, (h2.front 2 rfl).front2 1 rfl⟩⟩

include hE

theorem apart20_spec (hT : TabAt E.g_math_bits_deBruijn64tab w) {a0 a1 : SlV} {z0 : Nat → Int} {z1 : Nat → Bool} (h0 : RowA w (.int .i64) a0 z0) (h1 : RowA w .bool a1 z1) {K : Bool → World → Prop} (hK : ∀ w', Ext Nothing w w' → K true w') : F.mallowlaw20_CacheApart E a0 a1 K w := by
  unfold F.mallowlaw20_CacheApart T0.mallowlaw20_CacheApart
  refine JOIN_intro (fun st w' => w' = w ∧ (st.1 = false → a0.len ≤ 120)) (CND_dec (fun _ => ⟨rfl, fun h => by cases h⟩) fun g1 => ⟨rfl, fun _ => by omega⟩) ?_
  rintro ⟨st, u⟩ _ w3 ⟨rfl, hc⟩
  dsimp only at hc ⊢
  refine CND_intro (fun _ => hK w3 (Ext.refl _ _)) fun hst => ?_
  have hlen := hc hst
  refine table_spec (Sat.start w3) fun r4 w5 H5 => ?_
  have hl := H5.recLen (by decide) cls4_len
  rw [cls_len] at hl
  have hTT : ∀ {Y : List Pr} {w'} (i : Nat), Sat Y w' → Y[i]? = some (Old w3) → TabAt E.g_math_bits_deBruijn64tab w' := fun i h hi => hT.ext (h.old i hi)
  have haw : ∀ {Y : List Pr} {w'} (i : Nat), Sat Y w' → Y[i]? = some (Old w3) → F.mallowlaw20_awake E (fun r6 w7 => K r6 w7) w' := fun i h' hi => awake20_spec hE (fun w' h => hTT i h hi) h' fun w7 H7 => hK w7 (H7.old i hi)
  have ct : ∀ k : Int, 0 ≤ k → k < 68 → ∃ x, r4.base = some ⟨x, 0, none⟩ ∧ ∀ {w'} {Y : List Pr} (i : Nat), Sat Y w' → Y[i]? = some (Row E.t_api_Class 4 r4 (recs cls4 clsT)) → w'.cell? ((Addr.mk x 0 none).add (Int.toNat k * 4)) = some (.int .i64 (clsAt k).1) := fun k c0 c1 => by
    obtain ⟨x, hx⟩ := H5.recBase (by decide) cls4_len (i := k.toNat) (by rw [cls_len]; omega)
    refine ⟨x, hx, fun i h hi => ?_⟩
    have := (h.front i hi).recCell cls4_len hx (cls_at c0 c1) (j := 0) rfl; rwa [Nat.add_zero] at this
  refine fresh20_nil (E := E) H5 fun cb b h s r w7 H7 => JOIN_in (CND_f rfl fun _ => CND_f (by rw [show ((r4.len : Nat) : Int) = 68 by omega]; rfl) ?_)
  refine kanew_spec (p := 0) H7 fun c1 w12 H12 => ?_
  refine kanew_spec (p := 1) (H12.front 1 rfl) fun c2 w14 H14 => ?_
  refine AL_cells (vs := [.pointer (some ⟨c1, 0, none⟩), .pointer (some ⟨c2, 0, none⟩)]) H14 fun b15 w16 H16 _ => ?_
  refine JOIN_in ⟨⟨by decide, by decide⟩, _, H16.cell rfl, CND_f rfl ⟨⟨by decide, by decide⟩, _, H16.cell rfl, fun _ => CND_f rfl ?_⟩⟩
  have R0 : ∀ p k np, (⟨p, fun _ => 0, 0, 0⟩ : KS).held k np = 0 := kash0
  have hA0 : ApInv (SW.new (HS.new (newV [] [] []))) bits0 bits0 0 ⟨0, fun _ => 0, 0, 0⟩ ⟨1, fun _ => 0, 0, 0⟩ [] := by
    have ht : ∀ p, TinyA (SW.new (HS.new (newV [] [] []))) bits0 ⟨p, fun _ => 0, 0, 0⟩ [] := fun p => ⟨⟨Int.le_refl _, by show (0 : Int) ≤ 16; decide⟩, ⟨Int.le_refl _, by show (0 : Int) ≤ _; decide⟩, .inl rfl, fun g => absurd rfl g⟩
    exact ⟨SwInv.new [] [] [], ⟨⟨fun x hx => (by cases hx), fun x hx => (by cases hx), rfl, Int.le_refl _, by decide⟩, ⟨512, LaidB.new [], by decide⟩, Nat.le_refl _, fun k np => .inl (R0 _ k np), fun k np => .inl (R0 _ k np), fun k np g => absurd (R0 _ k np) g⟩, fun g hg => (by cases hg), ht 0, ht 1, fun g => absurd rfl g⟩
  have H17 : Sat (KashP E c1 cb ⟨0, fun _ => 0, 0, 0⟩ :: CentP E cb b h s r (SW.new (HS.new (newV [] [] []))) :: KashP E c2 cb ⟨1, fun _ => 0, 0, 0⟩ :: Cells b15 E.t__cache_Cache [.pointer (some ⟨c1, 0, none⟩), .pointer (some ⟨c2, 0, none⟩)] :: Row E.t_uint64 1 ⟨none, 0, 0⟩ (ints .u64 []) :: Row E.t_uint64 1 ⟨none, 0, 0⟩ (ints .u64 []) :: [Row E.t_api_Class 4 r4 (recs cls4 clsT), Old w3]) w16 := by
    have Hn := (H16.nil E.t_uint64 1).nil E.t_uint64 1
    have h1 : Sat (Row E.t_uint64 1 ⟨none, 0, 0⟩ (ints .u64 []) :: Row E.t_uint64 1 ⟨none, 0, 0⟩ (ints .u64 []) :: Cells b15 E.t__cache_Cache [.pointer (some ⟨c1, 0, none⟩), .pointer (some ⟨c2, 0, none⟩)] :: KashP E c2 cb ⟨1, fun _ => 0, 0, 0⟩ :: CentP E cb b h s r (SW.new (HS.new (newV [] [] []))) :: KashP E c1 cb ⟨0, fun _ => 0, 0, 0⟩ :: [Row E.t_api_Class 4 r4 (recs cls4 clsT), Old w3]) w16 := by
      first
        | exact Hn
        | exact Hn.perm (.cons _ (.cons _ (.cons _ (.cons _ (.swap _ _ _)))))
    exact (((h1.front 2 rfl).front 3 rfl).front 4 rfl).front 5 rfl
  refine LOOP_intro (fun st w' => ∃ (i : Nat) (L : List (Int × Int)), st.2.2.1 = (i : Int) ∧ i ≤ a0.len ∧ L.length = i ∧ StAp E cb b h s r c1 c2 (2 * i) L (Cells b15 E.t__cache_Cache [.pointer (some ⟨c1, 0, none⟩), .pointer (some ⟨c2, 0, none⟩)] :: Row E.t_uint64 1 st.1 (ints .u64 (L.map (·.1))) :: Row E.t_uint64 1 st.2.1 (ints .u64 (L.map (·.2))) :: [Row E.t_api_Class 4 r4 (recs cls4 clsT), Old w3]) w') (fun st _ => ((a0.len : Int) - st.2.2.1).toNat)
    ⟨0, [], rfl, Nat.zero_le _, rfl, _, _, _, _, _, hA0, H17⟩ ?_
  rintro ⟨sl1, sl2, i', u⟩ _ w23 ⟨i, L, hi, hil, hLl, hS⟩
  dsimp only at hi hS ⊢
  subst hi
  refine CND_dec (fun hlt => ?_) fun hge => ?_
  rotate_left
  · obtain ⟨C1, C2, W, U, M, hA, H⟩ := hS
    exact haw 7 H rfl
  have hi1 : i64 ((i : Int) + 1) = ((i + 1 : Nat) : Int) := by rw [i64_id (by omega) (by omega)]; rfl
  rw [hi1]
  have hold : Ext Nothing w3 w23 := by
    obtain ⟨C1, C2, W, U, M, hA, H⟩ := hS
    exact H.old 7 rfl
  obtain ⟨q0, hq0, hcell0, hwf0⟩ := h0.cell1 (show i < a0.len by omega)
  have hz0 := i64_wf hwf0
  have rd0 : w23.cell? (q0.add (Int.toNat (i : Int) * 1)) = some (.int .i64 (z0 i)) := by
    rw [Int.toNat_natCast, Nat.mul_one]; exact hold.cell hcell0 fun f => f
  have hri : (0 : Int) ≤ (i : Int) ∧ (i : Int) < (a0.len : Nat) := ⟨by omega, by omega⟩
  refine JOIN_intro (fun st w' => w' = w23 ∧ (st.1 = 0 ∨ st.1 = 1)) ?_ ?_
  · refine JOIN_intro (fun st w' => w' = w23) (CND_dec (fun g => ?_) fun _ => rfl) ?_
    · obtain ⟨q3, hq3, hc3⟩ := h1.cellB (show i < a1.len by omega)
      rw [hq3]
      exact NC_in ⟨⟨by omega, by omega⟩, z1 i, by rw [Int.toNat_natCast, Nat.mul_one]; exact hold.cell hc3 fun f => f, rfl⟩
    · rintro ⟨bk, u⟩ _ w30 rfl
      exact CND_intro (fun _ => ⟨rfl, .inr rfl⟩) fun _ => ⟨rfl, .inl rfl⟩
  rintro ⟨qa, u⟩ _ w27 ⟨rfl, hqa⟩
  dsimp only at hqa ⊢
  rw [hq0]
  generalize z0 i = x at rd0 hz0
  obtain ⟨ca, co, CA, CO, W, U, M, hqr, hqc, hA, H27, back⟩ := hS.act hqa
  refine JOIN_intro (fun st w' => st.2.2.1 = 0 ∧ 4194304 ≤ st.1 ∧ 0 < st.2.1 ∧ st.1 + st.2.1 ≤ 281474976710656 ∧ (∀ g ∈ L, ¬ (st.1 < g.2 ∧ g.1 < st.1 + st.2.1)) ∧ StAp E cb b h s r c1 c2 (2 * i + 2) (L ++ [(st.1, st.1 + st.2.1)]) (Cells b15 E.t__cache_Cache [.pointer (some ⟨c1, 0, none⟩), .pointer (some ⟨c2, 0, none⟩)] :: Row E.t_uint64 1 sl1 (ints .u64 (L.map (·.1))) :: Row E.t_uint64 1 sl2 (ints .u64 (L.map (·.2))) :: [Row E.t_api_Class 4 r4 (recs cls4 clsT), Old w3]) w') ?_ ?_
  · refine NC_in ⟨hri, x, rd0, CND_dec (fun hneg => ?_) fun hpos => ?_⟩
    · refine NC_in ⟨hri, x, rd0, by decide, LET_intro fun m hm => ⟨hqr, _, hqc, ?_⟩⟩
      have e1 : i64 (x + 1) = x + 1 := i64_id (by omega) (by omega)
      have e2 : i64 (0 - (x + 1)) = -(x + 1) := by rw [i64_id (by omega) (by omega)]; omega
      rw [e1, e2, Int.tmod_eq_emod_of_nonneg (by omega)] at hm
      have hm1 : 0 ≤ m ∧ m < 15 := by omega
      have e3 : i64 (m + 1) = m + 1 := i64_id (by omega) (by omega)
      have e4 : u64 (m + 1) = m + 1 := u64_id (by omega) (by omega)
      rw [e3, e4]
      have hx : 1 ≤ m + 1 ∧ m + 1 < 16 := by omega
      generalize m + 1 = y at hx
      refine katinyS_spec hE (fun w' h' => hTT 5 h' rfl) (n := 2 * i) (by omega) H27 hA.inv hA.all hA.tc.1 ⟨hA.tc.2.1.1, by have := hA.tc.2.1.2; omega⟩ fun a nw e C' W' U' M' hres hI' hA' hgr w45 H45 => ?_
      obtain ⟨k1, k2, rfl, k4, k5, k6, k7, k8, k9⟩ := ap_tiny hA hx hres hI' hA' hgr
      have t8 : Int.tmod a 8 = a % 8 := Int.tmod_eq_emod_of_nonneg (by omega)
      have t4 : Int.tmod a 4 = a % 4 := Int.tmod_eq_emod_of_nonneg (by omega)
      have t2 : Int.tmod a 2 = a % 2 := Int.tmod_eq_emod_of_nonneg (by omega)
      have y8 : Int.tmod y 8 = y % 8 := Int.tmod_eq_emod_of_nonneg (by omega)
      have y4 : Int.tmod y 4 = y % 4 := Int.tmod_eq_emod_of_nonneg (by omega)
      have y2 : Int.tmod y 2 = y % 2 := Int.tmod_eq_emod_of_nonneg (by omega)
      have d1 : u64 (Int.tdiv (u64 ((u64 (a + y)) - 1)) 16) = u64 (Int.tdiv a 16) := by
        rw [u64_id (n := a + y) (by omega) (by omega), u64_id (n := a + y - 1) (by omega) (by omega), Int.tdiv_eq_ediv_of_nonneg (by omega), Int.tdiv_eq_ediv_of_nonneg (by omega), k9]
      rw [t8, t4, t2, y8, y4, y2, d1]
      refine JOIN_intro (fun st w' => w' = w45 ∧ st.1 = false) ?_ ?_
      · refine ⟨by decide, ?_⟩
        repeat' first
          | (refine And.intro (by decide) ?_)
          | (refine CND_eq (fun _ => ?_) fun _ => ?_)
          | (refine CND_ne (fun _ => ?_) fun _ => ?_)
          | (exact ⟨rfl, cnd_bne_self _⟩)
          | (exfalso; omega)
      · rintro ⟨s47, u⟩ _ w48 ⟨rfl, h47⟩
        refine CND_f h47 ⟨rfl, k4, by show 0 < y; omega, k5, k2, ?_⟩
        exact back _ _ _ _ C' W' U' M' k1 H45
    · refine NC_in ⟨hri, x, rd0, by decide, LET_intro fun m hm => ⟨hqr, _, hqc, by decide, ?_⟩⟩
      rw [Int.tmod_eq_emod_of_nonneg (by omega), i64_id (by omega) (by omega)] at hm
      have hk : 0 < m ∧ m < 68 := by omega
      refine kaserve_spec hE (fun w' h' => hTT 5 h' rfl) (n := 2 * i) (by omega) H27 hA.inv hA.all hk fun a C' W' U' M' hI' hA' ht ha hoth hsv hgr w55 H55 => ?_
      obtain ⟨k1, k2⟩ := ap_alloc hA hk hI' hA' ht ha hsv hgr
      obtain ⟨d1, d2, d3, d4⟩ := served_addr hI' hk hA' hsv
      have hcp := cls_at_pos (c := m) (by omega) hk.2
      obtain ⟨tx, htx, htc⟩ := ct m (by omega) hk.2
      rw [htx]
      refine NC_in ⟨⟨by omega, by omega⟩, _, htc 6 H55 rfl, ?_⟩
      have e4 : u64 (clsAt m).1 = (clsAt m).1 := u64_id (by omega) (by omega)
      rw [e4]
      have t8 : Int.tmod a 8 = a % 8 := Int.tmod_eq_emod_of_nonneg (by omega)
      have t16 : Int.tmod a 16 = a % 16 := Int.tmod_eq_emod_of_nonneg (by omega)
      have c16 : Int.tmod (clsAt m).1 16 = (clsAt m).1 % 16 := Int.tmod_eq_emod_of_nonneg (by omega)
      rw [t8, t16, c16]
      refine JOIN_intro (fun st w' => w' = w55 ∧ st.1 = false) ⟨by decide, CND_ne (fun g => absurd d3 g) fun _ => ⟨by decide, CND_eq (fun g => ⟨by decide, rfl, by show (a % 16 != 0) = false; rw [d4 g]; rfl⟩) fun _ => ⟨rfl, rfl⟩⟩⟩ ?_
      rintro ⟨s59, u⟩ _ w60 ⟨rfl, h59⟩
      refine CND_f h59 ⟨rfl, d1, by show 0 < (clsAt m).1; omega, d2, k2, ?_⟩
      exact back _ _ _ _ C' W' U' M' k1 H55
  rintro ⟨a, z, e, u⟩ _ w35 ⟨he, hb1, hb2, hb3, hdis, hS2⟩
  dsimp only at he hb1 hb2 hb3 hdis hS2 ⊢
  subst he
  refine JOIN_in (CND_f rfl fun _ => CND_f (by simp; omega) ?_)
  have eaz : u64 (a + z) = a + z := u64_id (by omega) (by omega)
  rw [eaz]
  obtain ⟨C1, C2, W2, U2, M2, hA2, H63⟩ := hS2
  have hl1 := (H63.front 4 rfl).rowLen
  have hl2 := (H63.front 5 rfl).rowLen
  simp only [ints, List.length_map] at hl1 hl2
  refine LOOP_intro (fun st w' => ∃ j : Nat, st.1 = (j : Int) ∧ j ≤ L.length ∧ w' = w35) (fun st _ => ((L.length : Int) - st.1).toNat) ⟨0, rfl, Nat.zero_le _, rfl⟩ ?_
  rintro ⟨j', u⟩ _ w65 ⟨j, hj, hjl, rfl⟩
  dsimp only at hj ⊢
  subst hj
  refine CND_dec (fun hlt2 => ?_) fun hge2 => ?_
  · have hjL : j < L.length := by omega
    obtain ⟨g, hg⟩ : ∃ g, L[j]? = some g := ⟨_, List.getElem?_eq_getElem hjL⟩
    have hgm : g ∈ L := List.mem_of_getElem? hg
    have hgd := hdis g hgm
    refine JOIN_intro (fun st w' => w' = w65 ∧ st.1 = false) ?_ ?_
    · refine (H63.front 5 rfl).rowCell (j := j) (v := .int .u64 g.2) (ints_at (by rw [List.getElem?_map, hg]; rfl)) fun p hp hpc => ⟨⟨by omega, by omega⟩, g.2, by rw [Int.toNat_natCast, Nat.mul_one]; exact hpc, CND_dec (fun g1 => ?_) fun _ => ⟨rfl, rfl⟩⟩
      refine (H63.front 4 rfl).rowCell (j := j) (v := .int .u64 g.1) (ints_at (by rw [List.getElem?_map, hg]; rfl)) fun p hp hpc => ⟨⟨by omega, by omega⟩, g.1, by rw [Int.toNat_natCast, Nat.mul_one]; exact hpc, rfl, decide_eq_false fun g2 => hgd ⟨g1, g2⟩⟩
    · rintro ⟨s68, u⟩ _ w69 ⟨rfl, h68⟩
      refine CND_f h68 ?_
      rw [show i64 ((j : Int) + 1) = ((j + 1 : Nat) : Int) by rw [i64_id (by omega) (by omega)]; rfl]
      exact ⟨⟨j + 1, rfl, by omega, rfl⟩, by omega⟩
  · refine AL_cells (vs := [.int .u64 a]) H63 fun b74 w75 H75 _ => ?_
    refine APP_one (zs := #[.int .u64 0]) (bytes := 8) (H75.front2 4 rfl) rfl rfl (by simp [Value.oneCell']) (by omega) (by omega) fun s76 w77 H77 hs76 => ?_
    refine AL_cells (vs := [.int .u64 (a + z)]) H77 fun b78 w79 H79 _ => ?_
    refine APP_one (zs := #[.int .u64 0]) (bytes := 8) (H79.front2 5 rfl) rfl rfl (by simp [Value.oneCell']) (by omega) (by omega) fun s80 w81 H81 hs80 => ?_
    have m1 : ints .u64 (L.map (·.1)) ++ [.int .u64 a] = ints .u64 ((L ++ [(a, a + z)]).map (·.1)) := by simp [ints]
    have m2 : ints .u64 (L.map (·.2)) ++ [.int .u64 (a + z)] = ints .u64 ((L ++ [(a, a + z)]).map (·.2)) := by simp [ints]
    rw [m1, m2] at H81
    refine ⟨⟨i + 1, L ++ [(a, a + z)], rfl, by omega, by rw [List.length_append, hLl]; rfl, C1, C2, W2, U2, M2, hA2, ?_⟩, by omega⟩
    exact ((((H81.front 1 rfl).front 5 rfl).front 5 rfl).front 5 rfl).front 5 rfl
end
end Go.Sh


namespace Go.Proofs.YtnkkjmcimhjnhaaGreatDoor.cacheApart
open Go.ChangeShapes Go.WideShapes Go.ChangeAt Go.RowKit
set_option linter.unusedVariables false
set_option linter.unusedSimpArgs false

theorem own : ownKnob Tryz.prog.godebug = none := by kernel_rfl
theorem laidOut : laidOutB Tryz.prog = true := by kernel_rfl
theorem gTab : Tryz.prog.globalNamed "math/bits.deBruijn64tab" = some 0 := by kernel_rfl
theorem gTabType : (Tryz.prog.globals[0]?).map (·.type) = some 192 := by kernel_rfl
theorem und1 : Tryz.prog.underlying 192 = some (.array 64 5) := by kernel_rfl
theorem und2 : Tryz.prog.underlying 5 = some (.int .u8) := by kernel_rfl
theorem cells1 : Tryz.prog.cellsOf 192 = 64 := by kernel_rfl
theorem cells2 : Tryz.prog.cellsOf 5 = 1 := by kernel_rfl

theorem table {W : World} (h : laidMetH Tryz.prog Rows.cacheApartRow.laid W) : Go.Sh.TabAt Go.Sh.env.g_math_bits_deBruijn64tab W := by
  have ht := Lib.tabIs_of_head (rest := []) (k := .u8) (zs := Lib.deBruijn64tab.map fun n : Nat => (n : Int)) gTab gTabType und1 und2 cells2 cells1 h
  intro i hi
  have := ht.cell gTab i (by rw [List.length_map]; exact hi)
  rw [show (Lib.deBruijn64tab.map fun n : Nat => (n : Int)).getD i 0 = ((Lib.deBruijn64tab.getD i 0 : Nat) : Int) by rw [List.getD_eq_getElem?_getD, List.getD_eq_getElem?_getD, List.getElem?_map]; cases Lib.deBruijn64tab[i]? <;> rfl] at this
  exact this

theorem walk (x : Go.Sh.ArgTs [.sl (.int .i64), .sl (.bool)]) (w : World) (h : Go.Sh.argOks w [.sl (.int .i64), .sl (.bool)] x) (hT : Go.Sh.TabAt Go.Sh.env.g_math_bits_deBruijn64tab w) :
    Calls Tryz.prog 5 ⟨Go.Sh.argVals [.sl (.int .i64), .sl (.bool)] x⟩ w fun e w' => e = .returned (.bool true) ∧ Below w.heap.size w w' := by
  obtain ⟨a0, a1, u⟩ := x
  obtain ⟨w0, w1, _⟩ := h
  obtain ⟨z0, w0⟩ := w0
  obtain ⟨z1, w1⟩ := w1
  refine (Go.Sh.fits5 _ w (fun v w' => v = .bool true ∧ Below w.heap.size w w') Go.Sh.noP ?_).2.mono ?_
  · show Go.Sh.F.mallowlaw20_CacheApart Go.Sh.env a0 a1 (fun r w' => Value.bool r = .bool true ∧ Below w.heap.size w w') w
    exact Go.Sh.apart20_spec Go.Sh.envK hT w0 w1 fun w' h => ⟨rfl, h.below (Nat.le_refl _) fun _ f => f.elim⟩
  · intro e w' hE
    obtain ⟨v, rfl, rfl, h⟩ := hE.val
    exact ⟨rfl, h⟩

noncomputable def laidWorld (os : Os) : World :=
  { World.holding Tryz.prog os ⟨#[], #[], []⟩ with heap := (World.holding Tryz.prog os ⟨#[], #[], []⟩).heap.modify 0 fun
      | .cells _ t frozen => .cells ⟨Lib.deBruijn64tab.map fun n : Nat => .int .u8 (n : Int)⟩ t frozen
      | o => o }
theorem laid_met (os : Os) : laidMet Tryz.prog Rows.cacheApartRow.laid ((laidWorld os).forCall (fun _ _ => 0) ⟨#[], #[.slice none 0 0, .slice none 0 0], []⟩).memory :=
  laidMet_of_run' 8 (by kernel_rfl) (by kernel_rfl)
theorem reads (os : Os) {H : Type} (enc : TypeId × Value → H) : ∃ places, DataW.whole enc Tryz.prog ((laidWorld os).forCall (fun _ _ => 0) ⟨#[], #[.slice none 0 0, .slice none 0 0], []⟩).memory Tryz.f5.params.toList Rows.cacheApartSpec.vars false (#[.slice none 0 0, .slice none 0 0] : Array Value).toList 8 = some ([.nil, .nil], [], places) :=
  ⟨[], by kernel_rfl⟩

set_option maxRecDepth 100000 in
theorem lifted (os : Os) (started : os.Started) (H : Type) (enc : TypeId × Value → H) (F : Stop.Interp) :
    ReturnsInHanded {} Tryz.checked os 5 .any ((OpenSpec.ofChange Rows.cacheApartSpec).preRow enc Tryz.prog Tryz.f5 Rows.cacheApartRow.domain false Rows.cacheApartRow.laid) (((OpenSpec.ofChange Rows.cacheApartSpec).at F).post enc Tryz.prog Tryz.f5 false true false false) := by
  obtain ⟨places, hx⟩ := reads os enc
  refine returnsInHanded_of_row (C := Tryz.checked) (s := OpenSpec.ofChange Rows.cacheApartSpec) own started (by kernel_rfl) Tryz.func5
    (witness_row_at (enc := enc) (C := Tryz.checked) false (laidWorld os) #[.slice none 0 0, .slice none 0 0] rfl (by kernel_rfl) (by kernel_rfl) (by kernel_rfl)
      (OpenSpec.preRow_of_cond 8 hx (by kernel_rfl) (fun k hk => by cases hk) (by kernel_rfl) (laid_met os))) ?_
  intro W base args ds gs before hval0 hW _ _ _ hL _ _
  have hW' := hW
  obtain ⟨p, q, hA, hV, rfl, hfz, hnd⟩ := hW
  obtain ⟨rfl, rfl⟩ := trodVars_none hV
  have hargs := Go.Sh.args_of (P := Tryz.prog) (shs := [.sl (.int .i64), .sl (.bool)]) (by kernel_rfl) (fun j t v ht hv => hval0 j t v (by simpa using ht) (by simpa using hv)) hA
  obtain ⟨x, hx, hok⟩ := Go.Sh.argVals_of hargs
  obtain rfl : args = ⟨Go.Sh.argVals [.sl (.int .i64), .sl (.bool)] x⟩ := Array.toList_inj.1 (by simpa using hx)
  have hlen := Go.Sh.trodAll_len hA
  obtain ⟨d0, d1, rfl⟩ : ∃ d0 d1, ds = [d0, d1] := by
    have hl : ds.length = 2 := hlen
    match ds, hl with
    | [d0, d1], _ => exact ⟨d0, d1, rfl⟩
  refine (walk x W hok (table hL)).mono fun e W' ⟨he, bel⟩ => ?_
  subst he
  exact ⟨_, rfl, _, _, _, [], _, [], hW', trodAll_mk1 (shut_bool Tryz.underlying4 _), Go.Sh.trodAll_below laidOut bel (by kernel_rfl) hA, rfl, bel.frame _, fun h => by cases h⟩

theorem said : Rows.CacheApartSaid :=
  OpenClaim.holds_of_cond 5 Tryz.f5 rfl rfl rfl rfl rfl rfl rfl ⟨rfl, rfl, rfl, rfl, rfl⟩ rfl rfl rfl rfl rfl (by kernel_rfl) Tryz.func5 (by kernel_rfl)
    (of_decide_eq_true (by kernel_rfl)) (by unfold Func.isWrapper; first | (rw [if_pos (by decide +kernel)]; kernel_rfl) | (rw [if_neg (by decide +kernel)]; exact ⟨rfl, rfl⟩))
    (fun os started H enc _ F => by rw [OpenClaim.pre_eq_preRow]; exact lifted os started H enc F)

theorem plain (f : FuncId) (fn : Func) (hf : Tryz.pinned.checked.prog.funcNamed "mallow/mallowlaw20.CacheApart" = some f) (hfn : Tryz.pinned.checked.prog.funcs[f]? = some fn) :
    true = Tryz.pinned.checked.prog.looks [] ∧ ∀ (j : Nat) t, fn.params[j]? = some t → Tryz.pinned.checked.prog.wantsStandIn t = false := by
  obtain rfl : f = 5 := Option.some.inj ((show Tryz.prog.funcNamed "mallow/mallowlaw20.CacheApart" = some 5 by kernel_rfl).symm.trans hf) |>.symm
  obtain rfl : fn = Tryz.f5 := (Option.some.inj (Tryz.func5.symm.trans hfn)).symm
  refine ⟨by kernel_rfl, fun j t ht => ?_⟩
  have hall : (Tryz.f5.params.toList.all fun t => !(Tryz.prog.wantsStandIn t)) = true := by kernel_rfl
  have := List.all_eq_true.1 hall t (Array.mem_toList_iff.2 (Array.mem_of_getElem? ht))
  exact Bool.not_eq_true' _ ▸ this

theorem proved : Rows.CacheApartCardSaid :=
  Claim7.holds_tied_plain_at .later [] _ _ _ _ said (fun _ h => by cases h) (by kernel_rfl) (fun _ h => by cases h) cacheApart_row_tie rfl ⟨rfl, rfl⟩ (by kernel_rfl) rfl plain (by kernel_rfl)
#print axioms proved
end Go.Proofs.YtnkkjmcimhjnhaaGreatDoor.cacheApart

