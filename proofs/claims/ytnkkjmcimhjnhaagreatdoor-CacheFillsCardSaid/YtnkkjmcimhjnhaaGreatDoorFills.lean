/- The law CacheFills holds (its card: math/bits' table as the program's text lays it): for every input the Go function returns true and leaves its arguments alone. No further condition. -/
import Derived.Test.YtnkkjmcimhjnhaaGreatDoorY
import Derived.Test.YtnkkjmcimhjnhaaGreatDoorQ
import Derived.Test.YtnkkjmcimhjnhaaGreatDoorA
import Derived.Test.YtnkkjmcimhjnhaaGreatDoorCards
import Derived.Test.YtnkkjmcimhjnhaaGreatDoorTie
import Derived.WalkKit
import Derived.ProofKit
import Derived.OpenShut
import Derived.Deep.DeepHandedRow
import Derived.Lib.LaidTab
set_option linter.all false
set_option maxRecDepth 8000
set_option maxHeartbeats 8000000
namespace Go.Sh
def FillS (W : SW) (U M : Bits) (C : KS) (k : Int) (np : Bool) (j : Nat) : Prop :=
  (j = 0 ∧ W = SW.new (HS.new (newV [] [] [])) ∧ OneC C k np 0) ∨ (0 < j ∧ OneS W U M k np j ∧ W.L = [] ∧ OneC C k np 1)
def RetS (W : SW) (U M : Bits) (C : KS) (k : Int) (np : Bool) (j : Nat) : Prop :=
  0 < j ∧ OneS W U M k np j ∧ (∃ it : Itm, W.L = [it] ∧ it.id = 1 ∧ it.kd = (k, np, false, true)) ∧ OneC C k np 0
theorem OneC.flushed {C : KS} {k : Int} {np : Bool} {i : Int} (h : OneC C k np i) : OneC C.flushed k np i := ⟨h.hd, h.ho⟩
section
variable {E : Env} {w : World} {Z : List Pr} {c cb b h s r : Nat} {C : KS} {W : SW} {U M : Bits}
variable (hE : EnvK E)
include hE
theorem kafill_spec (hT : ∀ w', Sat Z w' -> TabAt E.g_math_bits_deBruijn64tab w') {k : Int} {np : Bool} (hk : 0 < k ∧ k < 68) {j : Nat} (hF : FillS W U M C k np j) (hj : (j : Int) < (clsAt k).2.2.1)
    (H : Sat (KashP E c cb C :: CentP E cb b h s r W :: Z) w) {K : Int -> Int -> World -> Prop}
    (hK : ∀ C' W' U' M', OneS W' U' M' k np (j + 1) -> W'.L = [] -> OneC C' k np 1 -> ∀ w', Sat (KashP E c cb C' :: CentP E cb b h s r W' :: Z) w' -> K (4194304 + j * (clsAt k).1) 0 w') :
    F.cache_Cache_Alloc E (some ⟨c, 0, none⟩) k np K w := by
  rcases hF with ⟨rfl, rfl, hC⟩ | ⟨h0, hS, hL, hC⟩
  · refine kafirst_spec hE hT hk hC H fun W' U' M' h1 h2 w' H' => ?_
    have := hK _ W' U' M' h1 h2 (hC.hold hk) w' H'
    rw [show (4194304 : Int) + ((0 : Nat) : Int) * (clsAt k).1 = 4194304 by simp] at this
    exact this
  · exact kanext_spec hE hT hk hS hC hL hj H fun W' U' M' h1 h2 w' H' => hK C W' U' M' h1 h2 hC w' H'
theorem karet_spec (hT : ∀ w', Sat Z w' -> TabAt E.g_math_bits_deBruijn64tab w') {k : Int} {np : Bool} (hk : 0 < k ∧ k < 68) {j : Nat} (hF : RetS W U M C k np j) (hj : (j : Int) < (clsAt k).2.2.1)
    (H : Sat (KashP E c cb C :: CentP E cb b h s r W :: Z) w) {K : Int -> Int -> World -> Prop}
    (hK : ∀ C' W' U' M', OneS W' U' M' k np (j + 1) -> W'.L = [] -> OneC C' k np 1 -> ∀ w', Sat (KashP E c cb C' :: CentP E cb b h s r W' :: Z) w' -> K (4194304 + j * (clsAt k).1) 0 w') :
    F.cache_Cache_Alloc E (some ⟨c, 0, none⟩) k np K w := by
  obtain ⟨h0, hS, ⟨it, hL, hid, hkd⟩, hC⟩ := hF
  have hno0 : ∀ {W0}, Letd W C k np W0 -> W0 = W := fun hl => by
    rcases hl with ⟨_, e⟩ | ⟨g, _⟩
    · exact e
    · rw [hC.hd] at g; exact absurd g (Int.lt_irrefl 0)
  have hof : ofK W.L (k, np, false, true) = [it] := by rw [hL]; unfold ofK; simp [hkd]
  refine kaalloc_spec hE hT H hS.inv hS.sane hC.owns0 (by rw [hL]; show 1 < 1099511627776; decide) (fun g => absurd hk g) (fun _ _ x m uw' hx => ?_) (fun _ _ _ W0 hl h0 => ?_) (fun _ _ _ W0 hl x l hx y m uw' hy hm hu hlow hI2 w' H' => ?_) fun _ _ _ W0 hl h0 => ?_
  · rw [hC.hd, sp_zero hS.inv] at hx; cases hx
  · rw [hno0 hl, hof] at h0; cases h0
  · obtain rfl := hno0 hl
    rw [hof] at hx
    injection hx with e1 e2
    subst e1
    rw [hid] at hy hu hlow hI2 H'
    have hrem : remB W0.L 1 = [] := by rw [hL]; unfold remB; simp [hid]
    rw [hrem] at hI2 H'
    have hS1 : OneS { W0.chg k with L := [] } U M k np j := ⟨⟨hS.inv.hI, hS.inv.sp, fun x hx => by cases hx⟩, ⟨fun x hx => (by cases hx), fun x hx => (by cases hx), hS.sane.rate, hS.sane.rp, chg_ch hS.sane.ch hk.1 hk.2⟩, hS.la, hS.sp, hS.no, hS.us⟩
    obtain ⟨rfl, h1⟩ := hS1.take hy (fun it hit => by cases hit) hu hlow hI2
    obtain ⟨bl, J, j1, j2, j3, j4, j5, j6⟩ := hS.sp
    rw [j1] at hy
    cases hy
    rw [j2, j3]
    exact hK _ _ _ _ h1 rfl (hC.hold hk) w' H'
  · rw [hno0 hl, hof] at h0; cases h0
end
section
variable {E : Env} {w : World} {Rs Z : List Pr} {cb b h s r : Nat} (hE : EnvK E) (hH : EnvH E)
include hE hH
theorem fills_spec (hT : TabAt E.g_math_bits_deBruijn64tab w) {a0 a1 : Int} {K : Bool -> World -> Prop} (hK : ∀ w', Ext Nothing w w' -> K true w') : F.mallowlaw20_CacheFills E a0 a1 K w := by
  unfold F.mallowlaw20_CacheFills T0.mallowlaw20_CacheFills
  refine table_spec (Sat.start w) fun r1 w2 H2 => ?_
  have hl := H2.recLen (by decide) cls4_len
  rw [cls_len] at hl
  have hTT : ∀ {Y : List Pr} {w'} (i : Nat), Sat Y w' -> Y[i]? = some (Old w) -> TabAt E.g_math_bits_deBruijn64tab w' := fun i h hi => hT.ext (h.old i hi)
  have haw : ∀ {Y : List Pr} {w'} (i : Nat), Sat Y w' -> Y[i]? = some (Old w) -> F.mallowlaw20_awake E (fun r6 w7 => K r6 w7) w' := fun i h' hi => awake20_spec hE (fun w' h => hTT i h hi) h' fun w7 H7 => hK w7 (H7.old i hi)
  have ct : 0 <= a0 -> a0 < 68 -> ∃ x, r1.base = some ⟨x, 0, none⟩ ∧ ∀ {w'} {Y : List Pr} (i : Nat), Sat Y w' -> Y[i]? = some (Row E.t_api_Class 4 r1 (recs cls4 clsT)) -> w'.cell? ((Addr.mk x 0 none).add (Int.toNat a0 * 4)) = some (.int .i64 (clsAt a0).1) ∧ w'.cell? (((Addr.mk x 0 none).add (Int.toNat a0 * 4)).add 2) = some (.int .i64 (clsAt a0).2.2.1) := fun c0 c1 => by
    obtain ⟨x, hx⟩ := H2.recBase (by decide) cls4_len (i := a0.toNat) (by rw [cls_len]; omega)
    refine ⟨x, hx, fun i h hi => ⟨?_, ?_⟩⟩
    · have := (h.front i hi).recCell cls4_len hx (cls_at c0 c1) (j := 0) rfl; rwa [Nat.add_zero] at this
    · rw [add_add]; exact (h.front i hi).recCell cls4_len hx (cls_at c0 c1) (j := 2) rfl
  refine JOIN_intro (fun st w' => w' = w2 ∧ (st.1 = false -> 8 <= a0 ∧ a0 < 68 ∧ 0 <= a1 ∧ a1 < (clsAt a0).2.2.1 ∧ a1 <= 100)) (CND_dec (fun _ => ⟨rfl, fun h => by cases h⟩) fun g1 => CND_dec (fun _ => ⟨rfl, fun h => by cases h⟩) fun g2 => CND_dec (fun _ => ⟨rfl, fun h => by cases h⟩) fun g3 => ?_) ?_
  · obtain ⟨x, hx, hc⟩ := ct (by omega) (by omega)
    rw [hx]
    exact NC_in ⟨⟨by omega, by omega⟩, _, (hc 0 H2 rfl).2, CND_dec (fun _ => ⟨rfl, fun h => by cases h⟩) fun g4 => ⟨rfl, fun h => by have := of_decide_eq_false h; omega⟩⟩
  rintro ⟨st, u⟩ _ w5 ⟨rfl, hc⟩
  dsimp only at hc ⊢
  refine CND_intro (fun _ => CND_eq (fun _ => haw 1 H2 rfl) fun e => absurd (by omega) e) fun hst => ?_
  obtain ⟨k0, k1, k2, k3, k4⟩ := hc hst
  obtain ⟨tx, hx, hcell⟩ := ct (by omega) k1
  have hk : 0 < a0 ∧ a0 < 68 := ⟨by omega, k1⟩
  have hcp := cls_at_pos (c := a0) (by omega) k1
  have hca := cls_at_all (c := a0) (by omega) k1
  rw [hx]
  have hri : (0 : Int) <= a0 ∧ (a0 : Int) < (r1.len : Nat) := ⟨by omega, by omega⟩
  refine fresh20_nil (E := E) H2 fun cb b h s r w11 H11 => CND_f rfl (kanew_spec (p := 0) H11 fun c w13 H13 => CND_f rfl ?_)
  have hTz : ∀ w', Sat [Row E.t_api_Class 4 r1 (recs cls4 clsT), Old w] w' -> TabAt E.g_math_bits_deBruijn64tab w' := fun w' h' => hTT 1 h' rfl
  obtain ⟨n1, hn1⟩ : ∃ n1 : Nat, a1 = (n1 : Int) := ⟨a1.toNat, by omega⟩
  have addr : ∀ {j : Nat}, (j : Int) < (clsAt a0).2.2.1 -> u64 (4194304 + (u64 (i64 ((j : Int) * (clsAt a0).1)))) = 4194304 + j * (clsAt a0).1 := fun {j} hj => by
    have h1 : (j : Int) * (clsAt a0).1 <= 1024 * 32768 := Int.mul_le_mul (by omega) hcp.2.1 (by omega) (by omega)
    have h2 : 0 <= (j : Int) * (clsAt a0).1 := Int.mul_nonneg (by omega) (by omega)
    rw [i64_id (by omega) (by omega), u64_id (n := (j : Int) * (clsAt a0).1) (by omega) (by omega), u64_id (by omega) (by omega)]
  refine LOOP_intro (fun st w' => ∃ (i : Nat) (C : KS) (W : SW) (U M : Bits), st.1 = (i : Int) ∧ i <= n1 ∧ FillS W U M C a0 false i ∧ Sat (KashP E c cb C :: CentP E cb b h s r W :: [Row E.t_api_Class 4 r1 (recs cls4 clsT), Old w]) w') (fun st _ => (a1 - st.1).toNat)
    ⟨0, _, _, bits0, bits0, rfl, Nat.zero_le _, .inl ⟨rfl, rfl, OneC.new _ _ _ _ _⟩, H13⟩ ?_
  rintro ⟨i', u⟩ _ w15 ⟨i, C, W, U, M, hi, hil, hF, H15⟩
  dsimp only at hi ⊢
  subst hi
  refine CND_dec (fun hlt => ?_) fun hge => ?_
  · have hji : (i : Int) < (clsAt a0).2.2.1 := by omega
    refine kafill_spec hE hTz hk hF hji H15 fun C' W' U' M' h1 h2 h3 w19 H19 => ?_
    refine JOIN_in (CND_f rfl (NC_in ⟨hri, _, (hcell 2 H19 rfl).1, ?_⟩))
    rw [addr hji]
    refine CND_ne (fun e => absurd rfl e) fun _ => kaheld_spec H19 fun w26 H26 => ?_
    rw [h3.hd]
    refine CND_f rfl (kaheld_spec H26 fun w28 H28 j => ?_)
    rw [h3.ho a0 true (by simp)]
    refine CND_f rfl ?_
    rw [show i64 ((i : Int) + 1) = ((i + 1 : Nat) : Int) by rw [i64_id (by omega) (by omega)]; rfl]
    exact ⟨⟨i + 1, C', W', U', M', rfl, by omega, .inr ⟨by omega, h1, h2, h3⟩, H28⟩, by omega⟩
  obtain rfl : i = n1 := by omega
  have hho : ∀ k' np', ¬ (k' = a0 ∧ np' = false) -> C.held k' np' = 0 := by
    rcases hF with ⟨_, _, hC⟩ | ⟨_, _, _, hC⟩ <;> exact hC.ho
  have hInv : SwInv W U M ∨ W = SW.new (HS.new (newV [] [] [])) := by
    rcases hF with ⟨_, e, _⟩ | ⟨_, hS, _⟩
    · exact .inr e
    · exact .inl hS.inv
  obtain ⟨U, M, hI, hF⟩ : ∃ U M, SwInv W U M ∧ FillS W U M C a0 false i := by
    rcases hF with ⟨e0, e, hC⟩ | ⟨e0, hS, hL, hC⟩
    · subst e
      exact ⟨_, _, SwInv.new [] [] [], .inl ⟨e0, rfl, hC⟩⟩
    · exact ⟨_, _, hS.inv, .inr ⟨e0, hS, hL, hC⟩⟩
  have hL0 : W.L = [] := by
    rcases hF with ⟨_, e, _⟩ | ⟨_, _, e, _⟩
    · rw [e]; rfl
    · exact e
  have hHok : HeldOk W C a0 false := by
    rcases hF with ⟨_, _, hC⟩ | ⟨_, hS, hL, hC⟩
    · exact .inl hC.hd
    · obtain ⟨bl, J, j1, _⟩ := hS.sp
      rw [show HeldOk W C a0 false ↔ _ from Iff.rfl]
      exact .inr ⟨by rw [hC.hd]; decide, _, by rw [hC.hd]; exact j1, fun x hx => by rw [hL] at hx; cases hx⟩
  refine JOIN_intro (fun st w' => st.1 = false ∧ ∃ (C' : KS) (W' : SW) (U' M' : Bits), (FillS W' U' M' C' a0 false i ∨ RetS W' U' M' C' a0 false i) ∧ Sat (KashP E c cb C' :: CentP E cb b h s r W' :: [Row E.t_api_Class 4 r1 (recs cls4 clsT), Old w]) w') ?_ ?_
  · refine kaflush_spec hE hk H15 hI (by rw [hL0]; decide) hho hHok fun W0 hlet hI0 w33 H33 => CND_f rfl (kaheld_spec H33 fun w35 H35 => ?_)
    rw [show (C.hold a0 false 0).flushed.held a0 false = 0 from hold_held C hk.1 hk.2 0]
    refine CND_f rfl ?_
    rcases hF with ⟨e0, e, hC⟩ | ⟨e0, hS, hL, hC⟩
    · rcases hlet with ⟨_, hW0⟩ | ⟨g, _⟩
      · rw [hW0] at H35
        exact CND_dec (fun g => by omega) fun _ => ⟨rfl, _, _, U, M, .inl (.inl ⟨e0, e, (hC.hold hk).flushed⟩), H35⟩
      · rw [hC.hd] at g; exact absurd g (by decide)
    · rcases hlet with ⟨g, _⟩ | ⟨_, y, blk, hy, _, hW0⟩
      · rw [hC.hd] at g; exact absurd g (by decide)
      · rw [hC.hd] at hy hW0
        obtain ⟨bl, J, j1, j2, j3, j4, j5, j6⟩ := hS.sp
        rw [j1] at hy
        cases hy
        have hLL : W0.L = [⟨blk, 1, J.base, (J.cls, J.noptr, J.used == J.slots, true)⟩] := by rw [hW0, hL]; rfl
        have hus : J.used = (i : Int) := by
          obtain ⟨_, hg⟩ := hS.inv.sp 1 _ j1
          have hcn : ∀ m : Nat, cN (U 1) m = min i m := fun m => by
            induction m with
            | zero => simp [cN]
            | succ m ih =>
              show cN (U 1) m + (U 1 m).toNat = _
              rw [ih, hS.us]
              by_cases g : m < i
              · rw [decide_eq_true g]; simp; omega
              · rw [decide_eq_false g]; simp; omega
          have hcnt := hg.cnt
          rw [hcn] at hcnt
          rw [hcnt]
          show ((min i J.slots.toNat : Nat) : Int) = i
          rw [Nat.min_eq_left (by rw [j4]; omega)]
        have hfull : (J.used == J.slots) = false := by rw [hus, j4]; simp; omega
        have hR : RetS W0 U M (C.hold a0 false 0).flushed a0 false i := by
          refine ⟨e0, ⟨hI0, ?_, ?_, ?_, ?_, hS.us⟩, ⟨_, hLL, rfl, by rw [hfull, j5, j6]⟩, (hC.hold hk).flushed⟩
          · rw [hW0]
            refine ⟨fun x hx => ?_, fun x hx => ?_, hS.sane.rate, hS.sane.rp, hS.sane.ch⟩
            all_goals
              rcases mem_insB.1 hx with rfl | hx
              · first | rfl | exact ⟨(bl, J), j1, rfl⟩
              · rw [hL] at hx; cases hx
          · rw [hW0]; exact hS.la
          · rw [hW0]; exact hS.sp
          · rw [hW0]; exact hS.no
        refine CND_dec (fun _ => ?_) fun g => absurd (by omega) g
        refine cesweeper_spec (H35.front 1 rfl) (swsets_spec (H35.front 1 rfl : Sat (CentP E cb b h s r W0 :: _) w35).centSw ?_)
        obtain ⟨R, HH, hz, hb⟩ := (H35.front 1 rfl : Sat (CentP E cb b h s r W0 :: _) w35).centSw.swSets
        refine secount_spec HH fun w41 H41 => ?_
        rw [hLL] at H41 ⊢
        refine ⟨rfl, _, _, U, M, .inr hR, ?_⟩
        have := (hb H41).swCent.front 1 rfl
        rw [show ({ W0 with L := [⟨blk, 1, J.base, (J.cls, J.noptr, J.used == J.slots, true)⟩] } : SW) = W0 by rw [<- hLL]] at this
        exact this
  rintro ⟨st2, u⟩ _ w31 ⟨h2, C2, W2, U2, M2, hF2, H31⟩
  refine CND_f h2 ?_
  refine JOIN_intro (fun _ w' => ∃ (C' : KS) (W' : SW) (U' M' : Bits) (j : Nat), OneS W' U' M' a0 false j ∧ Sat (KashP E c cb C' :: CentP E cb b h s r W' :: [Row E.t_api_Class 4 r1 (recs cls4 clsT), Old w]) w') ?_ ?_
  · refine LOOP_intro (fun st w' => ∃ (j : Nat) (C' : KS) (W' : SW) (U' M' : Bits), st.1 = (j : Int) ∧ i <= j ∧ j <= 1100 ∧ (FillS W' U' M' C' a0 false j ∨ RetS W' U' M' C' a0 false j) ∧ Sat (KashP E c cb C' :: CentP E cb b h s r W' :: [Row E.t_api_Class 4 r1 (recs cls4 clsT), Old w]) w') (fun st _ => (1200 - st.1).toNat)
      ⟨i, C2, W2, U2, M2, hn1, Nat.le_refl _, by omega, hF2, H31⟩ ?_
    rintro ⟨j', u⟩ _ w46 ⟨j, C3, W3, U3, M3, hj, hij, hjl, hF3, H46⟩
    dsimp only at hj ⊢
    subst hj
    have ex : ¬ ((j : Int) < (clsAt a0).2.2.1) ∨ ¬ ((j : Int) < 200) -> ∃ (C' : KS) (W' : SW) (U' M' : Bits) (j : Nat), OneS W' U' M' a0 false j ∧ Sat (KashP E c cb C' :: CentP E cb b h s r W' :: [Row E.t_api_Class 4 r1 (recs cls4 clsT), Old w]) w46 := fun g => by
      rcases hF3 with (⟨e, _⟩ | ⟨_, hS, _⟩) | ⟨_, hS, _⟩
      · omega
      · exact ⟨_, _, _, _, _, hS, H46⟩
      · exact ⟨_, _, _, _, _, hS, H46⟩
    refine NC_in ⟨hri, _, (hcell 2 H46 rfl).2, CND_dec (fun hlt => CND_dec (fun hlt2 => ?_) fun g => ex (.inr g)) fun g => ex (.inl g)⟩
    have fin : ∀ C' W' U' M', OneS W' U' M' a0 false (j + 1) -> W'.L = [] -> OneC C' a0 false 1 -> ∀ w52, Sat (KashP E c cb C' :: CentP E cb b h s r W' :: [Row E.t_api_Class 4 r1 (recs cls4 clsT), Old w]) w52 -> (∃ (j_1 : Nat) (C' : KS) (W' : SW) (U' M' : Bits), i64 ((j : Int) + 1) = (j_1 : Int) ∧ i <= j_1 ∧ j_1 <= 1100 ∧ (FillS W' U' M' C' a0 false j_1 ∨ RetS W' U' M' C' a0 false j_1) ∧ Sat (KashP E c cb C' :: CentP E cb b h s r W' :: [Row E.t_api_Class 4 r1 (recs cls4 clsT), Old w]) w52) ∧ (1200 - i64 ((j : Int) + 1)).toNat < (1200 - (j : Int)).toNat := fun C' W' U' M' h1 h2 h3 w52 H52 => by
      rw [show i64 ((j : Int) + 1) = ((j + 1 : Nat) : Int) by rw [i64_id (by omega) (by omega)]; rfl]
      exact ⟨⟨j + 1, C', W', U', M', rfl, by omega, by omega, .inl (.inr ⟨by omega, h1, h2, h3⟩), H52⟩, by omega⟩
    have step : ∀ C' W' U' M', OneS W' U' M' a0 false (j + 1) -> W'.L = [] -> OneC C' a0 false 1 -> ∀ w52, Sat (KashP E c cb C' :: CentP E cb b h s r W' :: [Row E.t_api_Class 4 r1 (recs cls4 clsT), Old w]) w52 -> w52.cell? ((Addr.mk tx 0 none).add (Int.toNat a0 * 4)) = some (.int .i64 (clsAt a0).1) := fun C' W' U' M' _ _ _ w52 H52 => (hcell 2 H52 rfl).1
    rcases hF3 with hF3 | hF3
    · refine kafill_spec hE hTz hk hF3 hlt H46 fun C' W' U' M' h1 h2 h3 w52 H52 => JOIN_in (CND_f rfl (NC_in ⟨hri, _, step C' W' U' M' h1 h2 h3 w52 H52, ?_⟩))
      rw [addr hlt]
      exact fun _ => CND_f (by simp) (fin C' W' U' M' h1 h2 h3 w52 H52)
    · refine karet_spec hE hTz hk hF3 hlt H46 fun C' W' U' M' h1 h2 h3 w52 H52 => JOIN_in (CND_f rfl (NC_in ⟨hri, _, step C' W' U' M' h1 h2 h3 w52 H52, ?_⟩))
      rw [addr hlt]
      exact fun _ => CND_f (by simp) (fin C' W' U' M' h1 h2 h3 w52 H52)
  · rintro _ _ w44 ⟨C4, W4, U4, M4, j, hS4, H44⟩
    have Hc := (H44.front 1 rfl : Sat (CentP E cb b h s r W4 :: _) w44)
    refine cesweeper_spec Hc (swheap_spec Hc.centSw ?_)
    obtain ⟨R, HH, hz, hb⟩ := Hc.centSw.swHeap
    obtain ⟨bl, J, j1, _⟩ := hS4.sp
    have only : ∀ n, W4.S.sp n ≠ none ↔ n = 1 := fun n => ⟨fun g => Classical.byContradiction fun e => g (hS4.no n e), fun e => by rw [e, j1]; exact fun h => by cases h⟩
    have len1 : ∀ l : List Int, l.Nodup -> (∀ n ∈ l, n = 1) -> l.length <= 1 := fun l hnd hin => by
      match l, hnd, hin with
      | [], _, _ => exact Nat.zero_le _
      | [_], _, _ => exact Nat.le_refl _
      | x :: y :: t, hnd, hin =>
        exfalso
        rw [List.nodup_cons] at hnd
        exact hnd.1 (by rw [hin x (by simp), hin y (by simp)]; simp)
    refine hspans_spec hH HH (fun l hnd hin => by have := len1 l hnd fun n hn => (only n).1 (hin n hn); omega) fun s62 l w63 hnd hall H63 => ?_
    have hle := len1 l hnd fun n hn => (only n).1 ((hall n).1 hn)
    have hge : 0 < l.length := List.length_pos_of_mem ((hall 1).2 ((only 1).2 rfl))
    have hlen := H63.rowLen
    rw [ints, List.length_map] at hlen
    refine CND_t (by rw [show s62.len = 1 by omega]; rfl) ?_
    exact haw 3 ((hb H63.tail).swCent.front 1 rfl) rfl
end
end Go.Sh

namespace Go.Proofs.YtnkkjmcimhjnhaaGreatDoor.cacheFills
open Go.ChangeShapes Go.WideShapes Go.ChangeAt Go.RowKit
set_option linter.unusedVariables false
set_option linter.unusedSimpArgs false
theorem own : ownKnob Tryz.prog.godebug = none := by kernel_rfl
theorem laidOut : laidOutB Tryz.prog = true := by kernel_rfl
theorem gTab : Tryz.prog.globalNamed "math/bits.deBruijn64tab" = some 0 := by kernel_rfl
theorem gTabType : (Tryz.prog.globals[0]?).map (·.type) = some 192 := by kernel_rfl
theorem und1 : Tryz.prog.underlying 192 = some (.array 64 5) := by kernel_rfl
theorem und2 : Tryz.prog.underlying 5 = some (.int .u8) := by kernel_rfl
theorem cells1 : Tryz.prog.cellsOf 192 = 64 := by kernel_rfl
theorem cells2 : Tryz.prog.cellsOf 5 = 1 := by kernel_rfl
theorem table {W : World} (h : laidMetH Tryz.prog Rows.cacheFillsRow.laid W) : Go.Sh.TabAt Go.Sh.env.g_math_bits_deBruijn64tab W := by
  have ht := Lib.tabIs_of_head (rest := []) (k := .u8) (zs := Lib.deBruijn64tab.map fun n : Nat => (n : Int)) gTab gTabType und1 und2 cells2 cells1 h
  intro i hi
  have := ht.cell gTab i (by rw [List.length_map]; exact hi)
  rw [show (Lib.deBruijn64tab.map fun n : Nat => (n : Int)).getD i 0 = ((Lib.deBruijn64tab.getD i 0 : Nat) : Int) by rw [List.getD_eq_getElem?_getD, List.getD_eq_getElem?_getD, List.getElem?_map]; cases Lib.deBruijn64tab[i]? <;> rfl] at this
  exact this
theorem walk (x : Go.Sh.ArgTs [.int .i64, .int .i64]) (w : World) (h : Go.Sh.argOks w [.int .i64, .int .i64] x) (hT : Go.Sh.TabAt Go.Sh.env.g_math_bits_deBruijn64tab w) :
    Calls Tryz.prog 8 ⟨Go.Sh.argVals [.int .i64, .int .i64] x⟩ w fun e w' => e = .returned (.bool true) ∧ Below w.heap.size w w' := by
  obtain ⟨a0, a1, u⟩ := x
  obtain ⟨w0, w1, _⟩ := h
  refine (Go.Sh.fits8 _ w (fun v w' => v = .bool true ∧ Below w.heap.size w w') Go.Sh.noP ?_).2.mono ?_
  · show Go.Sh.F.mallowlaw20_CacheFills Go.Sh.env a0 a1 (fun r w' => Value.bool r = .bool true ∧ Below w.heap.size w w') w
    exact Go.Sh.fills_spec Go.Sh.envK Go.Sh.envH hT fun w' h => ⟨rfl, h.below (Nat.le_refl _) fun _ f => f.elim⟩
  · intro e w' hE
    obtain ⟨v, rfl, rfl, h⟩ := hE.val
    exact ⟨rfl, h⟩
noncomputable def laidWorld (os : Os) : World :=
  { World.holding Tryz.prog os ⟨#[], #[], []⟩ with heap := (World.holding Tryz.prog os ⟨#[], #[], []⟩).heap.modify 0 fun
      | .cells _ t frozen => .cells ⟨Lib.deBruijn64tab.map fun n : Nat => .int .u8 (n : Int)⟩ t frozen
      | o => o }
theorem laid_met (os : Os) : laidMet Tryz.prog Rows.cacheFillsRow.laid ((laidWorld os).forCall (fun _ _ => 0) ⟨#[], #[.int .i64 0, .int .i64 0], []⟩).memory :=
  laidMet_of_run' 8 (by kernel_rfl) (by kernel_rfl)
theorem reads (os : Os) {H : Type} (enc : TypeId × Value -> H) : ∃ places, DataW.whole enc Tryz.prog ((laidWorld os).forCall (fun _ _ => 0) ⟨#[], #[.int .i64 0, .int .i64 0], []⟩).memory Tryz.f8.params.toList Rows.cacheFillsSpec.vars false (#[.int .i64 0, .int .i64 0] : Array Value).toList 8 = some ([.lit (.int .i64 0), .lit (.int .i64 0)], [], places) :=
  ⟨[], by kernel_rfl⟩
set_option maxRecDepth 100000 in
theorem lifted (os : Os) (started : os.Started) (H : Type) (enc : TypeId × Value -> H) (F : Stop.Interp) :
    ReturnsInHanded {} Tryz.checked os 8 .any ((OpenSpec.ofChange Rows.cacheFillsSpec).preRow enc Tryz.prog Tryz.f8 Rows.cacheFillsRow.domain false Rows.cacheFillsRow.laid) (((OpenSpec.ofChange Rows.cacheFillsSpec).at F).post enc Tryz.prog Tryz.f8 false true false false) := by
  obtain ⟨places, hx⟩ := reads os enc
  refine returnsInHanded_of_row (C := Tryz.checked) (s := OpenSpec.ofChange Rows.cacheFillsSpec) own started (by kernel_rfl) Tryz.func8
    (witness_row_at (enc := enc) (C := Tryz.checked) false (laidWorld os) #[.int .i64 0, .int .i64 0] rfl (by kernel_rfl) (by kernel_rfl) (by kernel_rfl)
      (OpenSpec.preRow_of_cond 8 hx (by kernel_rfl) (fun k hk => by cases hk) (by kernel_rfl) (laid_met os))) ?_
  intro W base args ds gs before hval0 hW _ _ _ hL _ _
  have hW' := hW
  obtain ⟨p, q, hA, hV, rfl, hfz, hnd⟩ := hW
  obtain ⟨rfl, rfl⟩ := trodVars_none hV
  have hargs := Go.Sh.args_of (P := Tryz.prog) (shs := [.int .i64, .int .i64]) (by kernel_rfl) (fun j t v ht hv => hval0 j t v (by simpa using ht) (by simpa using hv)) hA
  obtain ⟨x, hx, hok⟩ := Go.Sh.argVals_of hargs
  obtain rfl : args = ⟨Go.Sh.argVals [.int .i64, .int .i64] x⟩ := Array.toList_inj.1 (by simpa using hx)
  have hlen := Go.Sh.trodAll_len hA
  obtain ⟨d0, d1, rfl⟩ : ∃ d0 d1, ds = [d0, d1] := by
    have hl : ds.length = 2 := hlen
    match ds, hl with
    | [d0, d1], _ => exact ⟨d0, d1, rfl⟩
  refine (walk x W hok (table hL)).mono fun e W' ⟨he, bel⟩ => ?_
  subst he
  exact ⟨_, rfl, _, _, _, [], _, [], hW', trodAll_mk1 (shut_bool Tryz.underlying4 _), Go.Sh.trodAll_below laidOut bel (by kernel_rfl) hA, rfl, bel.frame _, fun h => by cases h⟩
theorem said : Rows.CacheFillsSaid :=
  OpenClaim.holds_of_cond 8 Tryz.f8 rfl rfl rfl rfl rfl rfl rfl ⟨rfl, rfl, rfl, rfl, rfl⟩ rfl rfl rfl rfl rfl (by kernel_rfl) Tryz.func8 (by kernel_rfl)
    (of_decide_eq_true (by kernel_rfl)) (by unfold Func.isWrapper; first | (rw [if_pos (by decide +kernel)]; kernel_rfl) | (rw [if_neg (by decide +kernel)]; exact ⟨rfl, rfl⟩))
    (fun os started H enc _ F => by rw [OpenClaim.pre_eq_preRow]; exact lifted os started H enc F)
theorem plain (f : FuncId) (fn : Func) (hf : Tryz.pinned.checked.prog.funcNamed "mallow/mallowlaw20.CacheFills" = some f) (hfn : Tryz.pinned.checked.prog.funcs[f]? = some fn) :
    true = Tryz.pinned.checked.prog.looks [] ∧ ∀ (j : Nat) t, fn.params[j]? = some t -> Tryz.pinned.checked.prog.wantsStandIn t = false := by
  obtain rfl : f = 8 := Option.some.inj ((show Tryz.prog.funcNamed "mallow/mallowlaw20.CacheFills" = some 8 by kernel_rfl).symm.trans hf) |>.symm
  obtain rfl : fn = Tryz.f8 := (Option.some.inj (Tryz.func8.symm.trans hfn)).symm
  refine ⟨by kernel_rfl, fun j t ht => ?_⟩
  have hall : (Tryz.f8.params.toList.all fun t => !(Tryz.prog.wantsStandIn t)) = true := by kernel_rfl
  have := List.all_eq_true.1 hall t (Array.mem_toList_iff.2 (Array.mem_of_getElem? ht))
  exact Bool.not_eq_true' _ ▸ this
theorem proved : Rows.CacheFillsCardSaid :=
  Claim7.holds_tied_plain_at .later [] _ _ _ _ said (fun _ h => by cases h) (by kernel_rfl) (fun _ h => by cases h) cacheFills_row_tie rfl ⟨rfl, rfl⟩ (by kernel_rfl) rfl plain (by kernel_rfl)
#print axioms proved
end Go.Proofs.YtnkkjmcimhjnhaaGreatDoor.cacheFills
