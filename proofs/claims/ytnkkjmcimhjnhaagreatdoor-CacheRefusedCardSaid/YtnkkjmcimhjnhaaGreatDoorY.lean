/- The central and the caches do what their spans say. No further condition. -/
import Derived.Test.YtnkkjmcimhjnhaaGreatDoorW2
import Derived.Test.YtnkkjmcimhjnhaaGreatDoorL
import Derived.Test.YtnkkjmcimhjnhaaGreatDoorA
import Derived.Test.YtnkkjmcimhjnhaaGreatDoorB
import Derived.Test.YtnkkjmcimhjnhaaGreatDoorQ
import Derived.Test.YtnkkjmcimhjnhaaGreatDoorV
set_option linter.all false
set_option maxRecDepth 8000
set_option maxHeartbeats 4000000
namespace Go.Sh
theorem tried_sp {S S0 : HS} {p n : Int} (h : Tried S p n S0) : S0.sp = S.sp := by
  rcases h with ⟨_, rfl⟩ | ⟨i, _, _, _, ⟨_, q, _, rfl⟩ | ⟨_, rfl⟩, _⟩ <;> rfl
theorem got_sp {S S2 : HS} {p n page : Int} (h : Got S p n page S2) : S2.sp = S.sp := by
  rcases h with ⟨S0, i, k, hi, _, _, ⟨_, q, _, rfl⟩ | ⟨_, rfl⟩, _, _, _, _, rfl⟩ | ⟨S0, htr, _, rfl⟩
  · rfl
  · rfl
  · exact (show S0.sp = S.sp from tried_sp htr)
theorem lost_spG {S S2 : HS} {p n : Int} (h : Lost S p n S2) : S2.sp = S.sp := by
  rcases h with ⟨S0, htr, _, ⟨r, _, rfl⟩ | ⟨_, _, rfl⟩⟩ | ⟨S1, page, r, ht, _, _, rfl⟩
  · exact (show S0.sp = S.sp from tried_sp htr)
  · exact (show S0.sp = S.sp from tried_sp htr)
  · rcases ht with ht | ⟨S0, S0', htr, _, ⟨_, at_, _, rfl⟩, _, rfl⟩
    · exact (show S1.sp = S.sp from got_sp ht)
    · exact (show S0.sp = S.sp from tried_sp htr)
structure EnvC (E : Env) : Prop extends EnvW E where
  swept1 : ∀ a p k n (R : Value -> World -> Prop) w, F.central_Central_swept E a p k n (fun i b e w' => R (.tuple ⟨[.int .i64 i, .bool b, .int .i64 e]⟩) w') w -> E.call E.f_central_Central_swept #[.pointer a, .agg ⟨[.int .i64 p, .int .i64 k, .bool n]⟩] w R noP
  partial1 : ∀ a p k n (R : Value -> World -> Prop) w, F.central_Central_partial E a p k n (fun i b e w' => R (.tuple ⟨[.int .i64 i, .bool b, .int .i64 e]⟩) w') w -> E.call E.f_central_Central_partial #[.pointer a, .agg ⟨[.int .i64 p, .int .i64 k, .bool n]⟩] w R noP
  full1 : ∀ a p k n (R : Value -> World -> Prop) w, F.central_Central_full E a p k n (fun i b e w' => R (.tuple ⟨[.int .i64 i, .bool b, .int .i64 e]⟩) w') w -> E.call E.f_central_Central_full #[.pointer a, .agg ⟨[.int .i64 p, .int .i64 k, .bool n]⟩] w R noP
  fresh1 : ∀ a p k n (R : Value -> World -> Prop) w, F.central_Central_fresh E a p k n (fun i b e w' => R (.tuple ⟨[.int .i64 i, .bool b, .int .i64 e]⟩) w') w -> E.call E.f_central_Central_fresh #[.pointer a, .agg ⟨[.int .i64 p, .int .i64 k, .bool n]⟩] w R noP
def CentP (E : Env) (cb b h s r : Nat) (W : SW) : Pr := Star [Cells cb E.t_central_Central [.pointer (some ⟨b, 0, none⟩)], SweepP E b h s r W]
section
variable {E : Env} {w : World} {Z : List Pr} {cb b h s r : Nat} {W : SW} {U M : Bits}
theorem Sat.cent : Sat (CentP E cb b h s r W :: Z) w ↔ Sat (Cells cb E.t_central_Central [.pointer (some ⟨b, 0, none⟩)] :: SweepP E b h s r W :: Z) w := Sat.star
theorem Sat.centSw (H : Sat (CentP E cb b h s r W :: Z) w) : Sat (SweepP E b h s r W :: Cells cb E.t_central_Central [.pointer (some ⟨b, 0, none⟩)] :: Z) w := (Sat.cent.1 H).perm (.swap _ _ _)
theorem Sat.swCent (H : Sat (SweepP E b h s r W :: Cells cb E.t_central_Central [.pointer (some ⟨b, 0, none⟩)] :: Z) w) : Sat (CentP E cb b h s r W :: Z) w := Sat.cent.2 (H.perm (.swap _ _ _))
theorem Sat.centPtr (H : Sat (CentP E cb b h s r W :: Z) w) : w.cell? (Addr.mk cb 0 none) = some (.pointer (some ⟨b, 0, none⟩)) := (Sat.cent.1 H).cell0 rfl
theorem cenew_spec (H : Sat (SweepP E b h s r W :: Z) w) {K : Option Addr -> World -> Prop} (hK : ∀ cb w', Sat (CentP E cb b h s r W :: Z) w' -> K (some ⟨cb, 0, none⟩) w') : F.central_New E (some ⟨b, 0, none⟩) K w := by
  unfold F.central_New
  exact AL_cells (vs := [.pointer (some ⟨b, 0, none⟩)]) H fun b1 w2 H2 _ => hK b1 w2 (Sat.cent.2 H2)
theorem cesweeper_spec (H : Sat (CentP E cb b h s r W :: Z) w) {K : Option Addr -> World -> Prop} (hK : K (some ⟨b, 0, none⟩) w) : F.central_Central_Sweeper E (some ⟨cb, 0, none⟩) K w := by
  unfold F.central_Central_Sweeper
  exact NC_in ⟨_, H.centPtr, hK⟩
theorem SwInv.heap (hI : SwInv W U M) {S2 : HS} (h1 : HInv S2 no) (h2 : S2.sp = W.S.sp) : SwInv { W with S := S2 } U M :=
  ⟨h1, fun id x hx => hI.sp id x (by rw [<- h2]; exact hx), fun x hx => by rw [show ({ W with S := S2 } : SW).S.sp = W.S.sp from h2]; exact hI.it x hx⟩
theorem ofK_no {L : List Itm} (h : ∀ x ∈ L, x.swept = true) {k : Kd} (hk : k.2.2.2 = false) : ofK L k = [] := ofK_none fun x hx e => by
  have := h x hx
  unfold Itm.swept at this
  rw [e, hk] at this; cases this
variable (hE : EnvC E)
include hE
theorem ceback_spec (H : Sat (CentP E cb b h s r W :: Z) w) (hI : SwInv W U M) {id : Int} (hf : W.L.length < 1099511627776) {K : Int -> World -> Prop}
    (hk0 : W.S.sp id = none -> ∀ w', Sat (CentP E cb b h s r W :: Z) w' -> K 35 w') (hk1 : W.S.sp id ≠ none -> (∃ x ∈ W.L, x.id = id) -> ∀ w', Sat (CentP E cb b h s r W :: Z) w' -> K 34 w')
    (hk2 : ∀ x, W.S.sp id = some x -> (∀ y ∈ W.L, y.id ≠ id) -> ∀ blk, SwInv { W with L := insB W.L ⟨blk, id, x.2.base, (x.2.cls, x.2.noptr, x.2.used == x.2.slots, true)⟩ } U M -> ∀ w',
      Sat (CentP E cb b h s r { W with L := insB W.L ⟨blk, id, x.2.base, (x.2.cls, x.2.noptr, x.2.used == x.2.slots, true)⟩ } :: Z) w' -> K 0 w') : F.central_Central_Back E (some ⟨cb, 0, none⟩) id K w := by
  unfold F.central_Central_Back T0.central_Central_Back
  exact NC_in ⟨_, H.centPtr, swput_spec hE.toEnvW H.centSw hI hf (fun hn w' H' => hk0 hn w' H'.swCent) (fun hn hx w' H' => hk1 hn hx w' H'.swCent) fun x hx hno blk hI2 w' H' => hk2 x hx hno blk hI2 w' H'.swCent⟩
theorem ceswept_spec (H : Sat (CentP E cb b h s r W :: Z) w) (hI : SwInv W U M) {p k : Int} {np : Bool} {K : Int -> Bool -> Int -> World -> Prop} (hk0 : ofK W.L (k, np, false, true) = [] -> ∀ w', Sat (CentP E cb b h s r W :: Z) w' -> K 0 false 0 w')
    (hk1 : ∀ x l, ofK W.L (k, np, false, true) = x :: l -> SwInv { W with L := remB W.L x.id } U M -> ∀ w', Sat (CentP E cb b h s r { W with L := remB W.L x.id } :: Z) w' -> K x.id true 0 w') : F.central_Central_swept E (some ⟨cb, 0, none⟩) p k np K w := by
  unfold F.central_Central_swept T0.central_Central_swept
  refine AL_cells (vs := [.int .i64 p, .int .i64 k, .bool np]) H fun b1 w2 H2 _ => NC_in ?_
  have H3 := H2.drew
  have Hc : Sat (CentP E cb b h s r W :: Cells b1 E.t_central_want [.int .i64 p, .int .i64 k, .bool np] :: Z) w2.drew := H3.front 1 rfl
  refine ⟨_, Hc.centPtr, _, H3.cell rfl, _, H3.cell rfl, swsets_spec Hc.centSw ⟨H3.cell rfl, H3.cell rfl, ?_⟩⟩
  obtain ⟨R, HH, hz, hb⟩ := Hc.centSw.swSets
  refine setake_spec hE.toEnvW (k := (k, np, false, true)) HH (fun h0 => hk0 h0 _ H3.tail) fun x l hx w' H' => ?_
  exact hk1 x l hx (hI.ofL fun y hy => hI.it y (mem_remB.1 hy).1) w' ((hb H').swCent.front 1 rfl).tail
theorem ceclean0_spec (H : Sat (CentP E cb b h s r W :: Z) w) {p k : Int} {np full : Bool} (hsw : ∀ x ∈ W.L, x.swept = true) {K : Int -> Bool -> Int -> World -> Prop} (hk0 : ∀ w', Sat (CentP E cb b h s r W :: Z) w' -> K 0 false 0 w') : F.central_Central_cleaned E (some ⟨cb, 0, none⟩) p k np full K w := by
  unfold F.central_Central_cleaned T0.central_Central_cleaned
  refine AL_cells (vs := [.int .i64 p, .int .i64 k, .bool np]) H fun b1 w2 H2 _ => ?_
  refine LOOP_intro (fun _ w' => Sat (Cells b1 E.t_central_want [.int .i64 p, .int .i64 k, .bool np] :: CentP E cb b h s r W :: Z) w') (fun _ _ => 0) H2 ?_
  rintro _ _ w4 H4
  have H3 := H4.drew
  have Hc : Sat (CentP E cb b h s r W :: Cells b1 E.t_central_want [.int .i64 p, .int .i64 k, .bool np] :: Z) w4.drew := H3.front 1 rfl
  refine NC_in ⟨_, Hc.centPtr, _, H3.cell rfl, _, H3.cell rfl, swsets_spec Hc.centSw ⟨H3.cell rfl, H3.cell rfl, ?_⟩⟩
  obtain ⟨R, HH, hz, hb⟩ := Hc.centSw.swSets
  refine setake_spec hE.toEnvW (k := (k, np, full, false)) HH (fun h0 => CND_t rfl (hk0 _ H3.tail)) fun x l hx w' H' => ?_
  rw [ofK_no hsw rfl] at hx; cases hx
theorem cefresh_spec (hT : ∀ w', Sat Z w' -> TabAt E.g_math_bits_deBruijn64tab w') (H : Sat (CentP E cb b h s r W :: Z) w) (hI : SwInv W U M) {p k : Int} {np : Bool} (k0 : 1 <= k) (k1 : k < 68) {K : Int -> Bool -> Int -> World -> Prop}
    (hk1 : ∀ S2, Lost W.S p (clsAt k).2.1 S2 -> SwInv { W with S := S2 } U M -> ∀ w', Sat (CentP E cb b h s r { W with S := S2 } :: Z) w' -> K 0 false 13 w')
    (hk2 : ∀ page S2 bl id X, Found W.S p (clsAt k).2.1 page S2 -> HOk W.S -> HInv S2 (inr page (clsAt k).2.1) -> Next S2 id X -> W.S.sp id = none -> 0 <= page -> page + (clsAt k).2.1 <= 34359738368 -> SwInv { W with S := S2.keep id (bl, spOf page (clsAt k).2.1 k np) page (clsAt k).2.1 X } (U.set id none1) (M.set id none1) ->
      ∀ w', Sat (CentP E cb b h s r { W with S := S2.keep id (bl, spOf page (clsAt k).2.1 k np) page (clsAt k).2.1 X } :: Z) w' -> K id true 0 w') : F.central_Central_fresh E (some ⟨cb, 0, none⟩) p k np K w := by
  unfold F.central_Central_fresh T0.central_Central_fresh
  refine AL_cells (vs := [.int .i64 p, .int .i64 k, .bool np]) H fun b1 w2 H2 _ => NC_in ?_
  have H3 := H2.drew
  have Hc : Sat (CentP E cb b h s r W :: Cells b1 E.t_central_want [.int .i64 p, .int .i64 k, .bool np] :: Z) w2.drew := H3.front 1 rfl
  refine ⟨_, Hc.centPtr, _, H3.cell0 rfl, _, H3.cell rfl, _, H3.cell rfl, _, H3.cell rfl, swheap_spec Hc.centSw ⟨H3.cell rfl, H3.cell rfl, H3.cell rfl, H3.cell0 rfl, ?_⟩⟩
  refine table_spec H3 fun r11 w12 H12 => ?_
  have hl := H12.recLen (by decide) cls4_len
  rw [cls_len] at hl
  have c12 := H12.front 1 rfl
  obtain ⟨x, hx⟩ := H12.recBase (by decide) cls4_len (i := k.toNat) (by rw [cls_len]; omega)
  have cell : ∀ {w'} {Y : List Pr}, Sat (Row E.t_api_Class 4 r11 (recs cls4 clsT) :: Y) w' -> w'.cell? (((Addr.mk x 0 none).add (Int.toNat k * 4)).add 1) = some (.int .i64 (clsAt k).2.1) := fun h => by
    rw [add_add]; exact h.recCell cls4_len hx (cls_at (by omega) k1) (j := 1) rfl
  refine ⟨c12.cell rfl, c12.cell rfl, c12.cell rfl, c12.cell0 rfl, ?_⟩
  rw [hx]
  have hcb := cls_bnd (c := k) (by omega) k1
  have hcp := cls_at_pos (c := k) (by omega) k1
  refine NC_in ⟨⟨by omega, by omega⟩, _, cell H12, ?_⟩
  rw [u64_id (n := (clsAt k).2.1) (by omega) (by omega)]
  have hbad : ¬ spBad 0 (clsAt k).2.1 k := by unfold spBad; omega
  have Hc2 : Sat (CentP E cb b h s r W :: Row E.t_api_Class 4 r11 (recs cls4 clsT) :: Cells b1 E.t_central_want [.int .i64 p, .int .i64 k, .bool np] :: Z) w12 := H12.front 2 rfl
  have hok := (Hc2.centSw.swHeap.choose_spec.1).hok
  obtain ⟨R, HH, hz, hb⟩ := Hc2.centSw.swHeap
  refine halloc_spec hE.toEnvA (fun w' h' => hT w' (hz h').tail.tail.tail) HH hI.hI (by omega) (by omega) (fun h => absurd h hbad) (fun _ S2 hlost hI2 w17 H17 => ?_) fun _ page S2 bl id X hf hI2 q0 q1 hX hI3 w17 H17 => ?_
  · have hes : S2.sp = W.S.sp := lost_spG hlost
    have H18 := (hb H17).swCent
    exact ⟨cell (H18.front 1 rfl), (H18.front 2 rfl).cell rfl, hk1 S2 hlost (hI.heap hI2 hes) w17 ((H18.front 1 rfl).tail.front 1 rfl).tail⟩
  · have H18 := (hb H17).swCent
    obtain ⟨hI4, hnone⟩ := hI.keep (np := np) hf hX q0 q1 hbad (by omega) hI3
    exact ⟨cell (H18.front 1 rfl), (H18.front 2 rfl).cell rfl, hk2 page S2 bl id X hf hok hI2 hX hnone q0 q1 hI4 w17 ((H18.front 1 rfl).tail.front 1 rfl).tail⟩
theorem ceget_spec (hT : ∀ w', Sat Z w' -> TabAt E.g_math_bits_deBruijn64tab w') (H : Sat (CentP E cb b h s r W :: Z) w) (hI : SwInv W U M) (hsw : ∀ x ∈ W.L, x.swept = true) {p k : Int} {np : Bool} {K : Int -> Int -> World -> Prop}
    (hk0 : ¬ (1 <= k ∧ k < 68) -> ∀ w', Sat (CentP E cb b h s r W :: Z) w' -> K 0 1 w')
    (hk1 : 1 <= k -> k < 68 -> ∀ x l, ofK W.L (k, np, false, true) = x :: l -> SwInv { W with L := remB W.L x.id } U M -> ∀ w', Sat (CentP E cb b h s r { W with L := remB W.L x.id } :: Z) w' -> K x.id 0 w')
    (hk2 : 1 <= k -> k < 68 -> ofK W.L (k, np, false, true) = [] -> ∀ S2, Lost W.S p (clsAt k).2.1 S2 -> SwInv { W with S := S2 } U M -> ∀ w', Sat (CentP E cb b h s r { W with S := S2 } :: Z) w' -> K 0 13 w')
    (hk3 : 1 <= k -> k < 68 -> ofK W.L (k, np, false, true) = [] -> ∀ page S2 bl id X, Found W.S p (clsAt k).2.1 page S2 -> HOk W.S -> HInv S2 (inr page (clsAt k).2.1) -> Next S2 id X -> W.S.sp id = none -> 0 <= page -> page + (clsAt k).2.1 <= 34359738368 -> SwInv { W with S := S2.keep id (bl, spOf page (clsAt k).2.1 k np) page (clsAt k).2.1 X } (U.set id none1) (M.set id none1) ->
      ∀ w', Sat (CentP E cb b h s r { W with S := S2.keep id (bl, spOf page (clsAt k).2.1 k np) page (clsAt k).2.1 X } :: Z) w' -> K id 0 w') : F.central_Central_Get E (some ⟨cb, 0, none⟩) p k np K w := by
  unfold F.central_Central_Get T0.central_Central_Get
  refine JOIN_intro (fun st w' => Sat (CentP E cb b h s r W :: Z) w' ∧ (st.1 = true ↔ ¬ (1 <= k ∧ k < 68))) (CND_dec (fun g => ⟨H, by simp; omega⟩) fun g => table_spec H fun r4 w5 H5 => ?_) ?_
  · have hl := H5.recLen (by decide) cls4_len
    rw [cls_len] at hl
    refine ⟨H5.tail, ?_⟩
    rw [decide_eq_true_eq]; omega
  rintro ⟨st, u⟩ _ w3 ⟨H3, hst⟩
  dsimp only at hst ⊢
  refine CND_intro (fun hq => hk0 (hst.1 hq) w3 H3) fun hq => ?_
  have hkk : 1 <= k ∧ k < 68 := Classical.byContradiction fun g => by rw [hst.2 g] at hq; cases hq
  obtain ⟨k0, k1⟩ := hkk
  let fs : List Value := [.func (.func E.f_central_Central_swept) #[.pointer (some ⟨cb, 0, none⟩)] #[], .func (.func E.f_central_Central_partial) #[.pointer (some ⟨cb, 0, none⟩)] #[], .func (.func E.f_central_Central_full) #[.pointer (some ⟨cb, 0, none⟩)] #[], .func (.func E.f_central_Central_fresh) #[.pointer (some ⟨cb, 0, none⟩)] #[]]
  refine AL_cells (vs := fs) H3 fun b6 w7 H7 _ => ?_
  refine LOOP_intro (fun st w' => ∃ i : Nat, st.1 = 0 ∧ st.2.1 = 0 ∧ st.2.2.1 = (i : Int) ∧ i <= 3 ∧ (1 <= i -> ofK W.L (k, np, false, true) = []) ∧ Sat (Cells b6 E.t_central_way fs :: CentP E cb b h s r W :: Z) w') (fun st _ => (4 - st.2.2.1).toNat) ⟨0, rfl, rfl, rfl, by decide, fun h => by omega, H7⟩ ?_
  rintro ⟨z0, z1, i', u⟩ _ w9 ⟨i, rfl, rfl, hi, hil, hno, H9⟩
  dsimp only at hi ⊢
  subst hi
  refine CND_dec (fun _ => ⟨⟨by omega, by omega⟩, ?_⟩) fun g => absurd (by omega) g
  have H9' : Sat (CentP E cb b h s r W :: Cells b6 E.t_central_way fs :: Z) w9 := H9.front 1 rfl
  have hT2 : ∀ w', Sat (Cells b6 E.t_central_way fs :: Z) w' -> TabAt E.g_math_bits_deBruijn64tab w' := fun w' h' => hT w' h'.tail
  rw [Int.toNat_natCast, Nat.mul_one]
  have go : ∀ {w'}, i < 3 -> (ofK W.L (k, np, false, true) = []) -> Sat (CentP E cb b h s r W :: Cells b6 E.t_central_way fs :: Z) w' -> (∃ i_1 : Nat, (0 : Int) = 0 ∧ (0 : Int) = 0 ∧ i64 ((i : Int) + 1) = (i_1 : Int) ∧ i_1 <= 3 ∧ (1 <= i_1 -> ofK W.L (k, np, false, true) = []) ∧ Sat (Cells b6 E.t_central_way fs :: CentP E cb b h s r W :: Z) w') ∧ (4 - i64 ((i : Int) + 1)).toNat < (4 - (i : Int)).toNat := fun {w'} hi3 hno h' => by
    rw [show i64 ((i : Int) + 1) = ((i + 1 : Nat) : Int) by rw [i64_id (by omega) (by omega)]; rfl]
    exact ⟨⟨i + 1, rfl, rfl, rfl, by omega, fun _ => hno, h'.front 1 rfl⟩, by omega⟩
  have hi4 : i = 0 ∨ i = 1 ∨ i = 2 ∨ i = 3 := by omega
  rcases hi4 with rfl | rfl | rfl | rfl
  · refine ⟨_, H9.cell (o := 0) (m := 0) rfl, hE.swept1 (some ⟨cb, 0, none⟩) p k np _ w9 (ceswept_spec hE H9' hI (fun h0 w' H' => ?_) fun x l hx hI2 w' H' => ?_)⟩
    · exact ⟨0, false, 0, rfl, JOIN_in (CND_f rfl fun j => CND_f rfl (go (by decide) h0 H'))⟩
    · exact ⟨x.id, true, 0, rfl, JOIN_in (CND_t rfl fun j => CND_t rfl (hk1 k0 k1 x l hx hI2 w' (H'.front 1 rfl).tail))⟩
  · refine ⟨_, H9.cell (o := 0) (m := 1) rfl, hE.partial1 (some ⟨cb, 0, none⟩) p k np _ w9 ?_⟩
    unfold F.central_Central_partial T0.central_Central_partial
    refine AL_cells (vs := [.int .i64 p, .int .i64 k, .bool np]) H9' fun b1 w2 H2 _ => ⟨_, H2.cell rfl, _, H2.cell rfl, _, H2.cell rfl, ceclean0_spec hE (H2.front 1 rfl) hsw fun w' H' => ?_⟩
    exact ⟨0, false, 0, rfl, JOIN_in (CND_f rfl fun j => CND_f rfl (go (by decide) (hno (by decide)) (H'.front 1 rfl).tail))⟩
  · refine ⟨_, H9.cell (o := 0) (m := 2) rfl, hE.full1 (some ⟨cb, 0, none⟩) p k np _ w9 ?_⟩
    unfold F.central_Central_full T0.central_Central_full
    refine AL_cells (vs := [.int .i64 p, .int .i64 k, .bool np]) H9' fun b1 w2 H2 _ => ⟨_, H2.cell rfl, _, H2.cell rfl, _, H2.cell rfl, ceclean0_spec hE (H2.front 1 rfl) hsw fun w' H' => ?_⟩
    exact ⟨0, false, 0, rfl, JOIN_in (CND_f rfl fun j => CND_f rfl (go (by decide) (hno (by decide)) (H'.front 1 rfl).tail))⟩
  · refine ⟨_, H9.cell (o := 0) (m := 3) rfl, hE.fresh1 (some ⟨cb, 0, none⟩) p k np _ w9 (cefresh_spec hE hT2 H9' hI k0 k1 (fun S2 hl hI2 w' H' => ?_) fun page S2 bl id X hf hok hI2 hX hnone q0 q1 hI3 w' H' => ?_)⟩
    · exact ⟨0, false, 13, rfl, JOIN_in (CND_f rfl fun j => CND_t rfl (hk2 k0 k1 (hno (by decide)) S2 hl hI2 w' (H'.front 1 rfl).tail))⟩
    · exact ⟨id, true, 0, rfl, JOIN_in (CND_t rfl fun j => CND_t rfl (hk3 k0 k1 (hno (by decide)) page S2 bl id X hf hok hI2 hX hnone q0 q1 hI3 w' (H'.front 1 rfl).tail))⟩
end
end Go.Sh

set_option linter.all false
set_option maxRecDepth 8000
set_option maxHeartbeats 8000000
namespace Go.Sh
section
variable {E : Env} {w : World} {Rs Z : List Pr}
theorem newfin19 {b1 t1 : Nat} {us : List Value} {s0 s1 s2 : SlV} {pl : List Int} {rf : List Bool} {fl : List Int} (hpl : ∀ x ∈ pl, 0 <= x ∧ x < 18446744073709551616)
    (k0 : pl.length <= 1099511627776) (k1 : rf.length <= 1099511627776) (k2 : fl.length <= 1099511627776)
    {K : Option Addr -> World -> Prop} (hK : ∀ b w', Sat (VmemP E b (newV pl rf fl) :: Rs) w' -> K (some ⟨b, 0, none⟩) w')
    (H : Sat (Cells b1 t1 us :: Row E.t_uint64 1 s0 (ints .u64 pl) :: Row E.t_bool 1 s1 (bools rf) :: Row E.t_uint64 1 s2 (ints .u64 fl) :: Rs) w) : F.vmem_New E s0 s1 s2 K w := by
  have e0 : pl.length = s0.len := by have := (H.front 1 rfl).rowLen; rw [ints, List.length_map] at this; omega
  have e1 : rf.length = s1.len := by have := (H.front 2 rfl).rowLen; rw [bools, List.length_map] at this; omega
  have e2 : fl.length = s2.len := by have := (H.front 3 rfl).rowLen; rw [ints, List.length_map] at this; omega
  refine vnew_spec H hpl (fun w' h => by simpa using (h.front 1 rfl).rowAll) e0 (by omega) (fun w' h => by simpa using (h.front 2 rfl).rowAll) e1 (by omega) (fun w' h => by simpa using (h.front 3 rfl).rowAll) e2 (by omega) fun b w11 H11 => hK b w11 ?_
  exact ((((H11.front 1 rfl).tail.front 1 rfl).tail.front 1 rfl).tail.front 1 rfl).tail
theorem fresh20_spec (H : Sat Rs w) {a0 a1 a2 : SlV} {pl : List Int} {rf : List Bool} {fl : List Int} (hpl : ∀ x ∈ pl, 0 <= x ∧ x < 18446744073709551616)
    (h0 : ∀ w', Sat Rs w' -> rowAt w' a0.base a0.len (ints .u64 pl)) (l0 : pl.length = a0.len) (k0 : a0.len <= 1099511627776)
    (h1 : ∀ w', Sat Rs w' -> rowAt w' a1.base a1.len (bools rf)) (l1 : rf.length = a1.len) (k1 : a1.len <= 1099511627776)
    (h2 : ∀ w', Sat Rs w' -> rowAt w' a2.base a2.len (ints .u64 fl)) (l2 : fl.length = a2.len) (k2 : a2.len <= 1099511627776)
    {K : Option Addr -> World -> Prop} (hK : ∀ cb b h s r w', Sat (CentP E cb b h s r (SW.new (HS.new (newV pl rf fl))) :: Rs) w' -> K (some ⟨cb, 0, none⟩) w') : F.mallowlaw20_fresh E a0 a1 a2 K w := by
  unfold F.mallowlaw20_fresh T0.mallowlaw20_fresh
  have l0' : (ints IntKind.u64 pl).length = a0.len := by rw [ints, List.length_map]; exact l0
  have l1' : (bools rf).length = a1.len := by rw [bools, List.length_map]; exact l1
  have l2' : (ints IntKind.u64 fl).length = a2.len := by rw [ints, List.length_map]; exact l2
  refine AL_cells (vs := [slV a0, slV a1, slV a2]) H fun b1 w2 H2 _ => ?_
  refine JOIN_intro (fun st w' => ∃ b, st.1 = some ⟨b, 0, none⟩ ∧ Sat (VmemP E b (newV pl rf fl) :: Rs) w') ?_ ?_
  · have Hd : Sat (Cells b1 E.t_api_Answers [slV a0, slV a1, slV a2] :: Emp :: Emp :: Emp :: Rs) w2.drew := (H2.drew.emp.emp.emp).front 3 rfl
    clear H2
    have t4 : ∀ {P0 P1 P2 : Pr} {w'}, Sat (P0 :: P1 :: P2 :: Rs) w' -> Sat Rs w' := fun h => h.tail.tail.tail
    refine ⟨a0, Hd.cell0 rfl, a1, Hd.cell rfl, a2, Hd.cell rfl, ?_⟩
    repeat' first
      | (exact Sat.cell (by assumption) (by rfl))
      | (exact Sat.cell0 (by assumption) (by rfl))
      | (refine app_slotG 1 (a := a0) (vs := ints .u64 pl) (by assumption) (by rfl) rfl (by intro w' h; exact h0 w' (t4 h)) l0' k0 (by decide) (oneIntsG _ _) fun s' w' H' => ?_)
      | (refine app_slotG 1 (a := a2) (vs := ints .u64 fl) (by assumption) (by rfl) rfl (by intro w' h; exact h2 w' (t4 h)) l2' k2 (by decide) (oneIntsG _ _) fun s' w' H' => ?_)
      | (refine app_slotG 2 (a := a1) (vs := bools rf) (by assumption) (by rfl) rfl (by intro w' h; exact h1 w' (t4 h)) l1' k1 (by decide) (oneBoolsG _) fun s' w' H' => ?_)
      | (refine app_slotG 3 (a := a0) (vs := ints .u64 pl) (by assumption) (by rfl) rfl (by intro w' h; exact h0 w' (t4 h)) l0' k0 (by decide) (oneIntsG _ _) fun s' w' H' => ?_)
      | (refine app_slotG 3 (a := a2) (vs := ints .u64 fl) (by assumption) (by rfl) rfl (by intro w' h; exact h2 w' (t4 h)) l2' k2 (by decide) (oneIntsG _ _) fun s' w' H' => ?_)
      | (refine al_slotG 2 (t := E.t_bool) (by assumption) (by rfl) fun b' w' H' => ?_)
      | (refine al_slotG 1 (t := E.t_uint64) (by assumption) (by rfl) fun b' w' H' => ?_)
      | (refine al_slotG 3 (t := E.t_uint64) (by assumption) (by rfl) fun b' w' H' => ?_)
      | (exact newfin19 hpl (by omega) (by omega) (by omega) (fun b w' h => ⟨b, rfl, h⟩) (by assumption))
      | (exact newfin19 hpl (by omega) (by omega) (by omega) (fun b w' h => ⟨b, rfl, h⟩) (Sat.perm (by assumption) (.cons _ (((List.Perm.swap _ _ _).trans (.cons _ (.swap _ _ _))).trans (.swap _ _ _)))))
      | (refine And.intro ?_ ?_)
  · rintro ⟨r, u⟩ _ w5 ⟨b, rfl, H5⟩
    refine CND_f rfl (hnew_spec H5 fun h w13 H13 => senew_spec H13 fun s w6 H6 => spcnew_spec H6 fun r w8 H8 => ?_)
    refine JOIN_in (CND_f rfl (CND_f rfl fun j => CND_f rfl (swnew_spec H8 fun b w13 H13 => CND_f rfl (cenew_spec H13 fun cb w15 H15 => ?_))))
    exact hK cb b h s r w15 H15
theorem fresh20_nil (H : Sat Rs w) {K : Option Addr -> World -> Prop} (hK : ∀ cb b h s r w', Sat (CentP E cb b h s r (SW.new (HS.new (newV [] [] []))) :: Rs) w' -> K (some ⟨cb, 0, none⟩) w') : F.mallowlaw20_fresh E ⟨none, 0, 0⟩ ⟨none, 0, 0⟩ ⟨none, 0, 0⟩ K w :=
  fresh20_spec (a0 := ⟨none, 0, 0⟩) (a1 := ⟨none, 0, 0⟩) (a2 := ⟨none, 0, 0⟩) H (pl := []) (rf := []) (fl := []) (by simp) (fun _ _ => show ([] : List Value) = [] from rfl) rfl (by decide) (fun _ _ => show ([] : List Value) = [] from rfl) rfl (by decide) (fun _ _ => show ([] : List Value) = [] from rfl) rfl (by decide) hK
end
end Go.Sh

set_option linter.all false
set_option maxRecDepth 8000
set_option maxHeartbeats 8000000
namespace Go.Sh
theorem clsp16 : ((List.range 68).all fun c => decide ((clsAt c).2.1 <= 16)) = true := by decide +kernel
theorem cls_p16 {c : Int} (h0 : 0 <= c) (h1 : c < 68) : (clsAt c).2.1 <= 16 := by
  have := List.all_eq_true.1 clsp16 c.toNat (List.mem_range.2 (by omega))
  rwa [decide_eq_true_eq, show ((c.toNat : Nat) : Int) = c by omega] at this
theorem upN_small {n : Int} (h0 : 1 <= n) (h1 : n <= 512) : upN n = 512 := by unfold upN; omega
section
variable {E : Env} {w : World} {Z : List Pr} (hE : EnvC E)
include hE
end
end Go.Sh

set_option linter.all false
set_option maxRecDepth 8000
namespace Go.Sh
open Ieee
theorem rd00 : rd 0 = .number false 0 (-1074) := by decide +kernel
theorem ord0a : (((rd 0).order (rd 4895412794951729152) == some .gt) || ((rd 0).order (rd 4895412794951729152) == some .eq)) = false := by decide +kernel
theorem ord0b : (((rd 0).order (rd 4607182418800017408) == some .gt) || ((rd 0).order (rd 4607182418800017408) == some .eq)) = false := by decide +kernel
theorem times_zero (n : Int) : timesV n 0 = 0 := by
  have e0 : (0 : Int).toNat = 0 := rfl
  cases hq : rd (fNear n) with
  | nan s f => exact timesV_none (by rw [fArith_mul, e0, hq]; rfl)
  | infinity s =>
    refine timesV_none ?_
    rw [fArith_mul, e0, hq, rd00]
    simp [Datum.product]
  | number s m i =>
    have hx : fArith .mul (fNear n) (0 : Int).toNat = some (double.write (.number (s ^^ false) (m * 0) (i + -1074))) := by
      rw [fArith_mul, e0, hq, rd00]; rfl
    have hw : double.write (.number (s ^^ false) (m * 0) (i + -1074)) = double.word s 0 := by
      show double.nearest (s ^^ false) (m * 0) (i + -1074) = _
      unfold Format.nearest
      rw [if_pos (by simp), Bool.xor_false]
    rw [hw] at hx
    cases s with
    | false =>
      have hx : fArith .mul (fNear n) (0 : Int).toNat = some 0 := hx
      exact timesV_low hx (by rw [fOrd_eq]; exact ord0a) (by rw [fOrd_eq]; exact ord0b)
    | true =>
      have hn := word_neg 0 (by decide)
      exact timesV_low hx (neg_low hn _ pos64) (neg_low hn _ pos1)
end Go.Sh

set_option linter.all false
set_option maxRecDepth 8000
set_option maxHeartbeats 8000000
namespace Go.Sh
structure EnvK (E : Env) : Prop extends EnvC E where
  refill1 : ∀ a b c (R : Value -> World -> Prop) w, F.cache_Cache_Alloc_1 E a b c (fun e w' => R (.int .i64 e) w') w -> E.call E.f_cache_Cache_Alloc_1 #[.pointer a, .pointer b, .pointer c] w R noP
structure KS where
  p : Int
  hd : Nat -> Int
  tiny : Int
  away : Int
def kscells (cb : Nat) (C : KS) : List Value := .pointer (some ⟨cb, 0, none⟩) :: .int .i64 C.p :: (((List.range 136).map fun j => .int .i64 (C.hd j)) ++ [.int .u64 C.tiny, .int .i64 C.away])
def KashP (E : Env) (c cb : Nat) (C : KS) : Pr := Cells c E.t_cache_Cache (kscells cb C)
theorem ks_len (cb : Nat) (C : KS) : (kscells cb C).length = 140 := by simp [kscells]
theorem ks_hd (cb : Nat) (C : KS) {j : Nat} (hj : j < 136) : (kscells cb C)[j + 2]? = some (.int .i64 (C.hd j)) := by
  unfold kscells
  rw [List.getElem?_cons_succ, List.getElem?_cons_succ, List.getElem?_append_left (by simpa using hj)]
  simp [hj]
theorem ks_tiny (cb : Nat) (C : KS) : (kscells cb C)[138]? = some (.int .u64 C.tiny) := by
  unfold kscells
  rw [show 138 = 136 + 1 + 1 from rfl, List.getElem?_cons_succ, List.getElem?_cons_succ, List.getElem?_append_right (by simp)]
  simp
theorem ks_away (cb : Nat) (C : KS) : (kscells cb C)[139]? = some (.int .i64 C.away) := by
  unfold kscells
  rw [show 139 = 137 + 1 + 1 from rfl, List.getElem?_cons_succ, List.getElem?_cons_succ, List.getElem?_append_right (by simp)]
  simp
theorem map_setI (f : Nat -> Int) (n k : Nat) (v : Int) : ((List.range n).map fun j => Value.int .i64 (f j)).set k (.int .i64 v) = (List.range n).map fun j => Value.int .i64 (if j = k then v else f j) := by
  refine List.ext_getElem (by simp) fun i h1 h2 => ?_
  simp only [List.length_set, List.length_map, List.length_range] at h1
  simp only [List.getElem_set, List.getElem_map, List.getElem_range]
  by_cases e : k = i
  · rw [if_pos e, if_pos e.symm]
  · rw [if_neg e, if_neg (fun h => e h.symm)]
theorem ks_setHd (cb : Nat) (C : KS) {j : Nat} (hj : j < 136) (v : Int) : (kscells cb C).set (j + 2) (.int .i64 v) = kscells cb { C with hd := fun i => if i = j then v else C.hd i } := by
  unfold kscells
  rw [List.set_cons_succ, List.set_cons_succ, List.set_append_left _ _ (by simpa using hj), map_setI]
theorem ks_setTiny (cb : Nat) (C : KS) (v : Int) : (kscells cb C).set 138 (.int .u64 v) = kscells cb { C with tiny := v } := by
  unfold kscells
  rw [show 138 = 136 + 1 + 1 from rfl, List.set_cons_succ, List.set_cons_succ, List.set_append_right _ _ (by simp)]
  simp
theorem ks_setAway (cb : Nat) (C : KS) (v : Int) : (kscells cb C).set 139 (.int .i64 v) = kscells cb { C with away := v } := by
  unfold kscells
  rw [show 139 = 137 + 1 + 1 from rfl, List.set_cons_succ, List.set_cons_succ, List.set_append_right _ _ (by simp)]
  simp
def kIx (k : Int) (np : Bool) : Nat := k.toNat * 2 + if np = true then 1 else 0
theorem kIx_lt {k : Int} {np : Bool} (h0 : 0 <= k) (h1 : k < 68) : kIx k np < 136 := by unfold kIx; split <;> omega
def KS.held (C : KS) (k : Int) (np : Bool) : Int := if 0 < k ∧ k < 68 then C.hd (kIx k np) else 0
def KS.hold (C : KS) (k : Int) (np : Bool) (id : Int) : KS := { C with hd := fun i => if i = kIx k np then id else C.hd i }
section
variable {E : Env} {w : World} {Z : List Pr} {c cb : Nat} {C : KS}
theorem kaPtr (H : Sat (KashP E c cb C :: Z) w) : w.cell? (Addr.mk c 0 none) = some (.pointer (some ⟨cb, 0, none⟩)) ∧ w.cell? ((Addr.mk c 0 none).add 1) = some (.int .i64 C.p) ∧ w.cell? ((Addr.mk c 0 none).add 138) = some (.int .u64 C.tiny) ∧ w.cell? ((Addr.mk c 0 none).add 139) = some (.int .i64 C.away) :=
  have H : Sat (Cells c E.t_cache_Cache (kscells cb C) :: Z) w := H
  ⟨H.cell0 rfl, H.cell rfl, H.cell (by rw [Nat.zero_add]; exact ks_tiny cb C), H.cell (by rw [Nat.zero_add]; exact ks_away cb C)⟩
theorem kanew_spec (H : Sat Z w) {p : Int} {K : Option Addr -> World -> Prop} (hK : ∀ c w', Sat (KashP E c cb ⟨p, fun _ => 0, 0, 0⟩ :: Z) w' -> K (some ⟨c, 0, none⟩) w') : F.cache_New E (some ⟨cb, 0, none⟩) p K w := by
  unfold F.cache_New
  exact AL_cells (vs := kscells cb ⟨p, fun _ => 0, 0, 0⟩) H fun c w' H' _ => hK c w' H'
theorem kakind {np : Bool} {K : Int -> World -> Prop} (hK : K (if np = true then 1 else 0) w) : F.cache_kind E np K w := by
  unfold F.cache_kind
  cases np
  · exact CND_f rfl hK
  · exact CND_t rfl hK
theorem karight {k : Int} {K : Bool -> World -> Prop} (h1 : 0 < k ∧ k < 68 -> K true w) (h0 : ¬ (0 < k ∧ k < 68) -> K false w) : F.cache_right E k K w := by
  unfold F.cache_right
  refine CND_dec (fun g => ?_) fun g => h0 (by omega)
  by_cases e : k < 68
  · rw [decide_eq_true e]; exact h1 ⟨g, e⟩
  · rw [decide_eq_false e]; exact h0 (by omega)
theorem kaheld_spec (H : Sat (KashP E c cb C :: Z) w) {k : Int} {np : Bool} {K : Int -> World -> Prop} (hK : ∀ w', Sat (KashP E c cb C :: Z) w' -> K (C.held k np) w') : F.cache_Cache_Held E (some ⟨c, 0, none⟩) k np K w := by
  unfold F.cache_Cache_Held T0.cache_Cache_Held
  refine karight (fun g => CND_f rfl (NC_in ⟨by omega, kakind ?_⟩)) fun g => CND_t rfl ?_
  · have hr : ((0 : Int) <= (if np = true then 1 else 0) ∧ ((if np = true then 1 else 0 : Int)) < (2 : Nat)) := by cases np <;> decide
    refine ⟨hr, C.hd (kIx k np), ?_, ?_⟩
    · have H' : Sat (Cells c E.t_cache_Cache (kscells cb C) :: Z) w.drew := H.drew
      rw [add_add, add_add]
      have e : 2 + (Int.toNat k * 2 + Int.toNat (if np = true then 1 else 0) * 1) = kIx k np + 2 := by unfold kIx; cases np <;> simp <;> omega
      rw [e]
      exact H'.cell (by rw [Nat.zero_add]; exact ks_hd cb C (kIx_lt (by omega) g.2))
    · have := hK _ H.drew
      unfold KS.held at this
      rwa [if_pos g] at this
  · have := hK _ H
    unfold KS.held at this
    rwa [if_neg g] at this
theorem kahold_spec (H : Sat (KashP E c cb C :: Z) w) {k id : Int} {np : Bool} (hk : 0 < k ∧ k < 68) {K : World -> Prop} (hK : ∀ w', Sat (KashP E c cb (C.hold k np id) :: Z) w' -> K w') : F.cache_Cache_Hold E (some ⟨c, 0, none⟩) k np id K w := by
  unfold F.cache_Cache_Hold T0.cache_Cache_Hold
  have hr : ((0 : Int) <= (if np = true then 1 else 0) ∧ ((if np = true then 1 else 0 : Int)) < (2 : Nat)) := by cases np <;> decide
  refine NC_in ⟨by omega, kakind ⟨hr, ?_⟩⟩
  have H' : Sat (Cells c E.t_cache_Cache (kscells cb C) :: Z) w.drew := H.drew
  rw [add_add, add_add]
  have e : 2 + (Int.toNat k * 2 + Int.toNat (if np = true then 1 else 0) * 1) = kIx k np + 2 := by unfold kIx; cases np <;> simp <;> omega
  rw [e]
  refine st_cell H' (o := 0) rfl (by rw [ks_len]; have := kIx_lt (k := k) (np := np) (by omega) hk.2; omega) fun w' H2 => hK w' ?_
  rw [Nat.zero_add, ks_setHd cb C (kIx_lt (by omega) hk.2)] at H2
  exact H2
end
end Go.Sh

set_option linter.all false
set_option maxRecDepth 8000
set_option maxHeartbeats 8000000
namespace Go.Sh
theorem sp_zero {W : SW} {U M : Bits} (hI : SwInv W U M) : W.S.sp 0 = none := by
  refine Classical.byContradiction fun g => ?_
  obtain ⟨a, ha, _⟩ := (hI.hI.sf 0).1 g
  omega
theorem hold_held (C : KS) {k : Int} {np : Bool} (h0 : 0 < k) (h1 : k < 68) (id : Int) : (C.hold k np id).held k np = id := by
  unfold KS.held KS.hold
  rw [if_pos ⟨h0, h1⟩]
  simp
theorem kIx_inj {k l : Int} {np mp : Bool} (h0 : 0 <= k) (h1 : 0 <= l) (h : kIx k np = kIx l mp) : k = l ∧ np = mp := by
  unfold kIx at h
  cases np <;> cases mp <;> simp at h ⊢ <;> omega
theorem hold_other (C : KS) {k l : Int} {np mp : Bool} (h0 : 0 < k) (h : ¬ (l = k ∧ mp = np)) (id : Int) : (C.hold k np id).held l mp = C.held l mp := by
  unfold KS.held
  by_cases g : 0 < l ∧ l < 68
  · rw [if_pos g, if_pos g]
    unfold KS.hold
    simp only
    rw [if_neg]
    intro e
    have := kIx_inj (by omega) (by omega) e
    exact h this
  · rw [if_neg g, if_neg g]
theorem hold_hold (C : KS) (k : Int) (np : Bool) (a b : Int) : (C.hold k np a).hold k np b = C.hold k np b := by
  unfold KS.hold
  simp only [KS.mk.injEq, true_and, and_true]
  funext i
  split <;> rfl
section
variable {E : Env} {w : World} {Z : List Pr} {c cb b h s r : Nat} {C : KS} {W : SW} {U M : Bits}
theorem swrepay0_spec (H : Sat (SweepP E b h s r W :: Z) w) (hr : W.rate = 0) (hp : 0 <= W.repaid) {K : Int -> World -> Prop} (hK : ∀ w', Sat (SweepP E b h s r W :: Z) w' -> K 0 w') : F.sweep_Sweeper_Repay E (some ⟨b, 0, none⟩) K w := by
  unfold F.sweep_Sweeper_Repay T0.sweep_Sweeper_Repay
  refine LOOP_intro (fun _ w' => Sat (SweepP E b h s r W :: Z) w') (fun _ _ => 0) H ?_
  rintro _ _ w2 H2
  refine swdebt_spec H2 hp fun w5 H5 => ?_
  have e : W.debt = 0 := by
    unfold SW.debt
    rw [hr, times_zero]
    split <;> omega
  rw [e]
  exact CND_f rfl (hK w5 H5)
theorem kaslot_spec (hT : ∀ w', Sat Z w' -> TabAt E.g_math_bits_deBruijn64tab w') (H : Sat (KashP E c cb C :: CentP E cb b h s r W :: Z) w) (hI : SwInv W U M) {k : Int} {np : Bool} {K : Int -> Bool -> World -> Prop}
    (hk0 : W.S.sp (C.held k np) = none -> ∀ w', Sat (KashP E c cb C :: CentP E cb b h s r W :: Z) w' -> K 0 false w')
    (hk1 : ∀ x, W.S.sp (C.held k np) = some x -> (∀ i : Nat, (i : Int) < x.2.slots -> U (C.held k np) i = true) -> ∀ w', Sat (KashP E c cb C :: CentP E cb b h s r W :: Z) w' -> K 0 false w')
    (hk2 : ∀ x (n : Nat) uw', W.S.sp (C.held k np) = some x -> (n : Int) < x.2.slots -> U (C.held k np) n = false -> (∀ i, i < n -> U (C.held k np) i = true) ->
      SwInv { W with S := W.S.put (C.held k np) (x.1, { x.2 with uw := uw', used := x.2.used + 1, look := (n : Int) + 1 }) } (U.set (C.held k np) fun i => U (C.held k np) i || i == n) M ->
      ∀ w', Sat (KashP E c cb C :: CentP E cb b h s r { W with S := W.S.put (C.held k np) (x.1, { x.2 with uw := uw', used := x.2.used + 1, look := (n : Int) + 1 }) } :: Z) w' -> K (x.2.base + n * x.2.elem) true w') :
    F.cache_Cache_Slot E (some ⟨c, 0, none⟩) k np K w := by
  unfold F.cache_Cache_Slot T0.cache_Cache_Slot
  have hT2 : ∀ w', Sat (Cells cb E.t_central_Central [.pointer (some ⟨b, 0, none⟩)] :: KashP E c cb C :: Z) w' -> TabAt E.g_math_bits_deBruijn64tab w' := fun w' h' => hT w' h'.tail.tail
  refine NC_in ⟨_, (kaPtr H).1, cesweeper_spec (H.front 1 rfl) (swheap_spec (H.front 1 rfl : Sat (CentP E cb b h s r W :: KashP E c cb C :: Z) w).centSw ?_)⟩
  refine kaheld_spec H fun w8 H8 => ?_
  have H9 : Sat (SweepP E b h s r W :: Cells cb E.t_central_Central [.pointer (some ⟨b, 0, none⟩)] :: KashP E c cb C :: Z) w8 := (H8.front 1 rfl : Sat (CentP E cb b h s r W :: KashP E c cb C :: Z) w8).centSw
  have bk : ∀ {W' : SW} {w'}, Sat (SweepP E b h s r W' :: Cells cb E.t_central_Central [.pointer (some ⟨b, 0, none⟩)] :: KashP E c cb C :: Z) w' -> Sat (KashP E c cb C :: CentP E cb b h s r W' :: Z) w' := fun h' => (h'.swCent).perm (.swap _ _ _)
  refine swspan_spec H9 (fun hn => CND_t rfl (hk0 hn w8 H8)) fun x hx => CND_f rfl ?_
  refine swslot_spec hT2 H9 hI hx (fun hall w' H' => CND_t rfl (hk1 x hx hall w' (bk H'))) fun n uw' hn hu hl hI2 w14 H14 => CND_f rfl ?_
  refine swslotaddr_spec H14 hI2 (id := C.held k np) (x := (x.1, { x.2 with uw := uw', used := x.2.used + 1, look := (n : Int) + 1 })) HS.put_sp (by omega) hn fun w17 H17 => ?_
  exact hk2 x n uw' hx hn hu hl hI2 w17 (bk H17)
variable (hE : EnvK E)
include hE
def HeldOk (W : SW) (C : KS) (k : Int) (np : Bool) : Prop := C.held k np = 0 ∨ (0 < C.held k np ∧ ∃ y, W.S.sp (C.held k np) = some y ∧ ∀ x ∈ W.L, x.id ≠ C.held k np)
def Letd (W : SW) (C : KS) (k : Int) (np : Bool) (W0 : SW) : Prop := (C.held k np = 0 ∧ W0 = W) ∨ (0 < C.held k np ∧ ∃ y blk, W.S.sp (C.held k np) = some y ∧ (∀ x ∈ W.L, x.id ≠ C.held k np) ∧ W0 = { W with L := insB W.L ⟨blk, C.held k np, y.2.base, (y.2.cls, y.2.noptr, y.2.used == y.2.slots, true)⟩ })
theorem kalet_spec (H : Sat (KashP E c cb C :: CentP E cb b h s r W :: Z) w) (hI : SwInv W U M) {k : Int} {np : Bool} (hk : 0 < k ∧ k < 68) (hf : W.L.length < 1099511627776) (hH : HeldOk W C k np) {K : World -> Prop}
    (hK : ∀ W0, Letd W C k np W0 -> SwInv W0 U M -> ∀ w', Sat (KashP E c cb (C.hold k np 0) :: CentP E cb b h s r W0 :: Z) w' -> K w') : F.cache_Cache_Let E (some ⟨c, 0, none⟩) k np K w := by
  unfold F.cache_Cache_Let T0.cache_Cache_Let
  refine kaheld_spec H fun w2 H2 => ?_
  rcases hH with h0 | ⟨hp, y, hy, hno⟩
  · rw [h0]
    refine CND_f rfl ?_
    have e : C.hold k np 0 = C := by
      unfold KS.hold
      have : (fun i => if i = kIx k np then 0 else C.hd i) = C.hd := by
        funext i
        split
        · rename_i e
          have h1 := h0
          unfold KS.held at h1
          rw [if_pos hk] at h1
          rw [e, h1]
        · rfl
      rw [this]
    have := hK W (.inl ⟨h0, rfl⟩) hI w2
    rw [e] at this
    exact this H2
  · refine CND_t (by simpa using hp) (NC_in ⟨_, (kaPtr H2).1, ?_⟩)
    refine ceback_spec hE.toEnvC (H2.front 1 rfl : Sat (CentP E cb b h s r W :: KashP E c cb C :: Z) w2) hI hf (fun hn => by rw [hy] at hn; cases hn) (fun _ ⟨z, hz, e⟩ => absurd e (hno z hz)) fun x hx _ blk hI2 w6 H6 => ?_
    rw [hy] at hx
    cases hx
    refine kahold_spec (H6.front 1 rfl : Sat (KashP E c cb C :: CentP E cb b h s r _ :: Z) w6) hk fun w7 H7 => ?_
    exact hK _ (.inr ⟨hp, y, blk, hy, hno, rfl⟩) hI2 w7 H7
theorem kabytes_spec (H : Sat Z w) {k : Int} (hk : 0 < k ∧ k < 68) {K : Int -> World -> Prop} (hK : ∀ w', Sat Z w' -> K ((clsAt k).2.1 * 8192) w') : F.cache_Bytes E k K w := by
  unfold F.cache_Bytes T0.cache_Bytes
  refine table_spec H fun r1 w2 H2 => ?_
  have hl := H2.recLen (by decide) cls4_len
  rw [cls_len] at hl
  obtain ⟨x, hx⟩ := H2.recBase (by decide) cls4_len (i := k.toNat) (by rw [cls_len]; omega)
  have hcb := cls_bnd (c := k) (by omega) hk.2
  rw [hx]
  refine NC_in ⟨⟨by omega, by omega⟩, _, by rw [add_add]; exact H2.recCell cls4_len hx (cls_at (by omega) hk.2) (j := 1) rfl, ?_⟩
  rw [u64_id (n := (clsAt k).2.1) (by omega) (by omega), u64_id (by omega) (by omega)]
  exact hK w2 H2.tail
end
end Go.Sh

set_option linter.all false
set_option maxRecDepth 8000
set_option maxHeartbeats 8000000
namespace Go.Sh
def SW.chg (W : SW) (k : Int) : SW := { W with charged := chargedV W.charged ((clsAt k).2.1 * 8192) }
theorem SwInv.chg {W : SW} {U M : Bits} (h : SwInv W U M) (k : Int) : SwInv (W.chg k) U M := ⟨h.hI, h.sp, h.it⟩
def Owns (W : SW) (C : KS) : Prop := ∀ k np, C.held k np = 0 ∨ (0 < C.held k np ∧ (∃ y, W.S.sp (C.held k np) = some y ∧ y.2.cls = k ∧ y.2.noptr = np) ∧ ∀ x ∈ W.L, x.id ≠ C.held k np)
structure Sane (W : SW) : Prop where
  sw : ∀ x ∈ W.L, x.swept = true
  kd : ∀ x ∈ W.L, ∃ y, W.S.sp x.id = some y ∧ x.kd = (y.2.cls, y.2.noptr, y.2.used == y.2.slots, true)
  rate : W.rate = 0
  rp : 0 <= W.repaid
  ch : 0 <= W.charged ∧ W.charged < 18446744073709551616
theorem chg_ch {W : SW} (h : 0 <= W.charged ∧ W.charged < 18446744073709551616) {k : Int} (k0 : 0 < k) (k1 : k < 68) : 0 <= (W.chg k).charged ∧ (W.chg k).charged < 18446744073709551616 := by
  have hp := cls_bnd (c := k) (by omega) k1
  show 0 <= chargedV _ _ ∧ chargedV _ _ < _
  unfold chargedV
  split <;> omega
theorem Sane.letd {W W0 : SW} {C : KS} {k : Int} {np : Bool} (h : Sane W) (hl : Letd W C k np W0) : Sane W0 := by
  rcases hl with ⟨_, rfl⟩ | ⟨_, y, blk, hy, hno, rfl⟩
  · exact h
  · refine ⟨fun x hx => ?_, fun x hx => ?_, h.rate, h.rp, h.ch⟩
    · rcases (mem_insB).1 hx with rfl | hx
      · rfl
      · exact h.sw x hx
    · rcases (mem_insB).1 hx with rfl | hx
      · exact ⟨y, hy, rfl⟩
      · exact h.kd x hx
section
variable {E : Env} {w : World} {Z : List Pr} {c cb b h s r : Nat} {C : KS} {W : SW} {U M : Bits}
variable (hE : EnvK E)
include hE
theorem karefill_spec (hT : ∀ w', Sat Z w' -> TabAt E.g_math_bits_deBruijn64tab w') {b1 b3 b5 t1 t3 t5 : Nat} {k : Int} {np : Bool}
    (H : Sat (KashP E c cb C :: CentP E cb b h s r W :: Cells b1 t1 [.pointer (some ⟨c, 0, none⟩)] :: Cells b3 t3 [.int .i64 k] :: Cells b5 t5 [.bool np] :: Z) w) (hI : SwInv W U M) (hS : Sane W) (hk : 0 < k ∧ k < 68) (hf : W.L.length < 1099511627776) (hH : HeldOk W C k np) {K : Int -> World -> Prop}
    (hkl : ∀ W0, Letd W C k np W0 -> ofK W0.L (k, np, false, true) = [] -> ∀ S2, Lost W0.S C.p (clsAt k).2.1 S2 -> SwInv { W0.chg k with S := S2 } U M -> ∀ w', Sat (KashP E c cb (C.hold k np 0) :: CentP E cb b h s r { W0.chg k with S := S2 } :: Cells b1 t1 [.pointer (some ⟨c, 0, none⟩)] :: Cells b3 t3 [.int .i64 k] :: Cells b5 t5 [.bool np] :: Z) w' -> K 13 w')
    (hks : ∀ W0, Letd W C k np W0 -> ∀ x l, ofK W0.L (k, np, false, true) = x :: l -> SwInv { W0.chg k with L := remB W0.L x.id } U M -> ∀ w', Sat (KashP E c cb (C.hold k np x.id) :: CentP E cb b h s r { W0.chg k with L := remB W0.L x.id } :: Cells b1 t1 [.pointer (some ⟨c, 0, none⟩)] :: Cells b3 t3 [.int .i64 k] :: Cells b5 t5 [.bool np] :: Z) w' -> K 0 w')
    (hkf : ∀ W0, Letd W C k np W0 -> ofK W0.L (k, np, false, true) = [] -> ∀ page S2 bl id X, Found W0.S C.p (clsAt k).2.1 page S2 -> HOk W0.S -> HInv S2 (inr page (clsAt k).2.1) -> Next S2 id X -> W0.S.sp id = none -> 0 <= page -> page + (clsAt k).2.1 <= 34359738368 -> SwInv { W0.chg k with S := S2.keep id (bl, spOf page (clsAt k).2.1 k np) page (clsAt k).2.1 X } (U.set id none1) (M.set id none1) ->
      ∀ w', Sat (KashP E c cb (C.hold k np id) :: CentP E cb b h s r { W0.chg k with S := S2.keep id (bl, spOf page (clsAt k).2.1 k np) page (clsAt k).2.1 X } :: Cells b1 t1 [.pointer (some ⟨c, 0, none⟩)] :: Cells b3 t3 [.int .i64 k] :: Cells b5 t5 [.bool np] :: Z) w' -> K 0 w') :
    F.cache_Cache_Alloc_1 E (some ⟨b1, 0, none⟩) (some ⟨b3, 0, none⟩) (some ⟨b5, 0, none⟩) K w := by
  unfold F.cache_Cache_Alloc_1 T0.cache_Cache_Alloc_1
  refine NC_in ⟨_, (H.front 2 rfl).cell0 rfl, NC_in ⟨_, (H.front 3 rfl).cell0 rfl, NC_in ⟨_, (H.front 4 rfl).cell0 rfl, ?_⟩⟩⟩
  refine kalet_spec hE H hI hk hf hH fun W0 hl hI0 w7 H7 => ?_
  have hS0 := hS.letd hl
  refine NC_in ⟨_, (H7.front 2 rfl).cell0 rfl, NC_in ⟨_, (kaPtr H7).1, cesweeper_spec (H7.front 1 rfl) (NC_in ⟨_, (H7.front 3 rfl).cell0 rfl, kabytes_spec hE H7 hk fun w17 H17 => ?_⟩)⟩⟩
  have hcb := cls_bnd (c := k) (by omega) hk.2
  have Hs : Sat (SweepP E b h s r W0 :: Cells cb E.t_central_Central [.pointer (some ⟨b, 0, none⟩)] :: KashP E c cb (C.hold k np 0) :: Cells b1 t1 [.pointer (some ⟨c, 0, none⟩)] :: Cells b3 t3 [.int .i64 k] :: Cells b5 t5 [.bool np] :: Z) w17 := (H17.front 1 rfl : Sat (CentP E cb b h s r W0 :: _) w17).centSw
  refine swcharge_spec Hs hS0.ch (by omega) fun w18 H18 => ?_
  refine swrepay0_spec (W := W0.chg k) H18 hS0.rate hS0.rp fun w20 H20 => CND_f rfl ?_
  have H21 : Sat (CentP E cb b h s r (W0.chg k) :: KashP E c cb (C.hold k np 0) :: Cells b1 t1 [.pointer (some ⟨c, 0, none⟩)] :: Cells b3 t3 [.int .i64 k] :: Cells b5 t5 [.bool np] :: Z) w20.drew := (H20.drew).swCent
  have H22 := (H21.front 1 rfl : Sat (KashP E c cb (C.hold k np 0) :: CentP E cb b h s r (W0.chg k) :: _) w20.drew)
  refine NC_in ⟨_, (H21.front 2 rfl).cell0 rfl, NC_in ⟨_, (kaPtr H22).1, NC_in ⟨_, (H21.front 2 rfl).cell0 rfl, NC_in ⟨_, (kaPtr H22).2.1, NC_in ⟨_, (H21.front 3 rfl).cell0 rfl, NC_in ⟨_, (H21.front 4 rfl).cell0 rfl, ?_⟩⟩⟩⟩⟩⟩
  have hT2 : ∀ w', Sat (KashP E c cb (C.hold k np 0) :: Cells b1 t1 [.pointer (some ⟨c, 0, none⟩)] :: Cells b3 t3 [.int .i64 k] :: Cells b5 t5 [.bool np] :: Z) w' -> TabAt E.g_math_bits_deBruijn64tab w' := fun w' h' => hT w' h'.tail.tail.tail.tail
  have fin : ∀ {W' : SW} {id e : Int} {w'}, Sat (CentP E cb b h s r W' :: KashP E c cb (C.hold k np 0) :: Cells b1 t1 [.pointer (some ⟨c, 0, none⟩)] :: Cells b3 t3 [.int .i64 k] :: Cells b5 t5 [.bool np] :: Z) w' -> (∀ w'', Sat (KashP E c cb (C.hold k np id) :: CentP E cb b h s r W' :: Cells b1 t1 [.pointer (some ⟨c, 0, none⟩)] :: Cells b3 t3 [.int .i64 k] :: Cells b5 t5 [.bool np] :: Z) w'' -> K e w'') ->
      w'.cell? (Addr.mk b1 0 none) = some (.pointer (some ⟨c, 0, none⟩)) ∧ w'.cell? (Addr.mk b1 0 none) = some (.pointer (some ⟨c, 0, none⟩)) ∧ NC (some (Addr.mk b1 0 none)) fun p36 => ∃ x37 : (Option Addr), w'.cell? p36 = some (.pointer x37) ∧ NC (some (Addr.mk b3 0 none)) fun p38 => ∃ x39 : Int, w'.cell? p38 = some (.int .i64 x39) ∧ NC (some (Addr.mk b5 0 none)) fun p40 => ∃ x41 : Bool, w'.cell? p40 = some (.bool x41) ∧ F.cache_Cache_Hold E x37 x39 x41 id (fun w42 => K e w42) w' := fun {W' id e w'} h' hK => by
    refine ⟨(h'.front 2 rfl).cell0 rfl, (h'.front 2 rfl).cell0 rfl, NC_in ⟨_, (h'.front 2 rfl).cell0 rfl, NC_in ⟨_, (h'.front 3 rfl).cell0 rfl, NC_in ⟨_, (h'.front 4 rfl).cell0 rfl, ?_⟩⟩⟩⟩
    refine kahold_spec (h'.front 1 rfl) hk fun w'' h'' => ?_
    rw [hold_hold] at h''
    exact hK w'' h''
  refine ceget_spec hE.toEnvC hT2 H21 (hI0.chg k) hS0.sw (fun g => absurd ⟨by omega, hk.2⟩ g) (fun _ _ x l hx hI1 w' H' => ?_) (fun _ _ h0 S2 hlost hI1 w' H' => ?_) fun _ _ h0 page S2 bl id X hfd hok hI2 hX hnone q0 q1 hI3 w' H' => ?_
  · exact fin H' fun w'' h'' => hks W0 hl x l hx hI1 w'' h''
  · exact fin H' fun w'' h'' => hkl W0 hl h0 S2 hlost hI1 w'' h''
  · exact fin H' fun w'' h'' => hkf W0 hl h0 page S2 bl id X hfd hok hI2 hX hnone q0 q1 hI3 w'' h''
end
end Go.Sh

set_option linter.all false
set_option maxRecDepth 8000
set_option maxHeartbeats 8000000
namespace Go.Sh
def Dry (W : SW) (U : Bits) (C : KS) (k : Int) (np : Bool) : Prop := ∀ x, W.S.sp (C.held k np) = some x -> ∀ i : Nat, (i : Int) < x.2.slots -> U (C.held k np) i = true
def SW.take (W : SW) (id : Int) (x : Nat × SI) (uw : List Int) (n : Nat) : SW := { W with S := W.S.put id (x.1, { x.2 with uw := uw, used := x.2.used + 1, look := (n : Int) + 1 }) }
def Bits.take (U : Bits) (id : Int) (n : Nat) : Bits := U.set id fun i => U id i || i == n
theorem Owns.heldOk {W : SW} {C : KS} (h : Owns W C) (k : Int) (np : Bool) : HeldOk W C k np := by
  rcases h k np with h0 | ⟨h1, ⟨y, hy, _⟩, h3⟩
  · exact .inl h0
  · exact .inr ⟨h1, y, hy, h3⟩
theorem full_of {S : SI} {U M : Nat -> Bool} (h : SpG S U M) (ha : ∀ i : Nat, (i : Int) < S.slots -> U i = true) : S.used = S.slots := by
  have := h.sl
  rw [h.cnt, cN_all fun i hi => ha i (by omega)]
  omega
theorem letd_S {W W0 : SW} {C : KS} {k : Int} {np : Bool} (h : Letd W C k np W0) : W0.S = W.S ∧ W0.rate = W.rate ∧ W0.charged = W.charged ∧ W0.repaid = W.repaid ∧ W0.R = W.R := by
  rcases h with ⟨_, rfl⟩ | ⟨_, y, blk, hy, hno, rfl⟩ <;> exact ⟨rfl, rfl, rfl, rfl, rfl⟩
section
variable {E : Env} {w : World} {Z : List Pr} {c cb b h s r : Nat} {C : KS} {W : SW} {U M : Bits}
variable (hE : EnvK E)
include hE
theorem kaalloc_spec (hT : ∀ w', Sat Z w' -> TabAt E.g_math_bits_deBruijn64tab w') {k : Int} {np : Bool}
    (H : Sat (KashP E c cb C :: CentP E cb b h s r W :: Z) w) (hI : SwInv W U M) (hS : Sane W) (hO : Owns W C) (hf : W.L.length < 1099511627776) {K : Int -> Int -> World -> Prop}
    (hka : ¬ (0 < k ∧ k < 68) -> ∀ w', Sat (KashP E c cb C :: CentP E cb b h s r W :: Z) w' -> K 0 1 w')
    (hkb : 0 < k -> k < 68 -> ∀ x (n : Nat) uw', W.S.sp (C.held k np) = some x -> (n : Int) < x.2.slots -> U (C.held k np) n = false -> (∀ i, i < n -> U (C.held k np) i = true) -> SwInv (W.take (C.held k np) x uw' n) (U.take (C.held k np) n) M ->
      ∀ w', Sat (KashP E c cb C :: CentP E cb b h s r (W.take (C.held k np) x uw' n) :: Z) w' -> K (x.2.base + n * x.2.elem) 0 w')
    (hkl : 0 < k -> k < 68 -> Dry W U C k np -> ∀ W0, Letd W C k np W0 -> ofK W0.L (k, np, false, true) = [] -> ∀ S2, Lost W.S C.p (clsAt k).2.1 S2 -> SwInv { W0.chg k with S := S2 } U M -> ∀ w', Sat (KashP E c cb (C.hold k np 0) :: CentP E cb b h s r { W0.chg k with S := S2 } :: Z) w' -> K 0 13 w')
    (hks : 0 < k -> k < 68 -> Dry W U C k np -> ∀ W0, Letd W C k np W0 -> ∀ x l, ofK W0.L (k, np, false, true) = x :: l -> ∀ y (n : Nat) uw', W.S.sp x.id = some y -> (n : Int) < y.2.slots -> U x.id n = false -> (∀ i, i < n -> U x.id i = true) -> SwInv (SW.take { W0.chg k with L := remB W0.L x.id } x.id y uw' n) (U.take x.id n) M ->
      ∀ w', Sat (KashP E c cb (C.hold k np x.id) :: CentP E cb b h s r (SW.take { W0.chg k with L := remB W0.L x.id } x.id y uw' n) :: Z) w' -> K (y.2.base + n * y.2.elem) 0 w')
    (hkf : 0 < k -> k < 68 -> Dry W U C k np -> ∀ W0, Letd W C k np W0 -> ofK W0.L (k, np, false, true) = [] -> ∀ page S2 bl id X uw', Found W.S C.p (clsAt k).2.1 page S2 -> HOk W.S -> HInv S2 (inr page (clsAt k).2.1) -> Next S2 id X -> W.S.sp id = none -> 0 <= page -> page + (clsAt k).2.1 <= 34359738368 ->
      SwInv (SW.take { W0.chg k with S := S2.keep id (bl, spOf page (clsAt k).2.1 k np) page (clsAt k).2.1 X } id (bl, spOf page (clsAt k).2.1 k np) uw' 0) ((U.set id none1).take id 0) (M.set id none1) ->
      ∀ w', Sat (KashP E c cb (C.hold k np id) :: CentP E cb b h s r (SW.take { W0.chg k with S := S2.keep id (bl, spOf page (clsAt k).2.1 k np) page (clsAt k).2.1 X } id (bl, spOf page (clsAt k).2.1 k np) uw' 0) :: Z) w' -> K (page * 8192) 0 w') :
    F.cache_Cache_Alloc E (some ⟨c, 0, none⟩) k np K w := by
  unfold F.cache_Cache_Alloc T0.cache_Cache_Alloc
  refine AL_cells (vs := [.pointer (some ⟨c, 0, none⟩)]) H fun b1 w2 H2 _ => AL_cells (vs := [.int .i64 k]) H2 fun b3 w4 H4 _ => AL_cells (vs := [.bool np]) H4 fun b5 w6 H6 _ => ?_
  have H6 : Sat (Cells b5 E.t_bool [.bool np] :: Cells b3 E.t_int [.int .i64 k] :: Cells b1 E.t__cache_Cache [.pointer (some ⟨c, 0, none⟩)] :: KashP E c cb C :: CentP E cb b h s r W :: Z) w6 := H6
  have HA : Sat (KashP E c cb C :: CentP E cb b h s r W :: Cells b1 E.t__cache_Cache [.pointer (some ⟨c, 0, none⟩)] :: Cells b3 E.t_int [.int .i64 k] :: Cells b5 E.t_bool [.bool np] :: Z) w6 := (((H6.front 1 rfl).front 2 rfl).front 4 rfl).front 4 rfl
  clear H6
  have dr : ∀ {P Q : Pr} {w'}, Sat (P :: Q :: Cells b1 E.t__cache_Cache [.pointer (some ⟨c, 0, none⟩)] :: Cells b3 E.t_int [.int .i64 k] :: Cells b5 E.t_bool [.bool np] :: Z) w' -> Sat (P :: Q :: Z) w' := fun h => ((((((h.front 2 rfl).tail).front 2 rfl).tail).front 2 rfl).tail)
  have hT2 : ∀ w', Sat (Cells b1 E.t__cache_Cache [.pointer (some ⟨c, 0, none⟩)] :: Cells b3 E.t_int [.int .i64 k] :: Cells b5 E.t_bool [.bool np] :: Z) w' -> TabAt E.g_math_bits_deBruijn64tab w' := fun w' h' => hT w' h'.tail.tail.tail
  refine ⟨_, (HA.front 3 rfl).cell0 rfl, karight (fun g => CND_f rfl ?_) fun g => CND_t rfl (hka g _ (dr HA))⟩
  obtain ⟨k0, k1⟩ := g
  refine ⟨_, (HA.front 2 rfl).cell0 rfl, _, (HA.front 3 rfl).cell0 rfl, _, (HA.front 4 rfl).cell0 rfl, ?_⟩
  have go : Dry W U C k np -> ∀ {w'}, Sat (KashP E c cb C :: CentP E cb b h s r W :: Cells b1 E.t__cache_Cache [.pointer (some ⟨c, 0, none⟩)] :: Cells b3 E.t_int [.int .i64 k] :: Cells b5 E.t_bool [.bool np] :: Z) w' ->
      CAL E.call E.f_cache_Cache_Alloc_1 #[.pointer (some (Addr.mk b1 0 none)), .pointer (some (Addr.mk b3 0 none)), .pointer (some (Addr.mk b5 0 none))] w' fun r16 w17 =>
      ∃ x18 : Int, r16 = .int .i64 x18 ∧ CND ((x18 : Int) != 0) (K 0 x18 w17) (
        ∃ x19 : (Option Addr), w17.cell? (Addr.mk b1 0 none) = some (.pointer x19) ∧ ∃ x20 : Int, w17.cell? (Addr.mk b3 0 none) = some (.int .i64 x20) ∧ ∃ x21 : Bool, w17.cell? (Addr.mk b5 0 none) = some (.bool x21) ∧
        F.cache_Cache_Slot E x19 x20 x21 (fun r22 r23 w24 => K r22 0 w24) w17) := fun hd {w'} h' => by
    refine hE.refill1 _ _ _ _ w' (karefill_spec hE hT h' hI hS ⟨k0, k1⟩ hf (hO.heldOk k np) (fun W0 hl h0 S2 hlost hI2 w2 H2 => ?_) (fun W0 hl x l hx hI2 w2 H2 => ?_) fun W0 hl h0 page S2 bl id X hfd hok hI2 hX hnone q0 q1 hI3 w2 H2 => ?_)
    · rw [(letd_S hl).1] at hlost
      exact ⟨13, rfl, CND_t rfl (hkl k0 k1 hd W0 hl h0 S2 hlost hI2 w2 (dr H2))⟩
    · refine ⟨0, rfl, CND_f rfl ⟨_, (H2.front 2 rfl).cell0 rfl, _, (H2.front 3 rfl).cell0 rfl, _, (H2.front 4 rfl).cell0 rfl, ?_⟩⟩
      have hS0 := hS.letd hl
      have hm := mem_ofK.1 (show x ∈ ofK W0.L (k, np, false, true) by rw [hx]; exact List.mem_cons_self)
      obtain ⟨y, hy, hy2⟩ := hS0.kd x hm.1
      have e : (y.2.used == y.2.slots) = false := by
        rw [hm.2] at hy2
        injection hy2 with _ e; injection e with _ e; injection e with e _
        exact e.symm
      have hne : y.2.used ≠ y.2.slots := by simpa using e
      have hh : (C.hold k np x.id).held k np = x.id := hold_held C k0 k1 x.id
      refine kaslot_spec hT2 H2 hI2 (fun hn => ?_) (fun z hz hall => ?_) fun z n uw' hz hn hu hlow hI4 w4 H4 => ?_
      · rw [hh] at hn
        have hn : W0.S.sp x.id = none := hn
        rw [hy] at hn; cases hn
      · rw [hh] at hz hall
        have hz : W0.S.sp x.id = some z := hz
        rw [hy] at hz
        cases hz
        obtain ⟨hok, hg⟩ := hI2.sp x.id y hy
        exact absurd (full_of hg hall) hne
      · rw [hh] at hz hu hlow hI4 H4
        have hz : W0.S.sp x.id = some z := hz
        rw [(letd_S hl).1] at hz
        exact hks k0 k1 hd W0 hl x l hx z n uw' hz hn hu hlow hI4 w4 (dr H4)
    · refine ⟨0, rfl, CND_f rfl ⟨_, (H2.front 2 rfl).cell0 rfl, _, (H2.front 3 rfl).cell0 rfl, _, (H2.front 4 rfl).cell0 rfl, ?_⟩⟩
      have hh : (C.hold k np id).held k np = id := hold_held C k0 k1 id
      rw [(letd_S hl).1] at hfd hok hnone
      have hspid : (S2.keep id (bl, spOf page (clsAt k).2.1 k np) page (clsAt k).2.1 X).sp id = some (bl, spOf page (clsAt k).2.1 k np) := if_pos rfl
      have hcp := cls_at_pos (c := k) (by omega) k1
      have hsl : (0 : Int) < (spOf page (clsAt k).2.1 k np).slots := by
        show (0 : Int) < if k = 0 then (1 : Int) else (clsAt k).2.2.1
        rw [if_neg (by omega)]; omega
      have hbse : (spOf page (clsAt k).2.1 k np).base = page * 8192 := rfl
      have hU0 : ∀ j, (U.set id none1) id j = false := fun j => by rw [Bits.set_at]; rfl
      refine kaslot_spec hT2 H2 hI3 (fun hn => ?_) (fun z hz hall => ?_) fun z n uw' hz hn hu hlow hI4 w4 H4 => ?_
      · rw [hh] at hn
        rw [show (SW.S _).sp id = _ from hspid] at hn; cases hn
      · rw [hh] at hz hall
        rw [show (SW.S _).sp id = _ from hspid] at hz
        cases hz
        have := hall 0 hsl
        rw [hU0] at this; cases this
      · rw [hh] at hz hu hlow hI4 H4
        rw [show (SW.S _).sp id = _ from hspid] at hz
        cases hz
        have hn0 : n = 0 := by
          rcases Nat.eq_zero_or_pos n with h | h
          · exact h
          · have := hlow 0 h
            rw [hU0] at this; cases this
        subst hn0
        have := hkf k0 k1 hd W0 hl h0 page S2 bl id X uw' hfd hok hI2 hX hnone q0 q1 hI4 w4 (dr H4)
        rw [show (spOf page (clsAt k).2.1 k np).base + ((0 : Nat) : Int) * (spOf page (clsAt k).2.1 k np).elem = page * 8192 by rw [hbse]; omega]
        exact this
  refine kaslot_spec hT2 HA hI (fun hn w' H' => CND_f rfl (go (fun x hx => by rw [hn] at hx; cases hx) H')) (fun x hx hall w' H' => CND_f rfl (go (fun y hy => by rw [hx] at hy; cases hy; exact hall) H')) fun x n uw' hx hn hu hlow hI2 w' H' => CND_t rfl (hkb k0 k1 x n uw' hx hn hu hlow hI2 w' (dr H'))
end
end Go.Sh

set_option linter.all false
set_option maxRecDepth 8000
set_option maxHeartbeats 8000000
namespace Go.Sh
def alT (n : Int) : Int := if n % 2 ≠ 0 then 1 else if n % 4 ≠ 0 then 2 else if n % 8 ≠ 0 then 4 else 8
def offT (away n : Int) : Int := (away + alT n - 1) / alT n * alT n
theorem alT_cases (n : Int) : (alT n = 1 ∧ n % 2 ≠ 0) ∨ (alT n = 2 ∧ n % 2 = 0 ∧ n % 4 ≠ 0) ∨ (alT n = 4 ∧ n % 4 = 0 ∧ n % 8 ≠ 0) ∨ (alT n = 8 ∧ n % 8 = 0) := by
  unfold alT
  split
  · exact .inl ⟨rfl, by assumption⟩
  · split
    · exact .inr (.inl ⟨rfl, by omega, by assumption⟩)
    · split
      · exact .inr (.inr (.inl ⟨rfl, by omega, by assumption⟩))
      · exact .inr (.inr (.inr ⟨rfl, by omega⟩))
theorem offT_bnd (away n : Int) : away <= offT away n ∧ offT away n < away + alT n ∧ offT away n % alT n = 0 := by
  unfold offT
  rcases alT_cases n with h | h | h | h <;> (rw [h.1]; omega)
def KS.began (C : KS) (a n : Int) : KS := if C.tiny = 0 ∨ n < C.away then { C with tiny := a, away := n } else C
def KS.flushed (C : KS) : KS := { C with tiny := 0, away := 0 }
theorem hold0_same {C : KS} {k : Int} {np : Bool} (hk : 0 < k ∧ k < 68) (h0 : C.held k np = 0) : C.hold k np 0 = C := by
  unfold KS.hold
  have : (fun i => if i = kIx k np then 0 else C.hd i) = C.hd := by
    funext i
    split
    · rename_i e
      unfold KS.held at h0
      rw [if_pos hk] at h0
      rw [e, h0]
    · rfl
  rw [this]
section
variable {E : Env} {w : World} {Z : List Pr} {c cb b h s r : Nat} {C : KS} {W : SW} {U M : Bits}
theorem kaoffset_spec (H : Sat (KashP E c cb C :: Z) w) {n : Int} (h1 : 1 <= n) (h2 : n < 16) (ha : 0 <= C.away ∧ C.away <= 1000) {K : Int -> World -> Prop} (hK : K (offT C.away n) w) : F.cache_Cache_offset E (some ⟨c, 0, none⟩) n K w := by
  unfold F.cache_Cache_offset
  refine JOIN_intro (fun st w' => w' = w ∧ st.1 = alT n) ?_ ?_
  · refine LOOP_intro (fun st w' => w' = w ∧ (st.1 = 1 ∨ (st.1 = 2 ∧ n % 2 = 0) ∨ (st.1 = 4 ∧ n % 4 = 0) ∨ (st.1 = 8 ∧ n % 8 = 0))) (fun st _ => (9 - st.1).toNat) ⟨rfl, .inl rfl⟩ ?_
    rintro ⟨a, u⟩ _ w2 ⟨rfl, hc⟩
    dsimp only at hc ⊢
    refine CND_dec (fun hlt => ?_) fun hge => ?_
    · have hc' : a = 1 ∨ (a = 2 ∧ n % 2 = 0) ∨ (a = 4 ∧ n % 4 = 0) := by omega
      have e1 : i64 (2 * a) = 2 * a := i64_id (by omega) (by omega)
      have e2 : i64 (a * 2) = a * 2 := i64_id (by omega) (by omega)
      rw [e1, e2]
      refine ⟨by omega, CND_eq (fun g => ⟨⟨rfl, ?_⟩, by omega⟩) fun g => ⟨rfl, ?_⟩⟩
      · rw [Int.tmod_eq_emod_of_nonneg (by omega)] at g
        rcases hc' with rfl | ⟨rfl, _⟩ | ⟨rfl, _⟩
        · exact .inr (.inl ⟨rfl, g⟩)
        · exact .inr (.inr (.inl ⟨rfl, g⟩))
        · exact .inr (.inr (.inr ⟨rfl, g⟩))
      · rw [Int.tmod_eq_emod_of_nonneg (by omega)] at g
        show a = alT n
        rcases alT_cases n with h | h | h | h <;> rcases hc' with rfl | ⟨rfl, _⟩ | ⟨rfl, _⟩ <;> omega
    · refine ⟨rfl, ?_⟩
      show a = alT n
      rcases alT_cases n with h | h | h | h <;> omega
  · rintro ⟨a, u⟩ _ w3 ⟨rfl, rfl⟩
    refine NC_in ⟨_, (kaPtr H).2.2.2, ?_⟩
    have hb := offT_bnd C.away n
    have hac := alT_cases n
    refine ⟨by omega, ?_⟩
    have e1 : i64 (C.away + alT n) = C.away + alT n := i64_id (by omega) (by omega)
    have e2 : i64 (C.away + alT n - 1) = C.away + alT n - 1 := i64_id (by omega) (by omega)
    have e3 : Int.tdiv (C.away + alT n - 1) (alT n) = (C.away + alT n - 1) / alT n := Int.tdiv_eq_ediv_of_nonneg (by omega)
    have e4 : i64 ((C.away + alT n - 1) / alT n) = (C.away + alT n - 1) / alT n := by rcases hac with h | h | h | h <;> (rw [h.1]; exact i64_id (by omega) (by omega))
    have e5 : i64 ((C.away + alT n - 1) / alT n * alT n) = offT C.away n := i64_id (by show _ <= offT C.away n; omega) (by show offT C.away n < _; omega)
    dsimp only
    rw [e1, e2, e3, e4, e5]
    exact hK
theorem katiny_spec (H : Sat (KashP E c cb C :: Z) w) {n : Int} (ha : 0 <= C.away ∧ C.away <= 16) (ht : 0 <= C.tiny ∧ C.tiny < 281474976710656) {K : Int -> Bool -> Int -> World -> Prop}
    (h1 : ¬ (1 <= n ∧ n < 16) -> K 0 false 1 w)
    (h2 : 1 <= n -> n < 16 -> C.tiny ≠ 0 -> offT C.away n + n <= 16 -> ∀ w', Sat (KashP E c cb { C with away := offT C.away n + n } :: Z) w' -> K (C.tiny + offT C.away n) false 0 w')
    (h3 : 1 <= n -> n < 16 -> (C.tiny = 0 ∨ 16 < offT C.away n + n) -> F.cache_Cache_Alloc E (some ⟨c, 0, none⟩) 2 true (fun r7 r8 w9 => CND ((r8 : Int) != 0) (K 0 false r8 w9) (F.cache_Cache_Began E (some ⟨c, 0, none⟩) r7 n (fun w10 => K r7 true 0 w10) w9)) w) :
    F.cache_Cache_Tiny E (some ⟨c, 0, none⟩) n K w := by
  unfold F.cache_Cache_Tiny T0.cache_Cache_Tiny
  refine JOIN_intro (fun st w' => w' = w ∧ (st.1 = true ↔ ¬ (1 <= n ∧ n < 16))) (CND_dec (fun g => ⟨rfl, by simp; omega⟩) fun g => ⟨rfl, by simp; omega⟩) ?_
  rintro ⟨st, u⟩ _ w3 ⟨rfl, hst⟩
  dsimp only at hst ⊢
  refine CND_intro (fun g => h1 (hst.1 g)) fun g => ?_
  have hn : 1 <= n ∧ n < 16 := Classical.byContradiction fun e => by rw [hst.2 e] at g; cases g
  unfold F.cache_Cache_Piece T0.cache_Cache_Piece
  have hb := offT_bnd C.away n
  have hac := alT_cases n
  have e1 : i64 (offT C.away n + n) = offT C.away n + n := i64_id (by omega) (by omega)
  refine kaoffset_spec H hn.1 hn.2 ⟨ha.1, by omega⟩ ?_
  refine JOIN_intro (fun st w' => w' = w3 ∧ (st.1 = true ↔ (C.tiny = 0 ∨ 16 < offT C.away n + n))) (NC_in ⟨_, (kaPtr H).2.2.1, CND_eq (fun g => ⟨rfl, by simp [g]⟩) fun g => ⟨rfl, by rw [e1]; simp [g]⟩⟩) ?_
  rintro ⟨st2, u⟩ _ w5 ⟨rfl, hst2⟩
  dsimp only at hst2 ⊢
  refine CND_intro (fun g2 => CND_f rfl (h3 hn.1 hn.2 (hst2.1 g2))) fun g2 => ?_
  have hno : ¬ (C.tiny = 0 ∨ 16 < offT C.away n + n) := fun e => by rw [hst2.2 e] at g2; cases g2
  refine NC_in ?_
  have H' : Sat (Cells c E.t_cache_Cache (kscells cb C) :: Z) w5 := H
  refine st_cell H' (o := 0) rfl (by rw [ks_len]; decide) fun w9 H9 => ?_
  rw [Nat.zero_add, e1, ks_setAway] at H9
  refine NC_in ⟨_, (kaPtr H9).2.2.1, CND_t rfl ?_⟩
  have e2 : u64 (offT C.away n) = offT C.away n := u64_id (by omega) (by omega)
  have e3 : u64 (C.tiny + offT C.away n) = C.tiny + offT C.away n := u64_id (by omega) (by omega)
  dsimp only
  rw [e2, e3]
  exact h2 hn.1 hn.2 (fun e => hno (.inl e)) (by omega) w9 H9
theorem kabegan_spec (H : Sat (KashP E c cb C :: Z) w) {a n : Int} {K : World -> Prop} (hK : ∀ w', Sat (KashP E c cb (C.began a n) :: Z) w' -> K w') : F.cache_Cache_Began E (some ⟨c, 0, none⟩) a n K w := by
  unfold F.cache_Cache_Began
  refine JOIN_intro (fun st w' => w' = w ∧ (st.1 = true ↔ (C.tiny = 0 ∨ n < C.away))) (NC_in ⟨_, (kaPtr H).2.2.1, CND_eq (fun g => ⟨rfl, by simp [g]⟩) fun g => NC_in ⟨_, (kaPtr H).2.2.2, rfl, by simp [g]⟩⟩) ?_
  rintro ⟨st, u⟩ _ w3 ⟨rfl, hst⟩
  dsimp only at hst ⊢
  unfold KS.began at hK
  refine CND_intro (fun g => ?_) fun g => ?_
  · rw [if_pos (hst.1 g)] at hK
    have H' : Sat (Cells c E.t_cache_Cache (kscells cb C) :: Z) w3 := H
    refine NC_in (st_cell H' (o := 0) rfl (by rw [ks_len]; decide) fun w9 H9 => NC_in ?_)
    rw [Nat.zero_add, ks_setTiny] at H9
    refine st_cell H9 (o := 0) rfl (by rw [ks_len]; decide) fun w11 H11 => ?_
    rw [Nat.zero_add, ks_setAway] at H11
    exact hK w11 H11
  · rw [if_neg (fun e => by rw [hst.2 e] at g; cases g)] at hK
    exact hK w3 H
variable (hE : EnvK E)
include hE
end
end Go.Sh

set_option linter.all false
set_option maxRecDepth 8000
set_option maxHeartbeats 8000000
namespace Go.Sh
theorem slot_in {x : SI} (h : SpOk x) {n : Nat} (hn : (n : Int) < x.slots) : 0 <= (n : Int) * x.elem ∧ (n : Int) * x.elem + x.elem <= x.pages * 8192 := by
  have hs := h.size
  have h1 : ((n : Int) + 1) * x.elem <= x.slots * x.elem := Int.mul_le_mul_of_nonneg_right (by omega) (by omega)
  have h2 : ((n : Int) + 1) * x.elem = n * x.elem + x.elem := by rw [Int.add_mul, Int.one_mul]
  have h3 : 0 <= (n : Int) * x.elem := Int.mul_nonneg (by omega) (by omega)
  rw [Int.mul_comm x.slots] at h1
  omega
theorem span_lo {W : SW} {U M : Bits} (hI : SwInv W U M) {b : Int} (hL : LaidB W.S b) {i : Int} {x : Nat × SI} (hx : W.S.sp i = some x) : 4194304 <= x.2.base := by
  obtain ⟨a1, a2, a3, _, a5⟩ := hI.hI.sp i x hx
  have := a5 (x.2.base / 8192) (by omega) (by omega)
  have h1 := (hI.hI.ow (x.2.base / 8192) (by omega)).1
  have := (hL.la _).1 ((hI.hI.la _).2 h1)
  omega
structure KAll (W : SW) (n : Nat) (C D : KS) : Prop where
  sane : Sane W
  la : ∃ b, LaidB W.S b ∧ b <= 512 + 512 * (n : Int)
  len : W.L.length <= n
  oc : Owns W C
  od : Owns W D
  ap : ∀ k np, C.held k np ≠ 0 -> C.held k np ≠ D.held k np
theorem KAll.mono {W : SW} {n m : Nat} {C D : KS} (h : KAll W n C D) (hm : n <= m) : KAll W m C D := by
  obtain ⟨b, h1, h2⟩ := h.la
  exact ⟨h.sane, ⟨b, h1, by omega⟩, Nat.le_trans h.len hm, h.oc, h.od, h.ap⟩
theorem Owns.ne {W : SW} {C D : KS} (h : Owns W C) (h2 : Owns W D) {k k' : Int} {np np' : Bool} (hne : ¬ (k' = k ∧ np' = np)) (h0 : C.held k np ≠ 0) : D.held k' np' ≠ C.held k np := by
  intro e
  rcases h k np with g | ⟨_, ⟨y, hy, hy1, hy2⟩, _⟩
  · exact h0 g
  rcases h2 k' np' with g | ⟨_, ⟨z, hz, hz1, hz2⟩, _⟩
  · exact h0 (e ▸ g)
  · rw [e, hy] at hz
    cases hz
    exact hne ⟨hz1.symm.trans hy1, hz2.symm.trans hy2⟩
theorem KAll.letd {W W0 : SW} {n : Nat} {C D : KS} (h : KAll W n C D) {k : Int} {np : Bool} (hk : 0 < k ∧ k < 68) (hl : Letd W C k np W0) : KAll W0 (n + 1) (C.hold k np 0) D := by
  have hS0 := h.sane.letd hl
  have hh : ∀ k' np', (C.hold k np 0).held k' np' = if k' = k ∧ np' = np then 0 else C.held k' np' := fun k' np' => by
    by_cases e : k' = k ∧ np' = np
    · rw [if_pos e, e.1, e.2]; exact hold_held C hk.1 hk.2 0
    · rw [if_neg e]; exact hold_other C hk.1 e 0
  rcases hl with ⟨h0, rfl⟩ | ⟨hp, y, blk, hy, hno, rfl⟩
  · rw [hold0_same hk h0]; exact h.mono (by omega)
  · have nl : ∀ {X : KS}, Owns W X -> ∀ k' np', X.held k' np' ≠ 0 -> X.held k' np' ≠ C.held k np -> ∀ it ∈ insB W.L ⟨blk, C.held k np, y.2.base, (y.2.cls, y.2.noptr, y.2.used == y.2.slots, true)⟩, it.id ≠ X.held k' np' := fun {X} hX k' np' g0 g1 it hit => by
      rcases mem_insB.1 hit with rfl | hit
      · exact fun e => g1 e.symm
      · rcases hX k' np' with q | ⟨_, _, q⟩
        · exact absurd q g0
        · exact q it hit
    obtain ⟨b, hb1, hb2⟩ := h.la
    refine ⟨hS0, ⟨b, hb1, by omega⟩, ?_, fun k' np' => ?_, fun k' np' => ?_, fun k' np' => ?_⟩
    · rw [show (SW.L _) = insB W.L _ from rfl, (insB_perm W.L _).length_eq]
      show W.L.length + 1 <= n + 1
      have := h.len; omega
    · rw [hh]
      by_cases e : k' = k ∧ np' = np
      · rw [if_pos e]; exact .inl rfl
      · rw [if_neg e]
        rcases h.oc k' np' with q | ⟨q1, q2, q3⟩
        · exact .inl q
        · exact .inr ⟨q1, q2, nl h.oc k' np' (by omega) (h.oc.ne h.oc e (by omega))⟩
    · rcases h.od k' np' with q | ⟨q1, q2, q3⟩
      · exact .inl q
      · refine .inr ⟨q1, q2, nl h.od k' np' (by omega) ?_⟩
        by_cases e : k' = k ∧ np' = np
        · rw [e.1, e.2]; exact fun g => h.ap k np (by omega) g.symm
        · exact h.oc.ne h.od e (by omega)
    · rw [hh]
      by_cases e : k' = k ∧ np' = np
      · rw [if_pos e]; exact fun g => absurd rfl g
      · rw [if_neg e]; exact h.ap k' np'
theorem KAll.chg {W : SW} {n : Nat} {C D : KS} (h : KAll W n C D) {k : Int} (hk : 0 < k ∧ k < 68) : KAll (W.chg k) n C D :=
  ⟨⟨h.sane.sw, h.sane.kd, h.sane.rate, h.sane.rp, chg_ch h.sane.ch hk.1 hk.2⟩, h.la, h.len, h.oc, h.od, h.ap⟩
theorem KAll.rem {W : SW} {n : Nat} {C D : KS} (h : KAll W n C D) {k : Int} {np : Bool} (hk : 0 < k ∧ k < 68) (h0 : C.held k np = 0) {x : Itm} {l : List Itm} (hx : ofK W.L (k, np, false, true) = x :: l) (hid : 0 < x.id) :
    KAll { W with L := remB W.L x.id } n (C.hold k np x.id) D ∧ ∃ y, W.S.sp x.id = some y ∧ y.2.cls = k ∧ y.2.noptr = np := by
  have hm := mem_ofK.1 (show x ∈ ofK W.L (k, np, false, true) by rw [hx]; exact List.mem_cons_self)
  obtain ⟨y, hy, hy2⟩ := h.sane.kd x hm.1
  have e1 : y.2.cls = k ∧ y.2.noptr = np := by
    rw [hm.2] at hy2
    injection hy2 with a1 e; injection e with a2 e
    exact ⟨a1.symm, a2.symm⟩
  have hh : ∀ k' np', (C.hold k np x.id).held k' np' = if k' = k ∧ np' = np then x.id else C.held k' np' := fun k' np' => by
    by_cases e : k' = k ∧ np' = np
    · rw [if_pos e, e.1, e.2]; exact hold_held C hk.1 hk.2 _
    · rw [if_neg e]; exact hold_other C hk.1 e _
  have sub : ∀ {z}, z ∈ remB W.L x.id -> z ∈ W.L := fun hz => (mem_remB.1 hz).1
  have dn : ∀ k' np', D.held k' np' ≠ x.id := fun k' np' e => by
    rcases h.od k' np' with q | ⟨_, _, q⟩
    · omega
    · exact q x hm.1 e.symm
  refine ⟨⟨⟨fun z hz => h.sane.sw z (sub hz), fun z hz => h.sane.kd z (sub hz), h.sane.rate, h.sane.rp, h.sane.ch⟩, h.la, Nat.le_trans (List.length_filter_le _ _) h.len, fun k' np' => ?_, fun k' np' => ?_, fun k' np' => ?_⟩, y, hy, e1⟩
  · rw [hh]
    by_cases e : k' = k ∧ np' = np
    · rw [if_pos e]
      exact .inr ⟨hid, ⟨y, hy, by rw [e.1, e.2]; exact e1⟩, fun z hz => (mem_remB.1 hz).2⟩
    · rw [if_neg e]
      rcases h.oc k' np' with q | ⟨q1, q2, q3⟩
      · exact .inl q
      · exact .inr ⟨q1, q2, fun z hz => q3 z (sub hz)⟩
  · rcases h.od k' np' with q | ⟨q1, q2, q3⟩
    · exact .inl q
    · exact .inr ⟨q1, q2, fun z hz => q3 z (sub hz)⟩
  · rw [hh]
    by_cases e : k' = k ∧ np' = np
    · rw [if_pos e]; exact fun _ g => dn k' np' g.symm
    · rw [if_neg e]; exact h.ap k' np'
theorem KAll.take {W : SW} {n : Nat} {C D : KS} (h : KAll W n C D) {id : Int} {x : Nat × SI} (hx : W.S.sp id = some x) (hno : ∀ it ∈ W.L, it.id ≠ id) (uw : List Int) (m : Nat) : KAll (W.take id x uw m) n C D := by
  have ow : ∀ {X : KS}, Owns W X -> Owns (W.take id x uw m) X := fun {X} hX k np => by
    rcases hX k np with q | ⟨q1, ⟨y, hy, hy2⟩, q3⟩
    · exact .inl q
    · refine .inr ⟨q1, ?_, q3⟩
      by_cases e : X.held k np = id
      · refine ⟨(x.1, { x.2 with uw := uw, used := x.2.used + 1, look := (m : Int) + 1 }), by rw [e]; exact HS.put_sp, ?_⟩
        rw [e, hx] at hy
        cases hy
        exact hy2
      · exact ⟨y, (HS.put_ne e).trans hy, hy2⟩
  obtain ⟨b, hb1, hb2⟩ := h.la
  exact ⟨⟨h.sane.sw, fun z hz => by
    obtain ⟨y, hy, hy2⟩ := h.sane.kd z hz
    exact ⟨y, (HS.put_ne (hno z hz)).trans hy, hy2⟩, h.sane.rate, h.sane.rp, h.sane.ch⟩, ⟨b, hb1.sameV rfl rfl, hb2⟩, h.len, ow h.oc, ow h.od, h.ap⟩
theorem KAll.fresh {W : SW} {n : Nat} {C D : KS} (h : KAll W n C D) {k : Int} {np : Bool} (hk : 0 < k ∧ k < 68) (h0 : C.held k np = 0) (hn : n <= 1000) {p page id : Int} {S2 : HS} {bl : Nat} {X : FX} (hf : Found W.S p (clsAt k).2.1 page S2) (hok : HOk W.S) (hnone : W.S.sp id = none) (hid : 0 < id) :
    KAll { W with S := S2.keep id (bl, spOf page (clsAt k).2.1 k np) page (clsAt k).2.1 X } (n + 1) (C.hold k np id) D := by
  obtain ⟨b, hb1, hb2⟩ := h.la
  have hp := cls_at_pos (c := k) (by omega) hk.2
  have hp16 := cls_p16 (c := k) (by omega) hk.2
  have hu := upN_small (n := (clsAt k).2.1) (by omega) (by omega)
  obtain ⟨b', hb', hL⟩ := hf.laid hb1 hok (by omega) (by omega)
  have es := hf.same
  have hspid : (S2.keep id (bl, spOf page (clsAt k).2.1 k np) page (clsAt k).2.1 X).sp id = some (bl, spOf page (clsAt k).2.1 k np) := if_pos rfl
  have hspne : ∀ i, i ≠ id -> (S2.keep id (bl, spOf page (clsAt k).2.1 k np) page (clsAt k).2.1 X).sp i = W.S.sp i := fun i hi => by
    show (if i = id then _ else S2.sp i) = _
    rw [if_neg hi, es.sp]
  have keepsp : ∀ {i y}, W.S.sp i = some y -> (S2.keep id (bl, spOf page (clsAt k).2.1 k np) page (clsAt k).2.1 X).sp i = some y := fun {i y} hy => by
    rw [hspne i (fun e => by rw [e, hnone] at hy; cases hy)]; exact hy
  have hh : ∀ k' np', (C.hold k np id).held k' np' = if k' = k ∧ np' = np then id else C.held k' np' := fun k' np' => by
    by_cases e : k' = k ∧ np' = np
    · rw [if_pos e, e.1, e.2]; exact hold_held C hk.1 hk.2 _
    · rw [if_neg e]; exact hold_other C hk.1 e _
  have ow : ∀ {Y : KS}, Owns W Y -> Owns { W with S := S2.keep id (bl, spOf page (clsAt k).2.1 k np) page (clsAt k).2.1 X } Y := fun {Y} hY k' np' => by
    rcases hY k' np' with q | ⟨q1, ⟨y, hy, hy2⟩, q3⟩
    · exact .inl q
    · exact .inr ⟨q1, ⟨y, keepsp hy, hy2⟩, q3⟩
  refine ⟨⟨h.sane.sw, fun z hz => ?_, h.sane.rate, h.sane.rp, h.sane.ch⟩, ⟨b', hL.keep _ _ _ _ _, by rcases hb' with rfl | rfl <;> omega⟩, by have := h.len; show W.L.length <= n + 1; omega, fun k' np' => ?_, ow h.od, fun k' np' => ?_⟩
  · obtain ⟨y, hy, hy2⟩ := h.sane.kd z hz
    exact ⟨y, keepsp hy, hy2⟩
  · rw [hh]
    by_cases e : k' = k ∧ np' = np
    · rw [if_pos e]
      refine .inr ⟨hid, ⟨_, hspid, e.1.symm, e.2.symm⟩, fun z hz g => ?_⟩
      obtain ⟨y, hy, _⟩ := h.sane.kd z hz
      rw [g, hnone] at hy; cases hy
    · rw [if_neg e]; exact ow h.oc k' np'
  · rw [hh]
    by_cases e : k' = k ∧ np' = np
    · rw [if_pos e]
      intro _ g
      rcases h.od k' np' with q | ⟨_, ⟨y, hy, _⟩, _⟩
      · omega
      · rw [<- g, hnone] at hy; cases hy
    · rw [if_neg e]; exact h.ap k' np'
def Grow (W : SW) (U : Bits) (W' : SW) (U' : Bits) : Prop := ∀ id x, W.S.sp id = some x -> (∃ x', W'.S.sp id = some x' ∧ x'.2.base = x.2.base ∧ x'.2.elem = x.2.elem ∧ x'.2.slots = x.2.slots ∧ x'.2.cls = x.2.cls) ∧ ∀ i, U id i = true -> U' id i = true
def Served (W : SW) (U : Bits) (W' : SW) (U' : Bits) (k a : Int) : Prop := ∃ id x, ∃ n : Nat, W'.S.sp id = some x ∧ x.2.cls = k ∧ (n : Int) < x.2.slots ∧ U' id n = true ∧ a = x.2.base + n * x.2.elem ∧ (W.S.sp id = none ∨ U id n = false)
theorem take_grow {W V : SW} {U : Bits} (hS : W.S = V.S) {id : Int} {x : Nat × SI} (hx : W.S.sp id = some x) (uw : List Int) (n : Nat) : Grow V U (W.take id x uw n) (U.take id n) := fun i y hy => by
  rw [<- hS] at hy
  refine ⟨?_, fun j hj => ?_⟩
  · by_cases e : i = id
    · subst e
      rw [hx] at hy
      cases hy
      exact ⟨_, HS.put_sp, rfl, rfl, rfl, rfl⟩
    · exact ⟨y, (HS.put_ne e).trans hy, rfl, rfl, rfl, rfl⟩
  · unfold Bits.take
    by_cases e : i = id
    · subst e; rw [Bits.set_at, hj]; rfl
    · unfold Bits.set; rw [if_neg e]; exact hj
section
variable {E : Env} {w : World} {Z : List Pr} {c cb b h s r : Nat} {C D : KS} {W : SW} {U M : Bits}
variable (hE : EnvK E)
include hE
theorem kaserve_spec (hT : ∀ w', Sat Z w' -> TabAt E.g_math_bits_deBruijn64tab w') {k : Int} {np : Bool} {n : Nat} (hn : n <= 500)
    (H : Sat (KashP E c cb C :: CentP E cb b h s r W :: Z) w) (hI : SwInv W U M) (hA : KAll W n C D) (hk : 0 < k ∧ k < 68) {K : Int -> Int -> World -> Prop}
    (hK : ∀ a C' W' U' M', SwInv W' U' M' -> KAll W' (n + 2) C' D -> C'.tiny = C.tiny -> C'.away = C.away -> (∀ k' np', ¬ (k' = k ∧ np' = np) -> C'.held k' np' = C.held k' np') -> Served W U W' U' k a -> Grow W U W' U' -> ∀ w', Sat (KashP E c cb C' :: CentP E cb b h s r W' :: Z) w' -> K a 0 w') :
    F.cache_Cache_Alloc E (some ⟨c, 0, none⟩) k np K w := by
  have hlen := hA.len
  refine kaalloc_spec hE hT H hI hA.sane hA.oc (by omega) (fun g => absurd hk g) (fun _ _ x m uw' hx hm hu _ hI2 w' H' => ?_) (fun _ _ _ W0 hl _ S2 hlost hI2 w' H' => ?_) (fun _ _ _ W0 hl x l hx y m uw' hy hm hu _ hI2 w' H' => ?_) fun _ _ _ W0 hl _ page S2 bl id X uw' hf hok hI2 hX hnone q0 q1 hI3 w' H' => ?_
  · rcases hA.oc k np with h0 | ⟨hp, ⟨y, hy, hy1, hy2⟩, hno⟩
    · rw [h0, sp_zero hI] at hx; cases hx
    · rw [hx] at hy
      cases hy
      refine hK _ C _ _ _ hI2 ((hA.take hx hno uw' m).mono (by omega)) rfl rfl (fun _ _ _ => rfl) ⟨_, _, m, HS.put_sp, hy1, hm, ?_, rfl, .inr hu⟩ (take_grow rfl hx uw' m) w' H'
      unfold Bits.take; rw [Bits.set_at]; simp
  · exfalso
    obtain ⟨b', hb1, hb2⟩ := hA.la
    have hp := cls_at_pos (c := k) (by omega) hk.2
    have hp16 := cls_p16 (c := k) (by omega) hk.2
    have hu := upN_small (n := (clsAt k).2.1) (by omega) (by omega)
    exact hb1.lost (by omega) (by omega) hlost
  · have hS0 := (letd_S hl).1
    have hA0 := (hA.letd hk hl).chg hk
    have hh0 : (C.hold k np 0).held k np = 0 := hold_held C hk.1 hk.2 0
    have hid : 0 < x.id := (hI.hI.sp x.id y hy).1
    obtain ⟨hA1, z, hz, hz1, hz2⟩ := hA0.rem hk hh0 hx hid
    rw [show (W0.chg k).S = W0.S from rfl, hS0, hy] at hz
    cases hz
    have hy' : (SW.S { W0.chg k with L := remB W0.L x.id }).sp x.id = some y := by
      show W0.S.sp x.id = some y
      rw [hS0]; exact hy
    rw [hold_hold] at hA1
    refine hK _ _ _ _ _ hI2 ((hA1.take hy' (fun it hit => (mem_remB.1 hit).2) uw' m).mono (by omega)) rfl rfl (fun k' np' e => hold_other C hk.1 e _) ⟨_, _, m, HS.put_sp, hz1, hm, ?_, rfl, .inr hu⟩ (take_grow (by show W0.S = W.S; exact hS0) hy' uw' m) w' H'
    unfold Bits.take; rw [Bits.set_at]; simp
  · have hS0 := (letd_S hl).1
    have hA0 := (hA.letd hk hl).chg hk
    have hh0 : (C.hold k np 0).held k np = 0 := hold_held C hk.1 hk.2 0
    have hspid : (S2.keep id (bl, spOf page (clsAt k).2.1 k np) page (clsAt k).2.1 X).sp id = some (bl, spOf page (clsAt k).2.1 k np) := if_pos rfl
    have es := hf.same
    have hid : 0 < id := (hI3.hI.sp id _ (HS.put_sp)).1
    have hA1 := hA0.fresh (np := np) hk hh0 (by omega) (p := C.p) (page := page) (id := id) (S2 := S2) (bl := bl) (X := X) (by rw [show (W0.chg k).S = W0.S from rfl, hS0]; exact hf) (by rw [show (W0.chg k).S = W0.S from rfl, hS0]; exact hok) (by rw [show (W0.chg k).S = W0.S from rfl, hS0]; exact hnone) hid
    rw [hold_hold] at hA1
    have hnl : ∀ it ∈ W0.L, it.id ≠ id := fun it hit e => by
      obtain ⟨y, hy, _⟩ := hA0.sane.kd it hit
      rw [show (W0.chg k).S = W0.S from rfl, hS0, e, hnone] at hy; cases hy
    have hcp := cls_at_pos (c := k) (by omega) hk.2
    refine hK _ _ _ _ _ hI3 (hA1.take hspid hnl uw' 0) rfl rfl (fun k' np' e => hold_other C hk.1 e _) ⟨id, _, 0, HS.put_sp, rfl, ?_, ?_, ?_, .inl hnone⟩ (fun i y hy => ?_) w' H'
    · show ((0 : Nat) : Int) < if k = 0 then (1 : Int) else (clsAt k).2.2.1
      rw [if_neg (by omega)]; omega
    · unfold Bits.take; rw [Bits.set_at]; simp
    · show page * 8192 = page * 8192 + ((0 : Nat) : Int) * _
      omega
    · have hne : i ≠ id := fun e => by rw [e, hnone] at hy; cases hy
      refine ⟨⟨y, (HS.put_ne hne).trans ?_, rfl, rfl, rfl, rfl⟩, fun j hj => ?_⟩
      · show (if i = id then _ else S2.sp i) = _
        rw [if_neg hne, es.sp]; exact hy
      · unfold Bits.take Bits.set
        rw [if_neg hne, if_neg hne]; exact hj
end
end Go.Sh

set_option linter.all false
set_option maxRecDepth 8000
set_option maxHeartbeats 8000000
namespace Go.Sh
structure OneS (W : SW) (U M : Bits) (k : Int) (np : Bool) (j : Nat) : Prop where
  inv : SwInv W U M
  sane : Sane W
  la : ∃ b, LaidB W.S b ∧ b <= 1024
  sp : ∃ bl J, W.S.sp 1 = some (bl, J) ∧ J.base = 4194304 ∧ J.elem = (clsAt k).1 ∧ J.slots = (clsAt k).2.2.1 ∧ J.cls = k ∧ J.noptr = np
  no : ∀ i, i ≠ 1 -> W.S.sp i = none
  us : ∀ i : Nat, U 1 i = decide (i < j)
structure OneC (C : KS) (k : Int) (np : Bool) (id : Int) : Prop where
  hd : C.held k np = id
  ho : ∀ k' np', ¬ (k' = k ∧ np' = np) -> C.held k' np' = 0
theorem OneC.hold {C : KS} {k : Int} {np : Bool} {i id : Int} (hk : 0 < k ∧ k < 68) (h : OneC C k np i) : OneC (C.hold k np id) k np id :=
  ⟨hold_held C hk.1 hk.2 id, fun k' np' e => (hold_other C hk.1 e id).trans (h.ho k' np' e)⟩
theorem OneC.new (p a e k : Int) (np : Bool) : OneC ⟨p, fun _ => 0, a, e⟩ k np 0 := ⟨by unfold KS.held; split <;> rfl, fun k' np' _ => by unfold KS.held; split <;> rfl⟩
theorem OneC.owns {W : SW} {U M : Bits} {C : KS} {k : Int} {np : Bool} {j : Nat} (hS : OneS W U M k np j) (hC : OneC C k np 1) (hL : W.L = []) : Owns W C := fun k' np' => by
  by_cases e : k' = k ∧ np' = np
  · obtain ⟨bl, J, h1, _, _, _, h2, h3⟩ := hS.sp
    rw [e.1, e.2, hC.hd]
    exact .inr ⟨by decide, ⟨_, h1, h2, h3⟩, fun x hx => by rw [hL] at hx; cases hx⟩
  · exact .inl (hC.ho k' np' e)
theorem OneC.owns0 {W : SW} {C : KS} {k : Int} {np : Bool} (hC : OneC C k np 0) : Owns W C := fun k' np' => by
  by_cases e : k' = k ∧ np' = np
  · rw [e.1, e.2]; exact .inl hC.hd
  · exact .inl (hC.ho k' np' e)
theorem OneS.take {W : SW} {U M : Bits} {k : Int} {np : Bool} {j : Nat} (h : OneS W U M k np j) {x : Nat × SI} (hx : W.S.sp 1 = some x) (hno : ∀ it ∈ W.L, it.id ≠ 1) {uw : List Int} {m : Nat} (hu : U 1 m = false) (hl : ∀ i, i < m -> U 1 i = true) (hI : SwInv (W.take 1 x uw m) (U.take 1 m) M) :
    m = j ∧ OneS (W.take 1 x uw m) (U.take 1 m) M k np (j + 1) := by
  have hm : m = j := by
    rw [h.us] at hu
    have h1 : ¬ m < j := of_decide_eq_false hu
    rcases Nat.lt_or_ge j m with g | g
    · have := hl j g
      rw [h.us] at this
      exact absurd (of_decide_eq_true this) (Nat.lt_irrefl j)
    · omega
  subst hm
  obtain ⟨b, hb1, hb2⟩ := h.la
  obtain ⟨bl, J, j1, j2, j3, j4, j5, j6⟩ := h.sp
  rw [hx] at j1
  cases j1
  refine ⟨rfl, hI, ?_, ⟨b, hb1.sameV rfl rfl, hb2⟩, ⟨_, _, HS.put_sp, j2, j3, j4, j5, j6⟩, fun i hi => (HS.put_ne hi).trans (h.no i hi), fun i => ?_⟩
  · exact ⟨h.sane.sw, fun z hz => by
      obtain ⟨y, hy, hy2⟩ := h.sane.kd z hz
      exact ⟨y, (HS.put_ne (hno z hz)).trans hy, hy2⟩, h.sane.rate, h.sane.rp, h.sane.ch⟩
  · unfold Bits.take
    rw [Bits.set_at, h.us]
    by_cases e : i = m
    · subst e; simp
    · rw [show (i == m) = false by simpa using e, Bool.or_false]
      by_cases g : i < m
      · rw [decide_eq_true g, decide_eq_true (by omega)]
      · rw [decide_eq_false g, decide_eq_false (by omega)]
section
variable {E : Env} {w : World} {Z : List Pr} {c cb b h s r : Nat} {C : KS} {W : SW} {U M : Bits}
variable (hE : EnvK E)
include hE
theorem kafirst_spec (hT : ∀ w', Sat Z w' -> TabAt E.g_math_bits_deBruijn64tab w') {k : Int} {np : Bool} (hk : 0 < k ∧ k < 68) (hC : OneC C k np 0)
    (H : Sat (KashP E c cb C :: CentP E cb b h s r (SW.new (HS.new (newV [] [] []))) :: Z) w) {K : Int -> Int -> World -> Prop}
    (hK : ∀ W' U' M', OneS W' U' M' k np 1 -> W'.L = [] -> ∀ w', Sat (KashP E c cb (C.hold k np 1) :: CentP E cb b h s r W' :: Z) w' -> K 4194304 0 w') :
    F.cache_Cache_Alloc E (some ⟨c, 0, none⟩) k np K w := by
  have hp := cls_at_pos (c := k) (by omega) hk.2
  have hp16 := cls_p16 (c := k) (by omega) hk.2
  have hu := upN_small (n := (clsAt k).2.1) (by omega) (by omega)
  have hS : Sane (SW.new (HS.new (newV [] [] []))) := ⟨fun x hx => (by cases hx), fun x hx => (by cases hx), rfl, Int.le_refl _, by decide⟩
  have hno0 : ∀ {W0}, Letd (SW.new (HS.new (newV [] [] []))) C k np W0 -> W0 = SW.new (HS.new (newV [] [] [])) := fun hl => by
    rcases hl with ⟨_, e⟩ | ⟨g, _⟩
    · exact e
    · rw [hC.hd] at g; exact absurd g (Int.lt_irrefl 0)
  refine kaalloc_spec hE hT H (SwInv.new [] [] []) hS hC.owns0 (show ([] : List Itm).length < 1099511627776 by decide) (fun g => absurd hk g) (fun _ _ x m uw' hx => by cases hx) (fun _ _ _ W0 hl _ S2 hlost => ?_) (fun _ _ _ W0 hl x l hx => ?_) fun _ _ _ W0 hl _ page S2 bl id X uw' hf hok hI2 hX hnone q0 q1 hI3 w' H' => ?_
  · exact ((LaidB.new []).lost (by omega) (by omega) hlost).elim
  · rw [hno0 hl] at hx; cases hx
  · obtain rfl := hno0 hl
    obtain ⟨rfl, e2, e3, e4⟩ := first_found2 hok (by omega) (by omega) hf
    have es := hf.same
    obtain ⟨rfl, rfl⟩ := hX.top (n := 0) (by rw [es.fx]; rfl)
    have hch := chg_ch hS.ch hk.1 hk.2
    refine hK _ _ _ (OneS.mk hI3 ⟨fun x hx => (by cases hx), fun x hx => (by cases hx), rfl, Int.le_refl _, hch⟩ ⟨_, (e3.keep (((0 : Nat) : Int) + 1) (bl, spOf 512 (clsAt k).2.1 k np) 512 (clsAt k).2.1 ⟨0 + 1, []⟩).sameV rfl rfl, by omega⟩ ⟨_, _, HS.put_sp, rfl, ?_, ?_, rfl, rfl⟩ (fun i hi => ?_) fun i => ?_) rfl w' H'
    · show (if k = 0 then _ else _) = _
      rw [if_neg (by omega)]
    · show (if k = 0 then _ else _) = _
      rw [if_neg (by omega)]
    · refine (HS.put_ne hi).trans ?_
      show (if i = ((0 : Nat) : Int) + 1 then _ else S2.sp i) = none
      rw [if_neg (by simpa using hi), es.sp]; rfl
    · show (Bits.take _ (((0 : Nat) : Int) + 1) 0) 1 i = decide (i < 1)
      unfold Bits.take
      rw [show (((0 : Nat) : Int) + 1) = 1 from rfl, Bits.set_at, Bits.set_at]
      by_cases e : i = 0
      · subst e; rfl
      · rw [show (i == 0) = false by simpa using e, decide_eq_false (by omega)]; rfl
theorem kanext_spec (hT : ∀ w', Sat Z w' -> TabAt E.g_math_bits_deBruijn64tab w') {k : Int} {np : Bool} (hk : 0 < k ∧ k < 68) {j : Nat} (hS : OneS W U M k np j) (hC : OneC C k np 1) (hL : W.L = []) (hj : (j : Int) < (clsAt k).2.2.1)
    (H : Sat (KashP E c cb C :: CentP E cb b h s r W :: Z) w) {K : Int -> Int -> World -> Prop}
    (hK : ∀ W' U' M', OneS W' U' M' k np (j + 1) -> W'.L = [] -> ∀ w', Sat (KashP E c cb C :: CentP E cb b h s r W' :: Z) w' -> K (4194304 + j * (clsAt k).1) 0 w') :
    F.cache_Cache_Alloc E (some ⟨c, 0, none⟩) k np K w := by
  obtain ⟨bl, J, j1, j2, j3, j4, j5, j6⟩ := hS.sp
  have nd : ¬ Dry W U C k np := fun hd => by
    have := hd (bl, J) (by rw [hC.hd]; exact j1) j (by show (j : Int) < J.slots; rw [j4]; exact hj)
    rw [hC.hd, hS.us] at this
    exact absurd (of_decide_eq_true this) (Nat.lt_irrefl j)
  refine kaalloc_spec hE hT H hS.inv hS.sane (hC.owns hS hL) (by rw [hL]; decide) (fun g => absurd hk g) (fun _ _ x m uw' hx hm hu hlow hI2 w' H' => ?_) (fun _ _ hd => absurd hd nd) (fun _ _ hd => absurd hd nd) fun _ _ hd => absurd hd nd
  rw [hC.hd] at hx hu hI2 H'
  have hlow : ∀ i, i < m -> U 1 i = true := fun i hi => by have := hlow i hi; rwa [hC.hd] at this
  obtain ⟨rfl, h1⟩ := hS.take hx (fun it hit => by rw [hL] at hit; cases hit) hu hlow hI2
  rw [j1] at hx
  cases hx
  rw [j2, j3]
  exact hK _ _ _ h1 hL w' H'
theorem awake20_spec (hT : ∀ w', Sat Z w' -> TabAt E.g_math_bits_deBruijn64tab w') (H : Sat Z w) {K : Bool -> World -> Prop} (hK : ∀ w', Sat Z w' -> K true w') : F.mallowlaw20_awake E K w := by
  unfold F.mallowlaw20_awake T0.mallowlaw20_awake
  refine fresh20_nil (E := E) H fun cb b h s r w2 H2 => CND_f rfl (kanew_spec (p := 0) H2 fun c w4 H4 => CND_f rfl ?_)
  have k5 : (0 : Int) < 5 ∧ (5 : Int) < 68 := by decide
  refine kafirst_spec hE hT k5 (OneC.new _ _ _ _ _) H4 fun W1 U1 M1 h1 hL1 w7 H7 => ?_
  have hC1 := (OneC.new 0 0 0 5 false).hold (id := 1) k5
  refine kanext_spec hE hT k5 h1 hC1 hL1 (by rw [cls5f]; decide) H7 fun W2 U2 M2 h2 hL2 w10 H10 => ?_
  rw [cls5f]
  have hA : KAll W2 1 ((⟨0, fun _ => 0, 0, 0⟩ : KS).hold 5 false 1) ⟨0, fun _ => 0, 0, 0⟩ := by
    have hz : OneC (⟨0, fun _ => 0, 0, 0⟩ : KS) 5 false 0 := OneC.new _ _ _ _ _
    refine ⟨h2.sane, ?_, by rw [hL2]; decide, hC1.owns h2 hL2, hz.owns0, fun k np g => ?_⟩
    · obtain ⟨b, hb1, hb2⟩ := h2.la
      exact ⟨b, hb1, by omega⟩
    · rw [show (⟨0, fun _ => 0, 0, 0⟩ : KS).held k np = 0 by unfold KS.held; split <;> rfl]; exact g
  refine katiny_spec H10 (by decide) (by decide) (fun g => absurd (by decide) g) (fun _ _ g => absurd rfl g) fun _ _ _ => ?_
  refine kaserve_spec hE hT (by decide) H10 h2.inv hA (by decide) fun a C3 W3 U3 M3 hI3 hA3 ht ha hoth hsv hgr w11 H11 => CND_f rfl ?_
  refine kabegan_spec H11 fun w12 H12 => ?_
  obtain ⟨id, x, n, hx, hcl, hn, hun, hax, _⟩ := hsv
  obtain ⟨b', hb1, hb2⟩ := hA3.la
  have hlo := span_lo hI3 hb1 hx
  have hok := (hI3.sp id x hx).1
  have hin := slot_in hok hn
  have hba := hok.ba
  have hsz := hok.size
  have ht0 : C3.tiny = 0 := ht
  have hbg : C3.began a 3 = { C3 with tiny := a, away := 3 } := by unfold KS.began; rw [if_pos (.inl ht0)]
  rw [hbg] at H12
  refine katiny_spec H12 (by show (0 : Int) <= 3 ∧ (3 : Int) <= 16; decide) (by show 0 <= a ∧ a < 281474976710656; omega) (fun g => absurd (by decide) g) (fun _ _ _ _ w13 H13 => ?_) fun _ _ g => ?_
  · have e4 : offT 3 4 = 4 := by decide
    have e5 : u64 (a + 4) = a + 4 := u64_id (by omega) (by omega)
    show CND _ _ _
    rw [show ({ C3 with tiny := a, away := 3 } : KS).tiny = a from rfl, show ({ C3 with tiny := a, away := 3 } : KS).away = 3 from rfl, e4, e5]
    refine CND_t rfl (CND_t (by rfl) (CND_t rfl (CND_t rfl (CND_t rfl (CND_t rfl (CND_t (by simp) (CND_t rfl (CND_t rfl ?_))))))))
    refine kaheld_spec H13 fun w20 H20 => ?_
    have hh : ({ C3 with tiny := a, away := offT 3 4 + 4 } : KS).held 5 false = 1 := (hoth 5 false (by decide)).trans hC1.hd
    rw [hh]
    exact hK w20 H20.tail.tail
  · exfalso
    rcases g with g | g
    · have g : a = 0 := g
      omega
    · have g : 16 < offT 3 4 + 4 := g
      exact absurd g (by decide)
end
end Go.Sh

set_option linter.all false
set_option maxRecDepth 8000
set_option maxHeartbeats 8000000
namespace Go.Sh
section
variable {E : Env} {w : World} {Z : List Pr} {c cb b h s r : Nat} {C D : KS} {W : SW} {U M : Bits}
variable (hE : EnvK E)
include hE
end
end Go.Sh

set_option linter.all false
namespace Go.Sh
open Go.Proofs
theorem envS : EnvS env where
  at1 := by
    intro i p1 p2 K w h
    refine ⟨(fits179 #[.int .i64 i, .pointer p1, .pointer p2] w (fun v w' => ∃ b, v = .bool b ∧ K b w') noP ?_).1, (fits179 #[.int .i64 i, .pointer p1, .pointer p2] w (fun v w' => ∃ b, v = .bool b ∧ K b w') noP ?_).2⟩ <;>
    exact (show F.stretch_Set_at_1 env i p1 p2 (fun b w' => ∃ b', Value.bool b = .bool b' ∧ K b' w') w from at1_mono (fun b w' h => ⟨b, rfl, h⟩) h)
  mono := ground_mono
theorem envA : EnvA env where
  toEnvS := envS
  set1 := by
    intro x y p1 p2 R w h
    refine ⟨(fits163 #[.int .u64 x, .int .u64 y, .pointer p1, .pointer p2] w R noP ?_).1, (fits163 #[.int .u64 x, .int .u64 y, .pointer p1, .pointer p2] w R noP ?_).2⟩ <;>
    exact h
theorem envW : EnvW env where
  toEnvA := envA
  place1 := by
    intro i p1 p2 R w h
    refine ⟨(fits129 #[.int .i64 i, .pointer p1, .pointer p2] w R noP ?_).1, (fits129 #[.int .i64 i, .pointer p1, .pointer p2] w R noP ?_).2⟩ <;>
    exact h
theorem envC : EnvC env where
  toEnvW := envW
  swept1 := by
    intro a p k n R w h
    refine ⟨(fits39 #[.pointer a, .agg ⟨[.int .i64 p, .int .i64 k, .bool n]⟩] w R noP ?_).1, (fits39 #[.pointer a, .agg ⟨[.int .i64 p, .int .i64 k, .bool n]⟩] w R noP ?_).2⟩ <;>
    exact h
  partial1 := by
    intro a p k n R w h
    refine ⟨(fits40 #[.pointer a, .agg ⟨[.int .i64 p, .int .i64 k, .bool n]⟩] w R noP ?_).1, (fits40 #[.pointer a, .agg ⟨[.int .i64 p, .int .i64 k, .bool n]⟩] w R noP ?_).2⟩ <;>
    exact h
  full1 := by
    intro a p k n R w h
    refine ⟨(fits41 #[.pointer a, .agg ⟨[.int .i64 p, .int .i64 k, .bool n]⟩] w R noP ?_).1, (fits41 #[.pointer a, .agg ⟨[.int .i64 p, .int .i64 k, .bool n]⟩] w R noP ?_).2⟩ <;>
    exact h
  fresh1 := by
    intro a p k n R w h
    refine ⟨(fits42 #[.pointer a, .agg ⟨[.int .i64 p, .int .i64 k, .bool n]⟩] w R noP ?_).1, (fits42 #[.pointer a, .agg ⟨[.int .i64 p, .int .i64 k, .bool n]⟩] w R noP ?_).2⟩ <;>
    exact h
theorem envK : EnvK env where
  toEnvC := envC
  refill1 := by
    intro a b c R w h
    refine ⟨(fits59 #[.pointer a, .pointer b, .pointer c] w R noP ?_).1, (fits59 #[.pointer a, .pointer b, .pointer c] w R noP ?_).2⟩ <;>
    exact h
theorem envH : EnvH env where
  toEnvA := envA
  spans1 := by
    intro x y p R w h
    refine ⟨(fits67 #[.int .i64 x, .int .i64 y, .pointer p] w R noP ?_).1, (fits67 #[.int .i64 x, .int .i64 y, .pointer p] w R noP ?_).2⟩ <;>
    exact h
end Go.Sh
