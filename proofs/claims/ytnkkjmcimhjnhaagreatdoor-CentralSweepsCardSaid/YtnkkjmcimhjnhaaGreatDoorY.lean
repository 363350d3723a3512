/- The central and the caches do what their spans say. No further condition. -/
import Derived.Test.YtnkkjmcimhjnhaaGreatDoorW2
import Derived.Test.YtnkkjmcimhjnhaaGreatDoorL
import Derived.Test.YtnkkjmcimhjnhaaGreatDoorA
import Derived.Test.YtnkkjmcimhjnhaaGreatDoorB
import Derived.Test.YtnkkjmcimhjnhaaGreatDoorQ
import Derived.Test.YtnkkjmcimhjnhaaGreatDoorV
set_option linter.all false
set_option maxRecDepth 8000
set_option maxHeartbeats 4000000
namespace Go.Sh
theorem tried_sp {S S0 : HS} {p n : Int} (h : Tried S p n S0) : S0.sp = S.sp := by
  rcases h with ⟨_, rfl⟩ | ⟨i, _, _, _, ⟨_, q, _, rfl⟩ | ⟨_, rfl⟩, _⟩ <;> rfl
theorem got_sp {S S2 : HS} {p n page : Int} (h : Got S p n page S2) : S2.sp = S.sp := by
  rcases h with ⟨S0, i, k, hi, _, _, ⟨_, q, _, rfl⟩ | ⟨_, rfl⟩, _, _, _, _, rfl⟩ | ⟨S0, htr, _, rfl⟩
  · rfl
  · rfl
  · exact (show S0.sp = S.sp from tried_sp htr)
theorem lost_spG {S S2 : HS} {p n : Int} (h : Lost S p n S2) : S2.sp = S.sp := by
  rcases h with ⟨S0, htr, _, ⟨r, _, rfl⟩ | ⟨_, _, rfl⟩⟩ | ⟨S1, page, r, ht, _, _, rfl⟩
  · exact (show S0.sp = S.sp from tried_sp htr)
  · exact (show S0.sp = S.sp from tried_sp htr)
  · rcases ht with ht | ⟨S0, S0', htr, _, ⟨_, at_, _, rfl⟩, _, rfl⟩
    · exact (show S1.sp = S.sp from got_sp ht)
    · exact (show S0.sp = S.sp from tried_sp htr)
structure EnvC (E : Env) : Prop extends EnvW E where
  swept1 : ∀ a p k n (R : Value -> World -> Prop) w, F.central_Central_swept E a p k n (fun i b e w' => R (.tuple ⟨[.int .i64 i, .bool b, .int .i64 e]⟩) w') w -> E.call E.f_central_Central_swept #[.pointer a, .agg ⟨[.int .i64 p, .int .i64 k, .bool n]⟩] w R noP
  partial1 : ∀ a p k n (R : Value -> World -> Prop) w, F.central_Central_partial E a p k n (fun i b e w' => R (.tuple ⟨[.int .i64 i, .bool b, .int .i64 e]⟩) w') w -> E.call E.f_central_Central_partial #[.pointer a, .agg ⟨[.int .i64 p, .int .i64 k, .bool n]⟩] w R noP
  full1 : ∀ a p k n (R : Value -> World -> Prop) w, F.central_Central_full E a p k n (fun i b e w' => R (.tuple ⟨[.int .i64 i, .bool b, .int .i64 e]⟩) w') w -> E.call E.f_central_Central_full #[.pointer a, .agg ⟨[.int .i64 p, .int .i64 k, .bool n]⟩] w R noP
  fresh1 : ∀ a p k n (R : Value -> World -> Prop) w, F.central_Central_fresh E a p k n (fun i b e w' => R (.tuple ⟨[.int .i64 i, .bool b, .int .i64 e]⟩) w') w -> E.call E.f_central_Central_fresh #[.pointer a, .agg ⟨[.int .i64 p, .int .i64 k, .bool n]⟩] w R noP
def CentP (E : Env) (cb b h s r : Nat) (W : SW) : Pr := Star [Cells cb E.t_central_Central [.pointer (some ⟨b, 0, none⟩)], SweepP E b h s r W]
section
variable {E : Env} {w : World} {Z : List Pr} {cb b h s r : Nat} {W : SW} {U M : Bits}
theorem Sat.cent : Sat (CentP E cb b h s r W :: Z) w ↔ Sat (Cells cb E.t_central_Central [.pointer (some ⟨b, 0, none⟩)] :: SweepP E b h s r W :: Z) w := Sat.star
theorem Sat.centSw (H : Sat (CentP E cb b h s r W :: Z) w) : Sat (SweepP E b h s r W :: Cells cb E.t_central_Central [.pointer (some ⟨b, 0, none⟩)] :: Z) w := (Sat.cent.1 H).perm (.swap _ _ _)
theorem Sat.swCent (H : Sat (SweepP E b h s r W :: Cells cb E.t_central_Central [.pointer (some ⟨b, 0, none⟩)] :: Z) w) : Sat (CentP E cb b h s r W :: Z) w := Sat.cent.2 (H.perm (.swap _ _ _))
theorem Sat.centPtr (H : Sat (CentP E cb b h s r W :: Z) w) : w.cell? (Addr.mk cb 0 none) = some (.pointer (some ⟨b, 0, none⟩)) := (Sat.cent.1 H).cell0 rfl
theorem cenew_spec (H : Sat (SweepP E b h s r W :: Z) w) {K : Option Addr -> World -> Prop} (hK : ∀ cb w', Sat (CentP E cb b h s r W :: Z) w' -> K (some ⟨cb, 0, none⟩) w') : F.central_New E (some ⟨b, 0, none⟩) K w := by
  unfold F.central_New
  exact AL_cells (vs := [.pointer (some ⟨b, 0, none⟩)]) H fun b1 w2 H2 _ => hK b1 w2 (Sat.cent.2 H2)
theorem cesweeper_spec (H : Sat (CentP E cb b h s r W :: Z) w) {K : Option Addr -> World -> Prop} (hK : K (some ⟨b, 0, none⟩) w) : F.central_Central_Sweeper E (some ⟨cb, 0, none⟩) K w := by
  unfold F.central_Central_Sweeper
  exact NC_in ⟨_, H.centPtr, hK⟩
theorem SwInv.heap (hI : SwInv W U M) {S2 : HS} (h1 : HInv S2 no) (h2 : S2.sp = W.S.sp) : SwInv { W with S := S2 } U M :=
  ⟨h1, fun id x hx => hI.sp id x (by rw [<- h2]; exact hx), fun x hx => by rw [show ({ W with S := S2 } : SW).S.sp = W.S.sp from h2]; exact hI.it x hx⟩
theorem ofK_no {L : List Itm} (h : ∀ x ∈ L, x.swept = true) {k : Kd} (hk : k.2.2.2 = false) : ofK L k = [] := ofK_none fun x hx e => by
  have := h x hx
  unfold Itm.swept at this
  rw [e, hk] at this; cases this
variable (hE : EnvC E)
include hE
theorem ceback_spec (H : Sat (CentP E cb b h s r W :: Z) w) (hI : SwInv W U M) {id : Int} (hf : W.L.length < 1099511627776) {K : Int -> World -> Prop}
    (hk0 : W.S.sp id = none -> ∀ w', Sat (CentP E cb b h s r W :: Z) w' -> K 35 w') (hk1 : W.S.sp id ≠ none -> (∃ x ∈ W.L, x.id = id) -> ∀ w', Sat (CentP E cb b h s r W :: Z) w' -> K 34 w')
    (hk2 : ∀ x, W.S.sp id = some x -> (∀ y ∈ W.L, y.id ≠ id) -> ∀ blk, SwInv { W with L := insB W.L ⟨blk, id, x.2.base, (x.2.cls, x.2.noptr, x.2.used == x.2.slots, true)⟩ } U M -> ∀ w',
      Sat (CentP E cb b h s r { W with L := insB W.L ⟨blk, id, x.2.base, (x.2.cls, x.2.noptr, x.2.used == x.2.slots, true)⟩ } :: Z) w' -> K 0 w') : F.central_Central_Back E (some ⟨cb, 0, none⟩) id K w := by
  unfold F.central_Central_Back T0.central_Central_Back
  exact NC_in ⟨_, H.centPtr, swput_spec hE.toEnvW H.centSw hI hf (fun hn w' H' => hk0 hn w' H'.swCent) (fun hn hx w' H' => hk1 hn hx w' H'.swCent) fun x hx hno blk hI2 w' H' => hk2 x hx hno blk hI2 w' H'.swCent⟩
theorem ceswept_spec (H : Sat (CentP E cb b h s r W :: Z) w) (hI : SwInv W U M) {p k : Int} {np : Bool} {K : Int -> Bool -> Int -> World -> Prop} (hk0 : ofK W.L (k, np, false, true) = [] -> ∀ w', Sat (CentP E cb b h s r W :: Z) w' -> K 0 false 0 w')
    (hk1 : ∀ x l, ofK W.L (k, np, false, true) = x :: l -> SwInv { W with L := remB W.L x.id } U M -> ∀ w', Sat (CentP E cb b h s r { W with L := remB W.L x.id } :: Z) w' -> K x.id true 0 w') : F.central_Central_swept E (some ⟨cb, 0, none⟩) p k np K w := by
  unfold F.central_Central_swept T0.central_Central_swept
  refine AL_cells (vs := [.int .i64 p, .int .i64 k, .bool np]) H fun b1 w2 H2 _ => NC_in ?_
  have H3 := H2.drew
  have Hc : Sat (CentP E cb b h s r W :: Cells b1 E.t_central_want [.int .i64 p, .int .i64 k, .bool np] :: Z) w2.drew := H3.front 1 rfl
  refine ⟨_, Hc.centPtr, _, H3.cell rfl, _, H3.cell rfl, swsets_spec Hc.centSw ⟨H3.cell rfl, H3.cell rfl, ?_⟩⟩
  obtain ⟨R, HH, hz, hb⟩ := Hc.centSw.swSets
  refine setake_spec hE.toEnvW (k := (k, np, false, true)) HH (fun h0 => hk0 h0 _ H3.tail) fun x l hx w' H' => ?_
  exact hk1 x l hx (hI.ofL fun y hy => hI.it y (mem_remB.1 hy).1) w' ((hb H').swCent.front 1 rfl).tail
theorem ceclean0_spec (H : Sat (CentP E cb b h s r W :: Z) w) {p k : Int} {np full : Bool} (hsw : ∀ x ∈ W.L, x.swept = true) {K : Int -> Bool -> Int -> World -> Prop} (hk0 : ∀ w', Sat (CentP E cb b h s r W :: Z) w' -> K 0 false 0 w') : F.central_Central_cleaned E (some ⟨cb, 0, none⟩) p k np full K w := by
  unfold F.central_Central_cleaned T0.central_Central_cleaned
  refine AL_cells (vs := [.int .i64 p, .int .i64 k, .bool np]) H fun b1 w2 H2 _ => ?_
  refine LOOP_intro (fun _ w' => Sat (Cells b1 E.t_central_want [.int .i64 p, .int .i64 k, .bool np] :: CentP E cb b h s r W :: Z) w') (fun _ _ => 0) H2 ?_
  rintro _ _ w4 H4
  have H3 := H4.drew
  have Hc : Sat (CentP E cb b h s r W :: Cells b1 E.t_central_want [.int .i64 p, .int .i64 k, .bool np] :: Z) w4.drew := H3.front 1 rfl
  refine NC_in ⟨_, Hc.centPtr, _, H3.cell rfl, _, H3.cell rfl, swsets_spec Hc.centSw ⟨H3.cell rfl, H3.cell rfl, ?_⟩⟩
  obtain ⟨R, HH, hz, hb⟩ := Hc.centSw.swSets
  refine setake_spec hE.toEnvW (k := (k, np, full, false)) HH (fun h0 => CND_t rfl (hk0 _ H3.tail)) fun x l hx w' H' => ?_
  rw [ofK_no hsw rfl] at hx; cases hx
theorem cefresh_spec (hT : ∀ w', Sat Z w' -> TabAt E.g_math_bits_deBruijn64tab w') (H : Sat (CentP E cb b h s r W :: Z) w) (hI : SwInv W U M) {p k : Int} {np : Bool} (k0 : 1 <= k) (k1 : k < 68) {K : Int -> Bool -> Int -> World -> Prop}
    (hk1 : ∀ S2, Lost W.S p (clsAt k).2.1 S2 -> SwInv { W with S := S2 } U M -> ∀ w', Sat (CentP E cb b h s r { W with S := S2 } :: Z) w' -> K 0 false 13 w')
    (hk2 : ∀ page S2 bl id X, Found W.S p (clsAt k).2.1 page S2 -> HOk W.S -> HInv S2 (inr page (clsAt k).2.1) -> Next S2 id X -> W.S.sp id = none -> 0 <= page -> page + (clsAt k).2.1 <= 34359738368 -> SwInv { W with S := S2.keep id (bl, spOf page (clsAt k).2.1 k np) page (clsAt k).2.1 X } (U.set id none1) (M.set id none1) ->
      ∀ w', Sat (CentP E cb b h s r { W with S := S2.keep id (bl, spOf page (clsAt k).2.1 k np) page (clsAt k).2.1 X } :: Z) w' -> K id true 0 w') : F.central_Central_fresh E (some ⟨cb, 0, none⟩) p k np K w := by
  unfold F.central_Central_fresh T0.central_Central_fresh
  refine AL_cells (vs := [.int .i64 p, .int .i64 k, .bool np]) H fun b1 w2 H2 _ => NC_in ?_
  have H3 := H2.drew
  have Hc : Sat (CentP E cb b h s r W :: Cells b1 E.t_central_want [.int .i64 p, .int .i64 k, .bool np] :: Z) w2.drew := H3.front 1 rfl
  refine ⟨_, Hc.centPtr, _, H3.cell0 rfl, _, H3.cell rfl, _, H3.cell rfl, _, H3.cell rfl, swheap_spec Hc.centSw ⟨H3.cell rfl, H3.cell rfl, H3.cell rfl, H3.cell0 rfl, ?_⟩⟩
  refine table_spec H3 fun r11 w12 H12 => ?_
  have hl := H12.recLen (by decide) cls4_len
  rw [cls_len] at hl
  have c12 := H12.front 1 rfl
  obtain ⟨x, hx⟩ := H12.recBase (by decide) cls4_len (i := k.toNat) (by rw [cls_len]; omega)
  have cell : ∀ {w'} {Y : List Pr}, Sat (Row E.t_api_Class 4 r11 (recs cls4 clsT) :: Y) w' -> w'.cell? (((Addr.mk x 0 none).add (Int.toNat k * 4)).add 1) = some (.int .i64 (clsAt k).2.1) := fun h => by
    rw [add_add]; exact h.recCell cls4_len hx (cls_at (by omega) k1) (j := 1) rfl
  refine ⟨c12.cell rfl, c12.cell rfl, c12.cell rfl, c12.cell0 rfl, ?_⟩
  rw [hx]
  have hcb := cls_bnd (c := k) (by omega) k1
  have hcp := cls_at_pos (c := k) (by omega) k1
  refine NC_in ⟨⟨by omega, by omega⟩, _, cell H12, ?_⟩
  rw [u64_id (n := (clsAt k).2.1) (by omega) (by omega)]
  have hbad : ¬ spBad 0 (clsAt k).2.1 k := by unfold spBad; omega
  have Hc2 : Sat (CentP E cb b h s r W :: Row E.t_api_Class 4 r11 (recs cls4 clsT) :: Cells b1 E.t_central_want [.int .i64 p, .int .i64 k, .bool np] :: Z) w12 := H12.front 2 rfl
  have hok := (Hc2.centSw.swHeap.choose_spec.1).hok
  obtain ⟨R, HH, hz, hb⟩ := Hc2.centSw.swHeap
  refine halloc_spec hE.toEnvA (fun w' h' => hT w' (hz h').tail.tail.tail) HH hI.hI (by omega) (by omega) (fun h => absurd h hbad) (fun _ S2 hlost hI2 w17 H17 => ?_) fun _ page S2 bl id X hf hI2 q0 q1 hX hI3 w17 H17 => ?_
  · have hes : S2.sp = W.S.sp := lost_spG hlost
    have H18 := (hb H17).swCent
    exact ⟨cell (H18.front 1 rfl), (H18.front 2 rfl).cell rfl, hk1 S2 hlost (hI.heap hI2 hes) w17 ((H18.front 1 rfl).tail.front 1 rfl).tail⟩
  · have H18 := (hb H17).swCent
    obtain ⟨hI4, hnone⟩ := hI.keep (np := np) hf hX q0 q1 hbad (by omega) hI3
    exact ⟨cell (H18.front 1 rfl), (H18.front 2 rfl).cell rfl, hk2 page S2 bl id X hf hok hI2 hX hnone q0 q1 hI4 w17 ((H18.front 1 rfl).tail.front 1 rfl).tail⟩
theorem ceget_spec (hT : ∀ w', Sat Z w' -> TabAt E.g_math_bits_deBruijn64tab w') (H : Sat (CentP E cb b h s r W :: Z) w) (hI : SwInv W U M) (hsw : ∀ x ∈ W.L, x.swept = true) {p k : Int} {np : Bool} {K : Int -> Int -> World -> Prop}
    (hk0 : ¬ (1 <= k ∧ k < 68) -> ∀ w', Sat (CentP E cb b h s r W :: Z) w' -> K 0 1 w')
    (hk1 : 1 <= k -> k < 68 -> ∀ x l, ofK W.L (k, np, false, true) = x :: l -> SwInv { W with L := remB W.L x.id } U M -> ∀ w', Sat (CentP E cb b h s r { W with L := remB W.L x.id } :: Z) w' -> K x.id 0 w')
    (hk2 : 1 <= k -> k < 68 -> ofK W.L (k, np, false, true) = [] -> ∀ S2, Lost W.S p (clsAt k).2.1 S2 -> SwInv { W with S := S2 } U M -> ∀ w', Sat (CentP E cb b h s r { W with S := S2 } :: Z) w' -> K 0 13 w')
    (hk3 : 1 <= k -> k < 68 -> ofK W.L (k, np, false, true) = [] -> ∀ page S2 bl id X, Found W.S p (clsAt k).2.1 page S2 -> HOk W.S -> HInv S2 (inr page (clsAt k).2.1) -> Next S2 id X -> W.S.sp id = none -> 0 <= page -> page + (clsAt k).2.1 <= 34359738368 -> SwInv { W with S := S2.keep id (bl, spOf page (clsAt k).2.1 k np) page (clsAt k).2.1 X } (U.set id none1) (M.set id none1) ->
      ∀ w', Sat (CentP E cb b h s r { W with S := S2.keep id (bl, spOf page (clsAt k).2.1 k np) page (clsAt k).2.1 X } :: Z) w' -> K id 0 w') : F.central_Central_Get E (some ⟨cb, 0, none⟩) p k np K w := by
  unfold F.central_Central_Get T0.central_Central_Get
  refine JOIN_intro (fun st w' => Sat (CentP E cb b h s r W :: Z) w' ∧ (st.1 = true ↔ ¬ (1 <= k ∧ k < 68))) (CND_dec (fun g => ⟨H, by simp; omega⟩) fun g => table_spec H fun r4 w5 H5 => ?_) ?_
  · have hl := H5.recLen (by decide) cls4_len
    rw [cls_len] at hl
    refine ⟨H5.tail, ?_⟩
    rw [decide_eq_true_eq]; omega
  rintro ⟨st, u⟩ _ w3 ⟨H3, hst⟩
  dsimp only at hst ⊢
  refine CND_intro (fun hq => hk0 (hst.1 hq) w3 H3) fun hq => ?_
  have hkk : 1 <= k ∧ k < 68 := Classical.byContradiction fun g => by rw [hst.2 g] at hq; cases hq
  obtain ⟨k0, k1⟩ := hkk
  let fs : List Value := [.func (.func E.f_central_Central_swept) #[.pointer (some ⟨cb, 0, none⟩)] #[], .func (.func E.f_central_Central_partial) #[.pointer (some ⟨cb, 0, none⟩)] #[], .func (.func E.f_central_Central_full) #[.pointer (some ⟨cb, 0, none⟩)] #[], .func (.func E.f_central_Central_fresh) #[.pointer (some ⟨cb, 0, none⟩)] #[]]
  refine AL_cells (vs := fs) H3 fun b6 w7 H7 _ => ?_
  refine LOOP_intro (fun st w' => ∃ i : Nat, st.1 = 0 ∧ st.2.1 = 0 ∧ st.2.2.1 = (i : Int) ∧ i <= 3 ∧ (1 <= i -> ofK W.L (k, np, false, true) = []) ∧ Sat (Cells b6 E.t_central_way fs :: CentP E cb b h s r W :: Z) w') (fun st _ => (4 - st.2.2.1).toNat) ⟨0, rfl, rfl, rfl, by decide, fun h => by omega, H7⟩ ?_
  rintro ⟨z0, z1, i', u⟩ _ w9 ⟨i, rfl, rfl, hi, hil, hno, H9⟩
  dsimp only at hi ⊢
  subst hi
  refine CND_dec (fun _ => ⟨⟨by omega, by omega⟩, ?_⟩) fun g => absurd (by omega) g
  have H9' : Sat (CentP E cb b h s r W :: Cells b6 E.t_central_way fs :: Z) w9 := H9.front 1 rfl
  have hT2 : ∀ w', Sat (Cells b6 E.t_central_way fs :: Z) w' -> TabAt E.g_math_bits_deBruijn64tab w' := fun w' h' => hT w' h'.tail
  rw [Int.toNat_natCast, Nat.mul_one]
  have go : ∀ {w'}, i < 3 -> (ofK W.L (k, np, false, true) = []) -> Sat (CentP E cb b h s r W :: Cells b6 E.t_central_way fs :: Z) w' -> (∃ i_1 : Nat, (0 : Int) = 0 ∧ (0 : Int) = 0 ∧ i64 ((i : Int) + 1) = (i_1 : Int) ∧ i_1 <= 3 ∧ (1 <= i_1 -> ofK W.L (k, np, false, true) = []) ∧ Sat (Cells b6 E.t_central_way fs :: CentP E cb b h s r W :: Z) w') ∧ (4 - i64 ((i : Int) + 1)).toNat < (4 - (i : Int)).toNat := fun {w'} hi3 hno h' => by
    rw [show i64 ((i : Int) + 1) = ((i + 1 : Nat) : Int) by rw [i64_id (by omega) (by omega)]; rfl]
    exact ⟨⟨i + 1, rfl, rfl, rfl, by omega, fun _ => hno, h'.front 1 rfl⟩, by omega⟩
  have hi4 : i = 0 ∨ i = 1 ∨ i = 2 ∨ i = 3 := by omega
  rcases hi4 with rfl | rfl | rfl | rfl
  · refine ⟨_, H9.cell (o := 0) (m := 0) rfl, hE.swept1 (some ⟨cb, 0, none⟩) p k np _ w9 (ceswept_spec hE H9' hI (fun h0 w' H' => ?_) fun x l hx hI2 w' H' => ?_)⟩
    · exact ⟨0, false, 0, rfl, JOIN_in (CND_f rfl fun j => CND_f rfl (go (by decide) h0 H'))⟩
    · exact ⟨x.id, true, 0, rfl, JOIN_in (CND_t rfl fun j => CND_t rfl (hk1 k0 k1 x l hx hI2 w' (H'.front 1 rfl).tail))⟩
  · refine ⟨_, H9.cell (o := 0) (m := 1) rfl, hE.partial1 (some ⟨cb, 0, none⟩) p k np _ w9 ?_⟩
    unfold F.central_Central_partial T0.central_Central_partial
    refine AL_cells (vs := [.int .i64 p, .int .i64 k, .bool np]) H9' fun b1 w2 H2 _ => ⟨_, H2.cell rfl, _, H2.cell rfl, _, H2.cell rfl, ceclean0_spec hE (H2.front 1 rfl) hsw fun w' H' => ?_⟩
    exact ⟨0, false, 0, rfl, JOIN_in (CND_f rfl fun j => CND_f rfl (go (by decide) (hno (by decide)) (H'.front 1 rfl).tail))⟩
  · refine ⟨_, H9.cell (o := 0) (m := 2) rfl, hE.full1 (some ⟨cb, 0, none⟩) p k np _ w9 ?_⟩
    unfold F.central_Central_full T0.central_Central_full
    refine AL_cells (vs := [.int .i64 p, .int .i64 k, .bool np]) H9' fun b1 w2 H2 _ => ⟨_, H2.cell rfl, _, H2.cell rfl, _, H2.cell rfl, ceclean0_spec hE (H2.front 1 rfl) hsw fun w' H' => ?_⟩
    exact ⟨0, false, 0, rfl, JOIN_in (CND_f rfl fun j => CND_f rfl (go (by decide) (hno (by decide)) (H'.front 1 rfl).tail))⟩
  · refine ⟨_, H9.cell (o := 0) (m := 3) rfl, hE.fresh1 (some ⟨cb, 0, none⟩) p k np _ w9 (cefresh_spec hE hT2 H9' hI k0 k1 (fun S2 hl hI2 w' H' => ?_) fun page S2 bl id X hf hok hI2 hX hnone q0 q1 hI3 w' H' => ?_)⟩
    · exact ⟨0, false, 13, rfl, JOIN_in (CND_f rfl fun j => CND_t rfl (hk2 k0 k1 (hno (by decide)) S2 hl hI2 w' (H'.front 1 rfl).tail))⟩
    · exact ⟨id, true, 0, rfl, JOIN_in (CND_t rfl fun j => CND_t rfl (hk3 k0 k1 (hno (by decide)) page S2 bl id X hf hok hI2 hX hnone q0 q1 hI3 w' (H'.front 1 rfl).tail))⟩
end
end Go.Sh

set_option linter.all false
set_option maxRecDepth 8000
set_option maxHeartbeats 8000000
namespace Go.Sh
section
variable {E : Env} {w : World} {Rs Z : List Pr}
theorem newfin19 {b1 t1 : Nat} {us : List Value} {s0 s1 s2 : SlV} {pl : List Int} {rf : List Bool} {fl : List Int} (hpl : ∀ x ∈ pl, 0 <= x ∧ x < 18446744073709551616)
    (k0 : pl.length <= 1099511627776) (k1 : rf.length <= 1099511627776) (k2 : fl.length <= 1099511627776)
    {K : Option Addr -> World -> Prop} (hK : ∀ b w', Sat (VmemP E b (newV pl rf fl) :: Rs) w' -> K (some ⟨b, 0, none⟩) w')
    (H : Sat (Cells b1 t1 us :: Row E.t_uint64 1 s0 (ints .u64 pl) :: Row E.t_bool 1 s1 (bools rf) :: Row E.t_uint64 1 s2 (ints .u64 fl) :: Rs) w) : F.vmem_New E s0 s1 s2 K w := by
  have e0 : pl.length = s0.len := by have := (H.front 1 rfl).rowLen; rw [ints, List.length_map] at this; omega
  have e1 : rf.length = s1.len := by have := (H.front 2 rfl).rowLen; rw [bools, List.length_map] at this; omega
  have e2 : fl.length = s2.len := by have := (H.front 3 rfl).rowLen; rw [ints, List.length_map] at this; omega
  refine vnew_spec H hpl (fun w' h => by simpa using (h.front 1 rfl).rowAll) e0 (by omega) (fun w' h => by simpa using (h.front 2 rfl).rowAll) e1 (by omega) (fun w' h => by simpa using (h.front 3 rfl).rowAll) e2 (by omega) fun b w11 H11 => hK b w11 ?_
  exact ((((H11.front 1 rfl).tail.front 1 rfl).tail.front 1 rfl).tail.front 1 rfl).tail
theorem fresh19_spec (H : Sat Rs w) {a0 a1 a2 : SlV} {pl : List Int} {rf : List Bool} {fl : List Int} (hpl : ∀ x ∈ pl, 0 <= x ∧ x < 18446744073709551616)
    (h0 : ∀ w', Sat Rs w' -> rowAt w' a0.base a0.len (ints .u64 pl)) (l0 : pl.length = a0.len) (k0 : a0.len <= 1099511627776)
    (h1 : ∀ w', Sat Rs w' -> rowAt w' a1.base a1.len (bools rf)) (l1 : rf.length = a1.len) (k1 : a1.len <= 1099511627776)
    (h2 : ∀ w', Sat Rs w' -> rowAt w' a2.base a2.len (ints .u64 fl)) (l2 : fl.length = a2.len) (k2 : a2.len <= 1099511627776)
    {K : Option Addr -> World -> Prop} (hK : ∀ cb b h s r w', Sat (CentP E cb b h s r (SW.new (HS.new (newV pl rf fl))) :: Rs) w' -> K (some ⟨cb, 0, none⟩) w') : F.mallowlaw19_fresh E a0 a1 a2 K w := by
  unfold F.mallowlaw19_fresh T0.mallowlaw19_fresh
  have l0' : (ints IntKind.u64 pl).length = a0.len := by rw [ints, List.length_map]; exact l0
  have l1' : (bools rf).length = a1.len := by rw [bools, List.length_map]; exact l1
  have l2' : (ints IntKind.u64 fl).length = a2.len := by rw [ints, List.length_map]; exact l2
  refine AL_cells (vs := [slV a0, slV a1, slV a2]) H fun b1 w2 H2 _ => ?_
  refine JOIN_intro (fun st w' => ∃ b, st.1 = some ⟨b, 0, none⟩ ∧ Sat (VmemP E b (newV pl rf fl) :: Rs) w') ?_ ?_
  · have Hd : Sat (Cells b1 E.t_api_Answers [slV a0, slV a1, slV a2] :: Emp :: Emp :: Emp :: Rs) w2.drew := (H2.drew.emp.emp.emp).front 3 rfl
    clear H2
    have t4 : ∀ {P0 P1 P2 : Pr} {w'}, Sat (P0 :: P1 :: P2 :: Rs) w' -> Sat Rs w' := fun h => h.tail.tail.tail
    refine ⟨a0, Hd.cell0 rfl, a1, Hd.cell rfl, a2, Hd.cell rfl, ?_⟩
    repeat' first
      | (exact Sat.cell (by assumption) (by rfl))
      | (exact Sat.cell0 (by assumption) (by rfl))
      | (refine app_slotG 1 (a := a0) (vs := ints .u64 pl) (by assumption) (by rfl) rfl (by intro w' h; exact h0 w' (t4 h)) l0' k0 (by decide) (oneIntsG _ _) fun s' w' H' => ?_)
      | (refine app_slotG 1 (a := a2) (vs := ints .u64 fl) (by assumption) (by rfl) rfl (by intro w' h; exact h2 w' (t4 h)) l2' k2 (by decide) (oneIntsG _ _) fun s' w' H' => ?_)
      | (refine app_slotG 2 (a := a1) (vs := bools rf) (by assumption) (by rfl) rfl (by intro w' h; exact h1 w' (t4 h)) l1' k1 (by decide) (oneBoolsG _) fun s' w' H' => ?_)
      | (refine app_slotG 3 (a := a0) (vs := ints .u64 pl) (by assumption) (by rfl) rfl (by intro w' h; exact h0 w' (t4 h)) l0' k0 (by decide) (oneIntsG _ _) fun s' w' H' => ?_)
      | (refine app_slotG 3 (a := a2) (vs := ints .u64 fl) (by assumption) (by rfl) rfl (by intro w' h; exact h2 w' (t4 h)) l2' k2 (by decide) (oneIntsG _ _) fun s' w' H' => ?_)
      | (refine al_slotG 2 (t := E.t_bool) (by assumption) (by rfl) fun b' w' H' => ?_)
      | (refine al_slotG 1 (t := E.t_uint64) (by assumption) (by rfl) fun b' w' H' => ?_)
      | (refine al_slotG 3 (t := E.t_uint64) (by assumption) (by rfl) fun b' w' H' => ?_)
      | (exact newfin19 hpl (by omega) (by omega) (by omega) (fun b w' h => ⟨b, rfl, h⟩) (by assumption))
      | (exact newfin19 hpl (by omega) (by omega) (by omega) (fun b w' h => ⟨b, rfl, h⟩) (Sat.perm (by assumption) (.cons _ (((List.Perm.swap _ _ _).trans (.cons _ (.swap _ _ _))).trans (.swap _ _ _)))))
      | (refine And.intro ?_ ?_)
  · rintro ⟨r, u⟩ _ w5 ⟨b, rfl, H5⟩
    refine CND_f rfl (hnew_spec H5 fun h w13 H13 => senew_spec H13 fun s w6 H6 => spcnew_spec H6 fun r w8 H8 => ?_)
    refine JOIN_in (CND_f rfl (CND_f rfl fun j => CND_f rfl (swnew_spec H8 fun b w13 H13 => CND_f rfl (cenew_spec H13 fun cb w15 H15 => ?_))))
    exact JOIN_in (CND_f rfl (cesweeper_spec H15 (PEQ_same fun j => CND_f rfl (hK cb b h s r w15 H15))))
theorem fresh19_nil (H : Sat Rs w) {K : Option Addr -> World -> Prop} (hK : ∀ cb b h s r w', Sat (CentP E cb b h s r (SW.new (HS.new (newV [] [] []))) :: Rs) w' -> K (some ⟨cb, 0, none⟩) w') : F.mallowlaw19_fresh E ⟨none, 0, 0⟩ ⟨none, 0, 0⟩ ⟨none, 0, 0⟩ K w :=
  fresh19_spec (a0 := ⟨none, 0, 0⟩) (a1 := ⟨none, 0, 0⟩) (a2 := ⟨none, 0, 0⟩) H (pl := []) (rf := []) (fl := []) (by simp) (fun _ _ => show ([] : List Value) = [] from rfl) rfl (by decide) (fun _ _ => show ([] : List Value) = [] from rfl) rfl (by decide) (fun _ _ => show ([] : List Value) = [] from rfl) rfl (by decide) hK
end
end Go.Sh

set_option linter.all false
set_option maxRecDepth 8000
set_option maxHeartbeats 8000000
namespace Go.Sh
theorem clsp16 : ((List.range 68).all fun c => decide ((clsAt c).2.1 <= 16)) = true := by decide +kernel
theorem cls_p16 {c : Int} (h0 : 0 <= c) (h1 : c < 68) : (clsAt c).2.1 <= 16 := by
  have := List.all_eq_true.1 clsp16 c.toNat (List.mem_range.2 (by omega))
  rwa [decide_eq_true_eq, show ((c.toNat : Nat) : Int) = c by omega] at this
theorem upN_small {n : Int} (h0 : 1 <= n) (h1 : n <= 512) : upN n = 512 := by unfold upN; omega
section
variable {E : Env} {w : World} {Z : List Pr} (hE : EnvC E)
include hE
theorem awake19_spec (hT : ∀ w', Sat Z w' -> TabAt E.g_math_bits_deBruijn64tab w') (H : Sat Z w) {K : Bool -> World -> Prop} (hK : ∀ w', Sat Z w' -> K true w') : F.mallowlaw19_awake E K w := by
  unfold F.mallowlaw19_awake T0.mallowlaw19_awake
  have hp5 : (clsAt 5).2.1 = 1 := by rw [cls5f]
  refine fresh19_nil (E := E) H fun cb b h s r w3 H3 => CND_f rfl ?_
  refine ceget_spec hE hT H3 (SwInv.new [] [] []) (fun x hx => by cases hx) (fun g => absurd (by decide) g) (fun _ _ x l hx => by cases hx) (fun _ _ _ S2 hl hI2 => ?_) fun _ _ _ page S2 bl id X hf hok hI2 hX hnone q0 q1 hI3 w5 H5 => ?_
  · rw [hp5] at hl
    exact ((LaidB.new []).lost (by decide) (by decide) hl).elim
  have es := hf.same
  obtain ⟨rfl, rfl⟩ := hX.top (n := 0) (by rw [es.fx]; rfl)
  rw [hp5] at hf q1 hI3 H5
  obtain ⟨b', hb', hL⟩ := hf.laid (LaidB.new []) hok (by decide) (by decide)
  have hb'2 : b' <= 1024 := by rcases hb' with rfl | rfl <;> decide
  have hL1 := hL.keep ((0 : Nat) + 1) (bl, spOf page 1 5 false) page 1 ⟨0 + 1, []⟩
  obtain ⟨T, hTe⟩ : ∃ T, T = S2.keep ((0 : Nat) + 1) (bl, spOf page 1 5 false) page 1 ⟨0 + 1, []⟩ := ⟨_, rfl⟩
  rw [<- hTe] at hI3 H5 hL1
  have hfx : T.fx = ⟨1, []⟩ := by rw [hTe]; rfl
  have hsp : T.sp 1 = some (bl, spOf page 1 5 false) := by
    rw [hTe]
    show (if (1 : Int) = ((0 : Nat) : Int) + 1 then some (bl, spOf page 1 5 false) else S2.sp 1) = _
    rw [if_pos (by decide)]
  have H5 : Sat (CentP E cb b h s r ⟨T, [], [], [], 0, 0, 0, 0⟩ :: Z) w5 := H5
  obtain ⟨U1, M1, hI3⟩ : ∃ U1 M1 : Bits, SwInv ⟨T, [], [], [], 0, 0, 0, 0⟩ U1 M1 := ⟨_, _, hI3⟩
  refine ceback_spec hE H5 hI3 (show ([] : List Itm).length < 1099511627776 by decide) (fun hn => ?_) (fun _ ⟨y, hy, _⟩ => by cases hy) fun x hx hno blk hI4 w7 H7 => ?_
  · have hn : T.sp 1 = none := hn
    rw [hsp] at hn; cases hn
  have hx : T.sp 1 = some x := hx
  rw [hsp] at hx
  cases hx
  have hkd : ((spOf page 1 5 false).used == (spOf page 1 5 false).slots) = false := by
    show ((0 : Int) == if (5 : Int) = 0 then (1 : Int) else (clsAt 5).2.2.1) = false
    rw [cls5f]; rfl
  obtain ⟨it, hit⟩ : ∃ it : Itm, it = ⟨blk, ((0 : Nat) : Int) + 1, (spOf page 1 5 false).base, ((spOf page 1 5 false).cls, (spOf page 1 5 false).noptr, (spOf page 1 5 false).used == (spOf page 1 5 false).slots, true)⟩ := ⟨_, rfl⟩
  have hitk : it.kd = (5, false, false, true) := by rw [hit]; show (5, false, _, true) = _; rw [hkd]
  have hH7 : Sat (CentP E cb b h s r ⟨T, [it], [], [], 0, 0, 0, 0⟩ :: Z) w7 := by rw [hit]; exact H7
  have hI4 : SwInv ⟨T, [it], [], [], 0, 0, 0, 0⟩ U1 M1 := by rw [hit]; exact hI4
  have hof : ofK [it] (5, false, false, true) = [it] := by unfold ofK; rw [List.filter_cons_of_pos (by rw [hitk]; decide)]; rfl
  have hsw : ∀ x ∈ [it], x.swept = true := fun x hx => by
    have := List.mem_singleton.1 hx
    subst this
    unfold Itm.swept; rw [hitk]
  refine ceget_spec hE hT hH7 hI4 hsw (fun g => absurd (by decide) g) (fun _ _ x l hx hI5 w10 H10 => ?_) (fun _ _ h0 => by rw [show (SW.L _) = [it] from rfl, hof] at h0; cases h0) (fun _ _ h0 => by rw [show (SW.L _) = [it] from rfl, hof] at h0; cases h0)
  have hx : ofK [it] (5, false, false, true) = x :: l := hx
  rw [hof] at hx
  cases hx
  have hrem : remB [it] it.id = [] := by unfold remB; simp
  have hH10 : Sat (CentP E cb b h s r ⟨T, [], [], [], 0, 0, 0, 0⟩ :: Z) w10 := by
    have := H10
    rw [show (SW.L ⟨T, [it], [], [], 0, 0, 0, 0⟩) = [it] from rfl, hrem] at this
    exact this
  have hid : it.id = 1 := by rw [hit]; rfl
  refine ceget_spec hE hT hH10 hI3 (fun x hx => by cases hx) (fun g => absurd (by decide) g) (fun _ _ x l hx => by cases hx) (fun _ _ _ S3 hl hI6 => ?_) fun _ _ _ page2 S3 bl2 id X hf2 hok2 hI6 hX2 hnone2 r0 r1 hI7 w13 H13 => ?_
  · rw [hp5] at hl
    exact (LaidB.lost (S := T) hL1 (by decide) (by have : upN 1 = 512 := by decide
                                                   rw [this]; omega) hl).elim
  have es2 := hf2.same
  obtain ⟨rfl, rfl⟩ := hX2.top (n := 1) (by rw [es2.fx]; exact hfx)
  rw [hid]
  exact CND_t rfl (CND_t rfl (CND_t rfl (CND_t rfl (CND_t rfl (CND_t rfl (hK w13 H13.tail))))))
end
end Go.Sh

set_option linter.all false
set_option maxRecDepth 8000
namespace Go.Sh
open Ieee
end Go.Sh

set_option linter.all false
set_option maxRecDepth 8000
set_option maxHeartbeats 8000000
namespace Go.Sh
structure EnvK (E : Env) : Prop extends EnvC E where
  refill1 : ∀ a b c (R : Value -> World -> Prop) w, F.cache_Cache_Alloc_1 E a b c (fun e w' => R (.int .i64 e) w') w -> E.call E.f_cache_Cache_Alloc_1 #[.pointer a, .pointer b, .pointer c] w R noP
structure KS where
  p : Int
  hd : Nat -> Int
  tiny : Int
  away : Int
def kIx (k : Int) (np : Bool) : Nat := k.toNat * 2 + if np = true then 1 else 0
def KS.held (C : KS) (k : Int) (np : Bool) : Int := if 0 < k ∧ k < 68 then C.hd (kIx k np) else 0
def KS.hold (C : KS) (k : Int) (np : Bool) (id : Int) : KS := { C with hd := fun i => if i = kIx k np then id else C.hd i }
section
variable {E : Env} {w : World} {Z : List Pr} {c cb : Nat} {C : KS}
end
end Go.Sh

set_option linter.all false
set_option maxRecDepth 8000
set_option maxHeartbeats 8000000
namespace Go.Sh
section
variable {E : Env} {w : World} {Z : List Pr} {c cb b h s r : Nat} {C : KS} {W : SW} {U M : Bits}
variable (hE : EnvK E)
include hE
end
end Go.Sh

set_option linter.all false
set_option maxRecDepth 8000
set_option maxHeartbeats 8000000
namespace Go.Sh
section
variable {E : Env} {w : World} {Z : List Pr} {c cb b h s r : Nat} {C : KS} {W : SW} {U M : Bits}
variable (hE : EnvK E)
include hE
end
end Go.Sh

set_option linter.all false
set_option maxRecDepth 8000
set_option maxHeartbeats 8000000
namespace Go.Sh
def SW.take (W : SW) (id : Int) (x : Nat × SI) (uw : List Int) (n : Nat) : SW := { W with S := W.S.put id (x.1, { x.2 with uw := uw, used := x.2.used + 1, look := (n : Int) + 1 }) }
def Bits.take (U : Bits) (id : Int) (n : Nat) : Bits := U.set id fun i => U id i || i == n
section
variable {E : Env} {w : World} {Z : List Pr} {c cb b h s r : Nat} {C : KS} {W : SW} {U M : Bits}
variable (hE : EnvK E)
include hE
end
end Go.Sh

set_option linter.all false
set_option maxRecDepth 8000
set_option maxHeartbeats 8000000
namespace Go.Sh
def KS.flushed (C : KS) : KS := { C with tiny := 0, away := 0 }
section
variable {E : Env} {w : World} {Z : List Pr} {c cb b h s r : Nat} {C : KS} {W : SW} {U M : Bits}
variable (hE : EnvK E)
include hE
end
end Go.Sh

set_option linter.all false
set_option maxRecDepth 8000
set_option maxHeartbeats 8000000
namespace Go.Sh
section
variable {E : Env} {w : World} {Z : List Pr} {c cb b h s r : Nat} {C D : KS} {W : SW} {U M : Bits}
variable (hE : EnvK E)
include hE
end
end Go.Sh

set_option linter.all false
set_option maxRecDepth 8000
set_option maxHeartbeats 8000000
namespace Go.Sh
section
variable {E : Env} {w : World} {Z : List Pr} {c cb b h s r : Nat} {C : KS} {W : SW} {U M : Bits}
variable (hE : EnvK E)
include hE
end
end Go.Sh

set_option linter.all false
set_option maxRecDepth 8000
set_option maxHeartbeats 8000000
namespace Go.Sh
section
variable {E : Env} {w : World} {Z : List Pr} {c cb b h s r : Nat} {C D : KS} {W : SW} {U M : Bits}
variable (hE : EnvK E)
include hE
end
end Go.Sh

set_option linter.all false
namespace Go.Sh
open Go.Proofs
theorem envS : EnvS env where
  at1 := by
    intro i p1 p2 K w h
    refine ⟨(fits179 #[.int .i64 i, .pointer p1, .pointer p2] w (fun v w' => ∃ b, v = .bool b ∧ K b w') noP ?_).1, (fits179 #[.int .i64 i, .pointer p1, .pointer p2] w (fun v w' => ∃ b, v = .bool b ∧ K b w') noP ?_).2⟩ <;>
    exact (show F.stretch_Set_at_1 env i p1 p2 (fun b w' => ∃ b', Value.bool b = .bool b' ∧ K b' w') w from at1_mono (fun b w' h => ⟨b, rfl, h⟩) h)
  mono := ground_mono
theorem envA : EnvA env where
  toEnvS := envS
  set1 := by
    intro x y p1 p2 R w h
    refine ⟨(fits163 #[.int .u64 x, .int .u64 y, .pointer p1, .pointer p2] w R noP ?_).1, (fits163 #[.int .u64 x, .int .u64 y, .pointer p1, .pointer p2] w R noP ?_).2⟩ <;>
    exact h
theorem envW : EnvW env where
  toEnvA := envA
  place1 := by
    intro i p1 p2 R w h
    refine ⟨(fits129 #[.int .i64 i, .pointer p1, .pointer p2] w R noP ?_).1, (fits129 #[.int .i64 i, .pointer p1, .pointer p2] w R noP ?_).2⟩ <;>
    exact h
theorem envC : EnvC env where
  toEnvW := envW
  swept1 := by
    intro a p k n R w h
    refine ⟨(fits39 #[.pointer a, .agg ⟨[.int .i64 p, .int .i64 k, .bool n]⟩] w R noP ?_).1, (fits39 #[.pointer a, .agg ⟨[.int .i64 p, .int .i64 k, .bool n]⟩] w R noP ?_).2⟩ <;>
    exact h
  partial1 := by
    intro a p k n R w h
    refine ⟨(fits40 #[.pointer a, .agg ⟨[.int .i64 p, .int .i64 k, .bool n]⟩] w R noP ?_).1, (fits40 #[.pointer a, .agg ⟨[.int .i64 p, .int .i64 k, .bool n]⟩] w R noP ?_).2⟩ <;>
    exact h
  full1 := by
    intro a p k n R w h
    refine ⟨(fits41 #[.pointer a, .agg ⟨[.int .i64 p, .int .i64 k, .bool n]⟩] w R noP ?_).1, (fits41 #[.pointer a, .agg ⟨[.int .i64 p, .int .i64 k, .bool n]⟩] w R noP ?_).2⟩ <;>
    exact h
  fresh1 := by
    intro a p k n R w h
    refine ⟨(fits42 #[.pointer a, .agg ⟨[.int .i64 p, .int .i64 k, .bool n]⟩] w R noP ?_).1, (fits42 #[.pointer a, .agg ⟨[.int .i64 p, .int .i64 k, .bool n]⟩] w R noP ?_).2⟩ <;>
    exact h
end Go.Sh
