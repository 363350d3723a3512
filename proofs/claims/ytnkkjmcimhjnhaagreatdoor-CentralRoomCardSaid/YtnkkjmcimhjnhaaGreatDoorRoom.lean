/- The law CentralRoom holds (its card: math/bits' table as the program's text lays it): for every input the Go function returns true and leaves its arguments alone. No further condition. -/
import Derived.Test.YtnkkjmcimhjnhaaGreatDoorY
import Derived.Test.YtnkkjmcimhjnhaaGreatDoorA
import Derived.Test.YtnkkjmcimhjnhaaGreatDoorCards
import Derived.Test.YtnkkjmcimhjnhaaGreatDoorTie
import Derived.WalkKit
import Derived.ProofKit
import Derived.OpenShut
import Derived.Deep.DeepHandedRow
import Derived.Lib.LaidTab
set_option linter.all false
set_option maxRecDepth 8000
set_option maxHeartbeats 8000000
namespace Go.Sh

theorem bit1023 (x : Int) : 0 ≤ bitK .i64 0 x 1023 ∧ bitK .i64 0 x 1023 ≤ 1023 := by
  show 0 ≤ IntKind.wrap .i64 ((BitVec.ofInt 64 x &&& BitVec.ofInt 64 1023).toNat : Int) ∧ IntKind.wrap .i64 ((BitVec.ofInt 64 x &&& BitVec.ofInt 64 1023).toNat : Int) ≤ 1023
  have h : (BitVec.ofInt 64 x &&& BitVec.ofInt 64 1023).toNat ≤ 1023 := by
    rw [BitVec.toNat_and]
    exact Nat.le_trans Nat.and_le_right (by decide)
  have e : IntKind.wrap .i64 ((BitVec.ofInt 64 x &&& BitVec.ofInt 64 1023).toNat : Int) = ((BitVec.ofInt 64 x &&& BitVec.ofInt 64 1023).toNat : Int) := i64_id (by omega) (by omega)
  rw [e]; omega

structure RoomSt (W : SW) (U M : Bits) (k : Int) (np : Bool) (n : Nat) (g : Int → Option Value) : Prop where
  inv : SwInv W U M
  sw : ∀ x ∈ W.L, x.swept = true
  la : ∃ b, LaidB W.S b ∧ b ≤ 512 + 512 * (n : Int)
  cl : ∀ id x, W.S.sp id = some x → x.2.cls = k ∧ x.2.noptr = np
  kd : ∀ x ∈ W.L, ∃ y, W.S.sp x.id = some y ∧ x.kd = (k, np, y.2.used == y.2.slots, true)
  hd : ∀ id v, g id = some v → v = .bool true ∧ W.S.sp id ≠ none ∧ ∀ x ∈ W.L, x.id ≠ id
  len : W.L.length ≤ n

theorem RoomSt.put {W : SW} {U M U' : Bits} {k : Int} {np : Bool} {n : Nat} {g : Int → Option Value} (h : RoomSt W U M k np n g) {id : Int} {x : Nat × SI} {I : SI} (hx : W.S.sp id = some x) (hL : ∀ y ∈ W.L, y.id ≠ id) (h1 : I.cls = x.2.cls) (h2 : I.noptr = x.2.noptr) (hI : SwInv { W with S := W.S.put id (x.1, I) } U' M) :
    RoomSt { W with S := W.S.put id (x.1, I) } U' M k np n g := by
  obtain ⟨b, hb1, hb2⟩ := h.la
  refine ⟨hI, h.sw, ⟨b, hb1.sameV rfl rfl, hb2⟩, fun i y hy => ?_, fun y hy => ?_, fun i v hv => ?_, h.len⟩
  · have hy : (if i = id then some (x.1, I) else W.S.sp i) = some y := hy
    split at hy
    · cases hy; have := h.cl id x hx; exact ⟨h1.trans this.1, h2.trans this.2⟩
    · exact h.cl i y hy
  · obtain ⟨z, hz1, hz2⟩ := h.kd y hy
    exact ⟨z, (HS.put_ne (hL y hy)).trans hz1, hz2⟩
  · obtain ⟨a, b, c⟩ := h.hd i v hv
    refine ⟨a, ?_, c⟩
    show (if i = id then some (x.1, I) else W.S.sp i) ≠ none
    split
    · exact fun h => by cases h
    · exact b

structure Got1 (W : SW) (g : Int → Option Value) (id : Int) (x : Nat × SI) : Prop where
  sp : W.S.sp id = some x
  room : x.2.used < x.2.slots
  nl : ∀ y ∈ W.L, y.id ≠ id
  nh : g id = none

theorem RoomSt.swept {W : SW} {U M : Bits} {k : Int} {np : Bool} {n : Nat} {g : Int → Option Value} (h : RoomSt W U M k np n g) {x : Itm} {l : List Itm} (hx : ofK W.L (k, np, false, true) = x :: l) (hI : SwInv { W with L := remB W.L x.id } U M) :
    RoomSt { W with L := remB W.L x.id } U M k np n g ∧ ∃ y, Got1 { W with L := remB W.L x.id } g x.id y := by
  have hm := mem_ofK.1 (show x ∈ ofK W.L (k, np, false, true) by rw [hx]; exact List.mem_cons_self)
  obtain ⟨y, hy1, hy2⟩ := h.kd x hm.1
  refine ⟨⟨hI, fun z hz => h.sw z (mem_remB.1 hz).1, h.la, h.cl, fun z hz => h.kd z (mem_remB.1 hz).1, fun i v hv => ?_, Nat.le_trans (List.length_filter_le _ _) h.len⟩, y, hy1, ?_, fun z hz => (mem_remB.1 hz).2, ?_⟩
  · obtain ⟨a, b, c⟩ := h.hd i v hv
    exact ⟨a, b, fun z hz => c z (mem_remB.1 hz).1⟩
  · have e : (y.2.used == y.2.slots) = false := by
      rw [hm.2] at hy2
      injection hy2 with _ e; injection e with _ e; injection e with e _
      exact e.symm
    have hne : y.2.used ≠ y.2.slots := by simpa using e
    have := (h.inv.sp x.id y hy1).2.used_le
    omega
  · cases hg : g x.id with
    | none => rfl
    | some v => exact absurd rfl ((h.hd x.id v hg).2.2 x hm.1)

theorem RoomSt.fresh {W : SW} {U M : Bits} {k : Int} {np : Bool} {n : Nat} {g : Int → Option Value} (h : RoomSt W U M k np n g) (k0 : 1 ≤ k) (k1 : k < 68) {p page id : Int} {S2 : HS} {bl : Nat} {X : FX} (hf : Found W.S p (clsAt k).2.1 page S2) (hok : HOk W.S) (hnone : W.S.sp id = none) (hn : n ≤ 100)
    (hI : SwInv { W with S := S2.keep id (bl, spOf page (clsAt k).2.1 k np) page (clsAt k).2.1 X } (U.set id none1) (M.set id none1)) :
    RoomSt { W with S := S2.keep id (bl, spOf page (clsAt k).2.1 k np) page (clsAt k).2.1 X } (U.set id none1) (M.set id none1) k np (n + 1) g ∧ Got1 { W with S := S2.keep id (bl, spOf page (clsAt k).2.1 k np) page (clsAt k).2.1 X } g id (bl, spOf page (clsAt k).2.1 k np) := by
  obtain ⟨b, hb1, hb2⟩ := h.la
  have hp := cls_at_pos (c := k) (by omega) k1
  have hp16 := cls_p16 (c := k) (by omega) k1
  have hu := upN_small (n := (clsAt k).2.1) (by omega) (by omega)
  obtain ⟨b', hb', hL⟩ := hf.laid hb1 hok (by omega) (by omega)
  have es := hf.same
  have hspid : (S2.keep id (bl, spOf page (clsAt k).2.1 k np) page (clsAt k).2.1 X).sp id = some (bl, spOf page (clsAt k).2.1 k np) := if_pos rfl
  have hspne : ∀ i, i ≠ id → (S2.keep id (bl, spOf page (clsAt k).2.1 k np) page (clsAt k).2.1 X).sp i = W.S.sp i := fun i hi => by
    show (if i = id then _ else S2.sp i) = _
    rw [if_neg hi, es.sp]
  have hLid : ∀ y ∈ W.L, y.id ≠ id := fun y hy e => by
    obtain ⟨z, hz, _⟩ := h.kd y hy
    rw [e, hnone] at hz; cases hz
  refine ⟨⟨hI, h.sw, ⟨b', hL.keep _ _ _ _ _, by rcases hb' with rfl | rfl <;> rw [show ((n + 1 : Nat) : Int) = (n : Int) + 1 from rfl] <;> omega⟩, fun i y hy => ?_, fun y hy => ?_, fun i v hv => ?_, by have := h.len; show W.L.length ≤ n + 1; omega⟩, ⟨hspid, ?_, hLid, ?_⟩⟩
  · by_cases e : i = id
    · subst e
      have hy : (S2.keep i (bl, spOf page (clsAt k).2.1 k np) page (clsAt k).2.1 X).sp i = some y := hy
      rw [hspid] at hy
      cases hy; exact ⟨rfl, rfl⟩
    · have hy : (S2.keep id (bl, spOf page (clsAt k).2.1 k np) page (clsAt k).2.1 X).sp i = some y := hy
      rw [hspne i e] at hy
      exact h.cl i y hy
  · obtain ⟨z, hz1, hz2⟩ := h.kd y hy
    exact ⟨z, (hspne _ (hLid y hy)).trans hz1, hz2⟩
  · obtain ⟨a, c, d⟩ := h.hd i v hv
    refine ⟨a, ?_, d⟩
    show (S2.keep id (bl, spOf page (clsAt k).2.1 k np) page (clsAt k).2.1 X).sp i ≠ none
    by_cases e : i = id
    · rw [e, hspid]; exact fun h => by cases h
    · rw [hspne i e]; exact c
  · show (0 : Int) < if k = 0 then (1 : Int) else (clsAt k).2.2.1
    rw [if_neg (by omega)]; omega
  · cases hg : g id with
    | none => rfl
    | some v => exact absurd hnone (h.hd id v hg).2.1

theorem RoomSt.mono {W : SW} {U M : Bits} {k : Int} {np : Bool} {n : Nat} {g : Int → Option Value} (h : RoomSt W U M k np n g) : RoomSt W U M k np (n + 1) g := by
  obtain ⟨b, hb1, hb2⟩ := h.la
  exact ⟨h.inv, h.sw, ⟨b, hb1, by rw [show ((n + 1 : Nat) : Int) = (n : Int) + 1 from rfl]; omega⟩, h.cl, h.kd, h.hd, by have := h.len; omega⟩

section
variable {E : Env} {w : World} {Rs Z : List Pr} {cb b h s r : Nat} (hE : EnvC E)
include hE

theorem room_get (hT : ∀ w', Sat Z w' → TabAt E.g_math_bits_deBruijn64tab w') {W : SW} {U M : Bits} {k : Int} {np : Bool} {n : Nat} {g : Int → Option Value} (H : Sat (CentP E cb b h s r W :: Z) w) (hR : RoomSt W U M k np n g) (k0 : 1 ≤ k) (k1 : k < 68) (hn : n ≤ 100) {p : Int} {K : Int → Int → World → Prop}
    (hK : ∀ W' U' M' id x, RoomSt W' U' M' k np (n + 1) g → W'.L.length ≤ n → Got1 W' g id x → ∀ w', Sat (CentP E cb b h s r W' :: Z) w' → K id 0 w') : F.central_Central_Get E (some ⟨cb, 0, none⟩) p k np K w := by
  refine ceget_spec hE hT H hR.inv hR.sw (fun g => absurd ⟨k0, k1⟩ g) (fun _ _ x l hx hI w' H' => ?_) (fun _ _ _ S2 hl _ => ?_) fun _ _ h0 page S2 bl id X hf hok hI2 hX hnone q0 q1 hI3 w' H' => ?_
  · obtain ⟨h1, y, h2⟩ := hR.swept hx hI
    exact hK _ _ _ _ y h1.mono (Nat.le_trans (List.length_filter_le _ _) hR.len) h2 w' H'
  · exfalso
    obtain ⟨b, hb1, hb2⟩ := hR.la
    have hp := cls_at_pos (c := k) (by omega) k1
    have hp16 := cls_p16 (c := k) (by omega) k1
    have hu := upN_small (n := (clsAt k).2.1) (by omega) (by omega)
    exact hb1.lost (by omega) (by omega) hl
  · obtain ⟨h1, h2⟩ := hR.fresh k0 k1 hf hok hnone hn hI3
    exact hK _ _ _ _ _ h1 hR.len h2 w' H'

theorem room_spec (hT : TabAt E.g_math_bits_deBruijn64tab w) {a0 : Int} {a1 : Bool} {a2 a3 : SlV} {z2 : Nat → Int} {z3 : Nat → Bool} (h2 : RowA w (.int .i64) a2 z2) (h3 : RowA w .bool a3 z3) {K : Bool → World → Prop} (hK : ∀ w', Ext Nothing w w' → K true w') : F.mallowlaw19_CentralRoom E a0 a1 a2 a3 K w := by
  unfold F.mallowlaw19_CentralRoom T0.mallowlaw19_CentralRoom
  refine table_spec (Sat.start w) fun r1 w2 H2 => ?_
  have hl := H2.recLen (by decide) cls4_len
  rw [cls_len] at hl
  have hTT : ∀ {Y : List Pr} {w'} (i : Nat), Sat Y w' → Y[i]? = some (Old w) → TabAt E.g_math_bits_deBruijn64tab w' := fun i h hi => hT.ext (h.old i hi)
  have haw : ∀ {Y : List Pr} {w'} (i : Nat), Sat Y w' → Y[i]? = some (Old w) → F.mallowlaw19_awake E (fun r6 w7 => K r6 w7) w' := fun i h' hi => awake19_spec hE (fun w' h => hTT i h hi) h' fun w7 H7 => hK w7 (H7.old i hi)
  refine JOIN_intro (fun st w' => w' = w2 ∧ (st.1 = false → 1 ≤ a0 ∧ a0 < 68 ∧ a2.len ≤ 40)) (CND_dec (fun _ => ⟨rfl, fun h => by cases h⟩) fun g1 => CND_dec (fun _ => ⟨rfl, fun h => by cases h⟩) fun g2 => CND_dec (fun _ => ⟨rfl, fun h => by cases h⟩) fun g3 => ⟨rfl, fun _ => by omega⟩) ?_
  rintro ⟨st, u⟩ _ w5 ⟨rfl, hc⟩
  dsimp only at hc ⊢
  refine CND_intro (fun _ => CND_eq (fun _ => haw 1 H2 rfl) fun e => absurd (by omega) e) fun hst => ?_
  obtain ⟨k0, k1, hlen⟩ := hc hst
  refine fresh19_nil H2.tail fun cb b h s r w9 H9 => CND_f rfl (cesweeper_spec H9 (swheap_spec H9.centSw ?_))
  refine AL_map H9 .i64 fun b14 w15 H15 _ => ?_
  have H16 : Sat [CentP E cb b h s r (SW.new (HS.new (newV [] [] []))), MapF b14 .i64 (fun _ => none), Old w] w15 := H15.front 1 rfl
  refine LOOP_intro (fun st w' => ∃ (i : Nat) (W : SW) (U M : Bits) (g : Int → Option Value), st.1 = (i : Int) ∧ i ≤ a2.len ∧ RoomSt W U M a0 a1 i g ∧ Sat [CentP E cb b h s r W, MapF b14 .i64 g, Old w] w') (fun st _ => ((a2.len : Int) - st.1).toNat)
    ⟨0, _, _, _, _, rfl, Nat.zero_le _, ⟨SwInv.new [] [] [], fun x hx => (by cases hx), ⟨512, LaidB.new [], by decide⟩, fun id x hx => (by cases hx), fun x hx => (by cases hx), fun id v hv => (by cases hv), Nat.le_refl _⟩, H16⟩ ?_
  rintro ⟨i', u⟩ _ w17 ⟨i, W, U, M, g, hi, hil, hR, H17⟩
  dsimp only at hi ⊢
  subst hi
  refine CND_dec (fun hlt => ?_) fun hge => haw 2 H17 rfl
  have hi1 : i64 ((i : Int) + 1) = ((i + 1 : Nat) : Int) := by rw [i64_id (by omega) (by omega)]; rfl
  rw [hi1]
  have rd2 : ∃ x, a2.base = some x ∧ ∀ {w'}, Ext Nothing w w' → w'.cell? (x.add (Int.toNat (i : Int) * 1)) = some (.int .i64 (z2 i)) := by
    obtain ⟨x, hx, hc, _⟩ := h2.cell1 (show i < a2.len by omega)
    refine ⟨x, hx, fun he => ?_⟩
    rw [Int.toNat_natCast, Nat.mul_one]; exact he.cell hc fun f => f
  refine room_get hE (fun w' h' => hTT 1 h' rfl) H17 hR k0 k1 (by omega) fun W1 U1 M1 id x hR1 hlen1 hG w21 H21 => ?_
  refine swspan_spec H21.centSw (fun hn => by rw [hG.sp] at hn; cases hn) fun y hy => ?_
  rw [hG.sp] at hy
  cases hy
  obtain ⟨hcl1, hcl2⟩ := hR1.cl id x hG.sp
  refine JOIN_in (CND_f rfl (CND_f rfl (CND_f rfl (LKP_sl (H21.front 1 rfl) fun es _ => ⟨false, by rw [hG.nh]; rfl, fun j => CND_f rfl ?_⟩))))
  refine swinfo_spec H21.centSw hG.sp fun w42 H42 => ?_
  refine AL_cells (vs := zinfo) H42.swCent fun b43 w44 H44 _ => ?_
  refine st_all (news := infoL x.2) H44 rfl (by simp [infoL, Value.oneCell']) fun w45 H45 => ?_
  refine JOIN_in ⟨_, H45.cell rfl, ?_⟩
  rw [hcl1]
  refine CND_ne (fun hne => absurd rfl hne) fun _ => ⟨_, H45.cell rfl, ?_⟩
  rw [hcl2]
  refine CND_f (by simp) ⟨_, H45.cell rfl, _, H45.cell rfl, fun j => CND_f (by have := hG.room; simp; omega) ?_⟩
  have H46 : Sat [CentP E cb b h s r W1, MapF b14 .i64 g, Old w] w45 := H45.tail
  obtain ⟨q2, hq2, rd2⟩ := rd2
  refine JOIN_intro (fun _ w' => ∃ (W2 : SW) (U2 : Bits) (x2 : SI), RoomSt W2 U2 M1 a0 a1 (i + 1) g ∧ W2.S.sp id = some (x.1, x2) ∧ (∀ y ∈ W2.L, y.id ≠ id) ∧ W2.L.length ≤ i ∧ Sat [CentP E cb b h s r W2, MapF b14 .i64 g, Old w] w') ?_ ?_
  · have hbk := bit1023 (z2 i)
    refine LOOP_intro (fun st w' => (∃ k : Nat, st.1 = (k : Int) ∧ k ≤ 1023) ∧ ∃ (W2 : SW) (U2 : Bits) (x2 : SI), RoomSt W2 U2 M1 a0 a1 (i + 1) g ∧ W2.S.sp id = some (x.1, x2) ∧ (∀ y ∈ W2.L, y.id ≠ id) ∧ W2.L.length ≤ i ∧ Sat [CentP E cb b h s r W2, MapF b14 .i64 g, Old w] w') (fun st _ => (1024 - st.1).toNat) ⟨⟨0, rfl, by decide⟩, W1, U1, x.2, hR1, hG.sp, hG.nl, hlen1, H46⟩ ?_
    rintro ⟨kk, u⟩ _ w57 ⟨⟨k, hk, hk2⟩, W2, U2, x2, hR2, hsp2, hnl2, hlen2, H57⟩
    dsimp only at hk ⊢
    subst hk
    rw [hq2]
    refine NC_in ⟨⟨by omega, by omega⟩, _, rd2 (H57.old 2 rfl), CND_dec (fun hlt2 => ?_) fun _ => ⟨W2, U2, x2, hR2, hsp2, hnl2, hlen2, H57⟩⟩
    refine swslot_spec (x := (x.1, x2)) (fun w' h' => hTT 2 h' rfl) H57.centSw hR2.inv hsp2 (fun _ w' H' => CND_t rfl ⟨W2, U2, x2, hR2, hsp2, hnl2, hlen2, H'.swCent⟩) fun n uw' hn hu hlow hI3 w' H' => CND_f rfl ?_
    rw [show i64 ((k : Int) + 1) = ((k + 1 : Nat) : Int) by rw [i64_id (by omega) (by omega)]; rfl]
    exact ⟨⟨⟨k + 1, rfl, by omega⟩, _, _, _, hR2.put (I := { x2 with uw := uw', used := x2.used + 1, look := (n : Int) + 1 }) hsp2 hnl2 rfl rfl hI3, HS.put_sp, hnl2, hlen2, H'.swCent⟩, by omega⟩
  · rintro _ _ w55 ⟨W2, U2, x2, hR2, hsp2, hnl2, hlen2, H55⟩
    refine MUPD_sl (H55.front 1 rfl) fun w64 H64 => ?_
    have H65 : Sat [CentP E cb b h s r W2, MapF b14 .i64 (fun j => if j = id then some (.bool true) else g j), Old w] w64 := H64.front 1 rfl
    refine JOIN_intro (fun st w' => w' = w64) ?_ ?_
    · refine CND_dec (fun hlt3 => ?_) fun _ => rfl
      obtain ⟨q3, hq3, hc3⟩ := h3.cellB (show i < a3.len by omega)
      rw [hq3]
      refine NC_in ⟨⟨by omega, by omega⟩, z3 i, by rw [Int.toNat_natCast, Nat.mul_one]; exact (H65.old 2 rfl).cell hc3 fun f => f, rfl⟩
    · rintro ⟨bk, u⟩ _ w67 rfl
      have hR3 : RoomSt W2 U2 M1 a0 a1 (i + 1) (fun j => if j = id then some (.bool true) else g j) := ⟨hR2.inv, hR2.sw, hR2.la, hR2.cl, hR2.kd, fun j v hv => by
        have hv : (if j = id then some (Value.bool true) else g j) = some v := hv
        by_cases e : j = id
        · rw [if_pos e] at hv
          cases hv
          exact ⟨rfl, by rw [e, hsp2]; exact (fun h => by cases h), fun y hy => by rw [e]; exact hnl2 y hy⟩
        · rw [if_neg e] at hv
          exact hR2.hd j v hv, hR2.len⟩
      refine CND_intro (fun _ => ?_) fun _ => ⟨⟨i + 1, W2, U2, M1, _, rfl, by omega, hR3, H65⟩, by omega⟩
      refine JOIN_in (ceback_spec hE H65 hR2.inv (by omega) (fun hn => by rw [hsp2] at hn; cases hn) (fun _ ⟨y, hy, e⟩ => absurd e (hnl2 y hy)) fun y hy hno blk hI4 w74 H74 => CND_f rfl ?_)
      rw [hsp2] at hy
      cases hy
      obtain ⟨it, hit⟩ : ∃ it : Itm, it = ⟨blk, id, x2.base, (x2.cls, x2.noptr, x2.used == x2.slots, true)⟩ := ⟨_, rfl⟩
      have hlen3 : (insB W2.L it).length = W2.L.length + 1 := by rw [(insB_perm W2.L it).length_eq]; rfl
      have H74 : Sat [CentP E cb b h s r { W2 with L := insB W2.L it }, MapF b14 .i64 (fun j => if j = id then some (.bool true) else g j), Old w] w74 := by rw [hit]; exact H74
      have hI4 : SwInv { W2 with L := insB W2.L it } U2 M1 := by rw [hit]; exact hI4
      refine ceback_spec hE H74 hI4 (by show (insB W2.L it).length < _; rw [hlen3]; omega) (fun hn => by rw [show (SW.S _).sp id = _ from hsp2] at hn; cases hn) (fun _ _ w76 H76 j => CND_f rfl ?_) fun y hy hno2 => ?_
      · refine MDEL_sl (H76.front 1 rfl) fun w77 H77 => ⟨⟨i + 1, { W2 with L := insB W2.L it }, U2, M1, _, rfl, by omega, ⟨hI4, fun y hy => ?_, hR2.la, hR2.cl, fun y hy => ?_, fun j v hv => ?_, by show (insB W2.L it).length ≤ i + 1; rw [hlen3]; omega⟩, H77.front 1 rfl⟩, by omega⟩
        · rcases mem_insB.1 hy with rfl | hy
          · rw [hit]
          · exact hR2.sw y hy
        · rcases mem_insB.1 hy with rfl | hy
          · have hcc := hR2.cl id _ hsp2
            rw [hit]
            exact ⟨(x.1, x2), hsp2, by show (x2.cls, x2.noptr, _, true) = _; rw [show x2.cls = a0 from hcc.1, show x2.noptr = a1 from hcc.2]⟩
          · exact hR2.kd y hy
        · have hv : (if j = id then none else if j = id then some (Value.bool true) else g j) = some v := hv
          by_cases hj : j = id
          · rw [if_pos hj] at hv; cases hv
          · rw [if_neg hj, if_neg hj] at hv
            obtain ⟨a, c, d⟩ := hR2.hd j v hv
            refine ⟨a, c, fun y hy => ?_⟩
            rcases mem_insB.1 hy with rfl | hy
            · rw [hit]; exact fun e => hj e.symm
            · exact d y hy
      · exact absurd (by rw [hit]) (hno2 it (mem_insB.2 (.inl rfl)))
end
end Go.Sh


namespace Go.Proofs.YtnkkjmcimhjnhaaGreatDoor.centralRoom
open Go.ChangeShapes Go.WideShapes Go.ChangeAt Go.RowKit
set_option linter.unusedVariables false
set_option linter.unusedSimpArgs false

theorem own : ownKnob Tryz.prog.godebug = none := by kernel_rfl
theorem laidOut : laidOutB Tryz.prog = true := by kernel_rfl
theorem gTab : Tryz.prog.globalNamed "math/bits.deBruijn64tab" = some 0 := by kernel_rfl
theorem gTabType : (Tryz.prog.globals[0]?).map (·.type) = some 192 := by kernel_rfl
theorem und1 : Tryz.prog.underlying 192 = some (.array 64 5) := by kernel_rfl
theorem und2 : Tryz.prog.underlying 5 = some (.int .u8) := by kernel_rfl
theorem cells1 : Tryz.prog.cellsOf 192 = 64 := by kernel_rfl
theorem cells2 : Tryz.prog.cellsOf 5 = 1 := by kernel_rfl

theorem table {W : World} (h : laidMetH Tryz.prog Rows.centralRoomRow.laid W) : Go.Sh.TabAt Go.Sh.env.g_math_bits_deBruijn64tab W := by
  have ht := Lib.tabIs_of_head (rest := []) (k := .u8) (zs := Lib.deBruijn64tab.map fun n : Nat => (n : Int)) gTab gTabType und1 und2 cells2 cells1 h
  intro i hi
  have := ht.cell gTab i (by rw [List.length_map]; exact hi)
  rw [show (Lib.deBruijn64tab.map fun n : Nat => (n : Int)).getD i 0 = ((Lib.deBruijn64tab.getD i 0 : Nat) : Int) by rw [List.getD_eq_getElem?_getD, List.getD_eq_getElem?_getD, List.getElem?_map]; cases Lib.deBruijn64tab[i]? <;> rfl] at this
  exact this

theorem walk (x : Go.Sh.ArgTs [.int .i64, .bool, .sl (.int .i64), .sl (.bool)]) (w : World) (h : Go.Sh.argOks w [.int .i64, .bool, .sl (.int .i64), .sl (.bool)] x) (hT : Go.Sh.TabAt Go.Sh.env.g_math_bits_deBruijn64tab w) :
    Calls Tryz.prog 3 ⟨Go.Sh.argVals [.int .i64, .bool, .sl (.int .i64), .sl (.bool)] x⟩ w fun e w' => e = .returned (.bool true) ∧ Below w.heap.size w w' := by
  obtain ⟨a0, a1, a2, a3, u⟩ := x
  obtain ⟨w0, w1, w2, w3, _⟩ := h
  obtain ⟨z2, w2⟩ := w2
  obtain ⟨z3, w3⟩ := w3
  refine (Go.Sh.fits3 _ w (fun v w' => v = .bool true ∧ Below w.heap.size w w') Go.Sh.noP ?_).2.mono ?_
  · show Go.Sh.F.mallowlaw19_CentralRoom Go.Sh.env a0 a1 a2 a3 (fun r w' => Value.bool r = .bool true ∧ Below w.heap.size w w') w
    exact Go.Sh.room_spec Go.Sh.envC hT w2 w3 fun w' h => ⟨rfl, h.below (Nat.le_refl _) fun _ f => f.elim⟩
  · intro e w' hE
    obtain ⟨v, rfl, rfl, h⟩ := hE.val
    exact ⟨rfl, h⟩

noncomputable def laidWorld (os : Os) : World :=
  { World.holding Tryz.prog os ⟨#[], #[], []⟩ with heap := (World.holding Tryz.prog os ⟨#[], #[], []⟩).heap.modify 0 fun
      | .cells _ t frozen => .cells ⟨Lib.deBruijn64tab.map fun n : Nat => .int .u8 (n : Int)⟩ t frozen
      | o => o }
theorem laid_met (os : Os) : laidMet Tryz.prog Rows.centralRoomRow.laid ((laidWorld os).forCall (fun _ _ => 0) ⟨#[], #[.int .i64 0, .bool false, .slice none 0 0, .slice none 0 0], []⟩).memory :=
  laidMet_of_run' 8 (by kernel_rfl) (by kernel_rfl)
theorem reads (os : Os) {H : Type} (enc : TypeId × Value → H) : ∃ places, DataW.whole enc Tryz.prog ((laidWorld os).forCall (fun _ _ => 0) ⟨#[], #[.int .i64 0, .bool false, .slice none 0 0, .slice none 0 0], []⟩).memory Tryz.f3.params.toList Rows.centralRoomSpec.vars false (#[.int .i64 0, .bool false, .slice none 0 0, .slice none 0 0] : Array Value).toList 8 = some ([.lit (.int .i64 0), .lit (.bool false), .nil, .nil], [], places) :=
  ⟨[], by kernel_rfl⟩

set_option maxRecDepth 100000 in
theorem lifted (os : Os) (started : os.Started) (H : Type) (enc : TypeId × Value → H) (F : Stop.Interp) :
    ReturnsInHanded {} Tryz.checked os 3 .any ((OpenSpec.ofChange Rows.centralRoomSpec).preRow enc Tryz.prog Tryz.f3 Rows.centralRoomRow.domain false Rows.centralRoomRow.laid) (((OpenSpec.ofChange Rows.centralRoomSpec).at F).post enc Tryz.prog Tryz.f3 false true false false) := by
  obtain ⟨places, hx⟩ := reads os enc
  refine returnsInHanded_of_row (C := Tryz.checked) (s := OpenSpec.ofChange Rows.centralRoomSpec) own started (by kernel_rfl) Tryz.func3
    (witness_row_at (enc := enc) (C := Tryz.checked) false (laidWorld os) #[.int .i64 0, .bool false, .slice none 0 0, .slice none 0 0] rfl (by kernel_rfl) (by kernel_rfl) (by kernel_rfl)
      (OpenSpec.preRow_of_cond 8 hx (by kernel_rfl) (fun k hk => by cases hk) (by kernel_rfl) (laid_met os))) ?_
  intro W base args ds gs before hval0 hW _ _ _ hL _ _
  have hW' := hW
  obtain ⟨p, q, hA, hV, rfl, hfz, hnd⟩ := hW
  obtain ⟨rfl, rfl⟩ := trodVars_none hV
  have hargs := Go.Sh.args_of (P := Tryz.prog) (shs := [.int .i64, .bool, .sl (.int .i64), .sl (.bool)]) (by kernel_rfl) (fun j t v ht hv => hval0 j t v (by simpa using ht) (by simpa using hv)) hA
  obtain ⟨x, hx, hok⟩ := Go.Sh.argVals_of hargs
  obtain rfl : args = ⟨Go.Sh.argVals [.int .i64, .bool, .sl (.int .i64), .sl (.bool)] x⟩ := Array.toList_inj.1 (by simpa using hx)
  have hlen := Go.Sh.trodAll_len hA
  obtain ⟨d0, d1, d2, d3, rfl⟩ : ∃ d0 d1 d2 d3, ds = [d0, d1, d2, d3] := by
    have hl : ds.length = 4 := hlen
    match ds, hl with
    | [d0, d1, d2, d3], _ => exact ⟨d0, d1, d2, d3, rfl⟩
  refine (walk x W hok (table hL)).mono fun e W' ⟨he, bel⟩ => ?_
  subst he
  exact ⟨_, rfl, _, _, _, [], _, [], hW', trodAll_mk1 (shut_bool Tryz.underlying4 _), Go.Sh.trodAll_below laidOut bel (by kernel_rfl) hA, rfl, bel.frame _, fun h => by cases h⟩

theorem said : Rows.CentralRoomSaid :=
  OpenClaim.holds_of_cond 3 Tryz.f3 rfl rfl rfl rfl rfl rfl rfl ⟨rfl, rfl, rfl, rfl, rfl⟩ rfl rfl rfl rfl rfl (by kernel_rfl) Tryz.func3 (by kernel_rfl)
    (of_decide_eq_true (by kernel_rfl)) (by unfold Func.isWrapper; first | (rw [if_pos (by decide +kernel)]; kernel_rfl) | (rw [if_neg (by decide +kernel)]; exact ⟨rfl, rfl⟩))
    (fun os started H enc _ F => by rw [OpenClaim.pre_eq_preRow]; exact lifted os started H enc F)

theorem plain (f : FuncId) (fn : Func) (hf : Tryz.pinned.checked.prog.funcNamed "mallow/mallowlaw19.CentralRoom" = some f) (hfn : Tryz.pinned.checked.prog.funcs[f]? = some fn) :
    true = Tryz.pinned.checked.prog.looks [] ∧ ∀ (j : Nat) t, fn.params[j]? = some t → Tryz.pinned.checked.prog.wantsStandIn t = false := by
  obtain rfl : f = 3 := Option.some.inj ((show Tryz.prog.funcNamed "mallow/mallowlaw19.CentralRoom" = some 3 by kernel_rfl).symm.trans hf) |>.symm
  obtain rfl : fn = Tryz.f3 := (Option.some.inj (Tryz.func3.symm.trans hfn)).symm
  refine ⟨by kernel_rfl, fun j t ht => ?_⟩
  have hall : (Tryz.f3.params.toList.all fun t => !(Tryz.prog.wantsStandIn t)) = true := by kernel_rfl
  have := List.all_eq_true.1 hall t (Array.mem_toList_iff.2 (Array.mem_of_getElem? ht))
  exact Bool.not_eq_true' _ ▸ this

theorem proved : Rows.CentralRoomCardSaid :=
  Claim7.holds_tied_plain_at .later [] _ _ _ _ said (fun _ h => by cases h) (by kernel_rfl) (fun _ h => by cases h) centralRoom_row_tie rfl ⟨rfl, rfl⟩ (by kernel_rfl) rfl plain (by kernel_rfl)
#print axioms proved
end Go.Proofs.YtnkkjmcimhjnhaaGreatDoor.centralRoom

