/- The law ArenaRising holds: for every input the Go function returns true and leaves its arguments alone. No further condition. -/
import Derived.Test.YtbdcnkhngfiieaaD
import Derived.Test.YtbdcnkhngfiieaaT
import Derived.Test.YtbdcnkhngfiieaaA
import Derived.Test.YtbdcnkhngfiieaaRows
import Derived.WalkKit
import Derived.ProofKit
import Derived.OpenShut
set_option linter.all false
set_option maxRecDepth 4000
set_option maxHeartbeats 4000000
namespace Go.Sh

section
variable {E : Env} {ks : Iv} {own : Int → Int} {Z : List Pr} {w : World} (hE : EnvR E)
include hE

theorem awake11_spec (H : Sat Z w) {K : Bool → World → Prop} (hK : ∀ w', Sat Z w' → K true w') : F.mallowlaw11_awake E K w := by
  unfold F.mallowlaw11_awake
  refine anew_sat H fun w2 b H2 => CND_f rfl ?_
  refine aadd_sat hE H2 (by decide) (fun h => absurd h (by decide)) (fun _ hm => absurd hm (mem_nil _)) fun _ _ ks' w4 hks H4 => CND_t rfl ?_
  have h1 : ∀ n, mem ks' n ↔ n = 1 := fun n => by rw [hks]; exact ⟨fun h => h.elim (fun h => absurd h (mem_nil _)) id, .inr⟩
  refine aset_all hE H4 (by decide) (by decide) (by decide) (by decide) (fun h => absurd h (by decide)) (fun _ h => ?_) fun _ _ _ _ w6 H6 => CND_t rfl ?_
  · exfalso
    rcases h with h | h | ⟨c, c1, c2, c3⟩
    · exact absurd h (by decide)
    · exact absurd h (by decide)
    · refine c3 ((h1 c).2 ?_)
      have e1 : (512 : Int) / 512 = 1 := by decide
      have e2 : ((512 : Int) + 3 - 1) / 512 = 1 := by decide
      rw [e1] at c1; rw [e2] at c2; omega
  refine aat_sat H6 (by decide) (by decide) fun w8 H8 => CND_t (by decide) ?_
  refine aat_sat H8 (by decide) (by decide) fun w10 H10 => CND_t (by decide) ?_
  refine ahas_sat hE.toEnvA H10 (by decide) (by decide) fun w12 r hr H12 => ?_
  rw [hr.2 ((h1 _).2 (by decide))]
  refine CND_t rfl (ahas_sat hE.toEnvA H12 (by decide) (by decide) fun w14 r2 hr2 H14 => ?_)
  have : r2 = false := by
    cases r2
    · rfl
    · exact absurd ((h1 _).1 (hr2.1 rfl)) (by decide)
  rw [this]
  exact hK w14 H14.tail

end
end Go.Sh


set_option linter.all false
set_option maxRecDepth 4000
set_option maxHeartbeats 4000000
namespace Go.Sh

def gm (cs : List Int) : Int → Option Value := fun n => if n ∈ cs then some (.bool true) else none

theorem maplen_sl {F : List Pr} {w : World} {b : Nat} {cs : List Int} (H : Sat (MapF b .u64 (gm cs) :: F) w) (hn : cs.Nodup) : ∃ es : Array MapEntry, Keep.obj (some b) es w ∧ es.size = cs.length := by
  obtain ⟨es, c, m, h1, h2, h3⟩ := H.mapOpen
  refine ⟨es, ⟨c, h1⟩, ?_⟩
  rw [h2.size]
  have : (m.map (·.1)).length = cs.length := nodup_len h2.nodup hn fun x => by
    have := aget_none_iff (m := m) (n := x)
    rw [h3] at this
    unfold gm at this
    by_cases e : x ∈ cs
    · simp [e] at this ⊢; exact this
    · simp [e] at this ⊢; exact this
  simpa using this

section
variable {E : Env} {w : World} (hE : EnvR E)
include hE

theorem rising11_spec {a0 : SlV} {z : Nat → Int} (h0 : RowA w (.int .u64) a0 z) {a1 : Int} {K : Bool → World → Prop} (hK : ∀ w', Ext Nothing w w' → K true w') : F.mallowlaw11_ArenaRising E a0 a1 K w := by
  unfold F.mallowlaw11_ArenaRising
  refine AL_cells (vs := [.int .i64 a1]) (Sat.start w) fun b1 w2 H2 _ => AL_cells (vs := [.bool false]) H2 fun b3 w4 H4 _ => ?_
  refine CND_dec (fun _ => st_cell0 H4 rfl (by simp) fun w5 H5 => ⟨true, H5.cell0 rfl, hK w5 (H5.old 2 rfl)⟩) fun hlen => ?_
  refine anew_sat H4 fun w8 b H8 => AL_cells (vs := [.pointer none]) H8 fun b9 w10 H10 _ => st_cell0 H10 rfl (by simp) fun w11 H11 => ⟨some ⟨b, 0, none⟩, H11.cell0 rfl, CND_f rfl ?_⟩
  refine AL_map H11 .u64 fun b15 w16 H16 _ => AL_cells (vs := [.map none]) H16 fun b17 w18 H18 _ => st_cell0 H18 rfl (by simp) fun w19 H19 => ?_
  let R0 : Iv → (Int → Int) → List Int → List Pr := fun ks own cs => [MapF b15 .u64 (gm cs), Cells b17 E.t_map_uint64_bool [.map (some b15)], ArenaP E b ks own, Cells b9 E.t__arena_Map [.pointer (some ⟨b, 0, none⟩)], Cells b3 E.t_bool [.bool false], Cells b1 E.t_int [.int .i64 a1], Old w]
  have H20 : Sat (R0 [] (fun _ => 0) []) w19 := by
    have e : MapF b15 .u64 (fun _ => none) = MapF b15 .u64 (gm []) := rfl
    have h1 : Sat (Cells b17 E.t_map_uint64_bool [.map (some b15)] :: MapF b15 .u64 (gm []) :: Cells b9 E.t__arena_Map [.pointer (some ⟨b, 0, none⟩)] :: ArenaP E b [] (fun _ => 0) :: Cells b3 E.t_bool [.bool false] :: Cells b1 E.t_int [.int .i64 a1] :: [Old w]) w19 := H19
    exact h1.perm ((List.Perm.swap _ _ _).trans (.cons _ (.cons _ (.swap _ _ _))))
  clear H19 H18 H16 H11 H10 H8 H4 H2
  refine LOOP_intro (fun st w' => ∃ (i : Nat) (ks : Iv) (own : Int → Int) (cs : List Int), st.1 = (i : Int) ∧ i ≤ a0.len ∧ Rel ks own cs [] ∧ cs.length ≤ i ∧ Sat (R0 ks own cs) w') (fun st _ => ((a0.len : Int) - st.1).toNat)
    ⟨0, _, _, _, rfl, Nat.zero_le _, Rel.new, Nat.le_refl _, H20⟩ ?_
  rintro ⟨i', u⟩ _ w21 ⟨i, ks, own, cs, hi, hil, hR, hcs, H21⟩
  dsimp only at hi ⊢
  subst hi
  have hcap := h0.1
  refine CND_dec (fun hlt => ?_) fun hge => ?_
  · -- one is added
    have hi1 : i64 ((i : Int) + 1) = ((i + 1 : Nat) : Int) := i64_id (by omega) (by omega)
    obtain ⟨x, hx, _, hwf⟩ := h0.cell1 (show i < a0.len by omega)
    have hz : 0 ≤ z i ∧ z i < 18446744073709551616 := u64_wf hwf
    have cell : ∀ {ks own cs w'}, Sat (R0 ks own cs) w' → w'.cell? (x.add (Int.toNat (i : Int) * 1)) = some (.int .u64 (z i)) := fun H => by
      obtain ⟨y, hy, hc, _⟩ := (h0.oldI (H.old 6 rfl)).cell1 (show i < a0.len by omega)
      rw [hx] at hy; cases hy
      rw [Int.toNat_natCast, Nat.mul_one]; exact hc
    have back : ∀ {ks own cs w'}, Sat (ArenaP E b ks own :: (R0 ks own cs).eraseIdx 2) w' → Sat (R0 ks own cs) w' := fun {ks own cs w'} H => H.perm (perm_front (l := R0 ks own cs) (i := 2) rfl).symm
    have next : ∀ {ks' cs' w'}, Rel ks' own cs' [] → cs'.length ≤ i + 1 → Sat (R0 ks' own cs') w' →
        (∃ (i2 : Nat) (ks : Iv) (own : Int → Int) (cs : List Int), ((i + 1 : Nat) : Int) = (i2 : Int) ∧ i2 ≤ a0.len ∧ Rel ks own cs [] ∧ cs.length ≤ i2 ∧ Sat (R0 ks own cs) w') ∧ ((a0.len : Int) - ((i + 1 : Nat) : Int)).toNat < ((a0.len : Int) - (i : Int)).toNat := fun r1 r2 r3 => ⟨⟨i + 1, _, _, _, rfl, by omega, r1, r2, r3⟩, by omega⟩
    have Hd := H21.drew
    rw [hx, hi1]
    refine ⟨some ⟨b, 0, none⟩, (Hd.front 3 rfl).cell0 rfl, ⟨by omega, by omega⟩, z i, cell Hd, ?_⟩
    refine aadd_sat hE (Hd.front 2 rfl) hz.1 (fun hb => ?_) (fun hb hm w27 H27 => ?_) fun hb hm ks' w27 hks H27 => ?_
    · refine JOIN_in ⟨⟨by omega, by omega⟩, z i, cell Hd, CND_dec (fun _ j => CND_ne (fun e => absurd rfl e) fun _ => CND_eq (fun e => absurd e (by decide)) fun _ => next hR (by omega) Hd) fun g => absurd hb g⟩
    · have H28 := back H27
      have Hd2 := H28.drew
      have hxc := (hR.ks _).1 hm
      refine JOIN_in ⟨⟨by omega, by omega⟩, z i, cell H28, CND_dec (fun g => absurd g (by omega)) fun _ => ⟨some b15, (Hd2.front 1 rfl).cell0 rfl, ⟨by omega, by omega⟩, z i, cell Hd2, LKP_sl Hd2 fun es _ => ⟨true, by unfold gm; rw [if_pos hxc]; rfl, CND_t rfl fun j => CND_ne (fun e => absurd rfl e) fun _ => CND_eq (fun e => absurd e (by decide)) fun _ => next hR (by omega) Hd2⟩⟩⟩
    · have H28 : Sat (R0 ks' own cs) w27 := back (cs := cs) H27
      have Hd2 := H28.drew
      have hxc : z i ∉ cs := fun h => hm ((hR.ks _).2 h)
      refine JOIN_in ⟨⟨by omega, by omega⟩, z i, cell H28, CND_dec (fun g => absurd g (by omega)) fun _ => ⟨some b15, (Hd2.front 1 rfl).cell0 rfl, ⟨by omega, by omega⟩, z i, cell Hd2, LKP_sl Hd2 fun es _ => ⟨false, by unfold gm; rw [if_neg hxc]; rfl, CND_f rfl fun j => CND_ne (fun e => absurd rfl e) fun _ => CND_t rfl ?_⟩⟩⟩
      have Hd3 := Hd2.drew
      refine ⟨some b15, (Hd3.front 1 rfl).cell0 rfl, ⟨by omega, by omega⟩, z i, cell Hd3, MUPD_sl Hd3 fun w45 H45 => next (ks' := ks') (cs' := cs ++ [z i]) ⟨fun n => ?_, ?_, fun c hc => ?_, hR.ow, hR.pg⟩ (by simp; omega) ?_⟩
      · rw [hks, hR.ks, List.mem_append, List.mem_singleton]
      · exact List.nodup_append.2 ⟨hR.nd, by simp, fun y hy v hv e => by simp at hv; rw [e, hv] at hy; exact hxc hy⟩
      · rcases List.mem_append.1 hc with h | h
        · exact hR.lim c h
        · rw [List.mem_singleton] at h; omega
      · have e : (fun k => if k = z i then some (Value.bool true) else gm cs k) = gm (cs ++ [z i]) := by
          funext k
          unfold gm
          by_cases e : k = z i
          · simp [e]
          · simp [e]
        rw [e] at H45
        exact H45
  · -- they are told
    obtain rfl : i = a0.len := by omega
    refine AL_cells (vs := [.int .i64 0]) H21 fun b46 w47 H47 _ => AL_cells (vs := [.int .u64 0]) H47 fun b48 w49 H49 _ => ?_
    refine st_cell0 (H49.front 1 rfl) rfl (by simp) fun w50 H50 => st_cell0 (H50.front 1 rfl) rfl (by simp) fun w51 H51 => ⟨some ⟨b, 0, none⟩, (H51.front 5 rfl).cell0 rfl, ?_⟩
    have hok : Ok ks := (H51.front 4 rfl).arenaOk
    have hkb := hR.bnd hok
    refine achunks_sat hE (H51.front 4 rfl) hkb fun c s w54 H54 => ?_
    have hsort := rise_sorted hok
    have hxl : (rise ks).length = cs.length := nodup_len (sorted_nodup hsort) hR.nd fun x => mem_rise.trans (hR.ks x)
    let T : Int → Int → Bool → List Pr := fun n l t => ArenaP E b ks own :: Cells b48 E.t_uint64 [.int .u64 l] :: Cells b46 E.t_int [.int .i64 n] :: MapF b15 .u64 (gm cs) :: Cells b17 E.t_map_uint64_bool [.map (some b15)] :: Cells b9 E.t__arena_Map [.pointer (some ⟨b, 0, none⟩)] :: Cells b3 E.t_bool [.bool t] :: Cells b1 E.t_int [.int .i64 a1] :: [Old w]
    have done : ∀ {D : Nat} {n l w'}, Sat (ObjR D (.deferred (some [])) :: ReadP E c s ks :: T n l false) w' →
        F.mallowlaw11_awake E (fun r92 w93 => stCells (Addr.mk b3 0 none) 0 [.bool r92] w93 fun w94 => COL D w94 fun w95 => ∃ x96 : Bool, w95.cell? (Addr.mk b3 0 none) = some (.bool x96) ∧ K x96 w95) w' := fun {D n l w'} H' =>
      awake11_spec hE H' fun w93 H93 => st_cell0 (H93.front 8 rfl) rfl (by simp) fun w94 H94 => COL_sat (H94.front 1 rfl) fun w95 H95 => ⟨true, H95.cell0 rfl, hK w95 (H95.old 9 rfl)⟩
    refine ⟨E.f_arena_Map_Chunks_1, #[.pointer (some ⟨c, 0, none⟩)], rise ks, ReadP E c s ks, rfl, chunks_seq hE hok hkb,
      fun i Rs => i ≤ (rise ks).length ∧ Rs = T i (if i = 0 then 0 else (rise ks).getD (i - 1) 0) false, fun _ => False, fun _ Rs => ∃ l, Rs = T a1 l false, _, ⟨Nat.zero_le _, rfl⟩, H54, ?_, ?_, fun _ _ _ f => f.elim, ?_, trivial⟩
    · rintro i x _ B W1 hx ⟨hil, rfl⟩ HW
      have hlt := (List.getElem?_eq_some_iff.1 hx).1
      have hxm : mem ks x := mem_rise.1 (List.mem_of_getElem? hx)
      have hxc : x ∈ cs := (hR.ks x).1 hxm
      have hxb := hR.lim x hxc
      generalize hlast : (if i = 0 then 0 else (rise ks).getD (i - 1) 0) = last at *
      have hrise : 0 < i → last < x := fun h0 => by
        rw [if_neg (by omega)] at hlast
        have h1 := List.pairwise_iff_getElem.1 hsort (i - 1) i (by omega) hlt (by omega)
        rw [List.getD_eq_getElem?_getD, List.getElem?_eq_getElem (by omega), Option.getD_some] at hlast
        rw [(List.getElem?_eq_some_iff.1 hx).2, hlast] at h1
        exact h1
      have go : ∀ {w'}, Sat (B :: ReadP E c s ks :: T i last false) w' → ∀ j : Nat → Value, CND false (stCells (Addr.mk b3 0 none) 0 [.bool false] w' fun w82 => ∃ Rs', False ∧ Sat (B :: ReadP E c s ks :: Rs') w82)
          (stCells (Addr.mk b48 0 none) 0 [.int .u64 x] w' fun w83 =>
                ∃ x84 : Int, w83.cell? (Addr.mk b46 0 none) = some (.int .i64 x84) ∧
                stCells (Addr.mk b46 0 none) 0 [.int .i64 (i64 (x84 + 1))] w83 fun w85 =>
                ∃ x86 : Int, w85.cell? (Addr.mk b46 0 none) = some (.int .i64 x86) ∧
                ∃ x87 : Int, w85.cell? (Addr.mk b1 0 none) = some (.int .i64 x87) ∧
                CND ((x86 : Int) == x87) (∃ Rs', (∃ l, Rs' = T a1 l false) ∧ Sat (B :: ReadP E c s ks :: Rs') w85)
                  (∃ Rs', (i + 1 ≤ (rise ks).length ∧ Rs' = T ((i + 1 : Nat) : Int) (if i + 1 = 0 then 0 else (rise ks).getD (i + 1 - 1) 0) false) ∧ Sat (B :: ReadP E c s ks :: Rs') w85)) := fun {w'} HW j => by
        refine CND_f rfl (st_cell0 (HW.front 3 rfl) rfl (by simp) fun w73 H73 => ⟨_, (H73.front 4 rfl).cell0 rfl, st_cell0 (H73.front 4 rfl) rfl (by simp) fun w75 H75 => ⟨_, H75.cell0 rfl, a1, (H75.front 9 rfl).cell0 rfl, ?_⟩⟩)
        rw [i64_id (n := (i : Int) + 1) (by omega) (by omega)] at *
        have H76 : Sat (B :: ReadP E c s ks :: T ((i : Int) + 1) x false) w75 := (((H75.front 1 rfl).front 4 rfl).front 4 rfl).front 4 rfl
        refine CND_eq (fun e => ⟨_, ⟨x, rfl⟩, ?_⟩) fun _ => ⟨_, ⟨by omega, rfl⟩, ?_⟩
        · rw [← e]; exact H76
        · have e : (if i + 1 = 0 then 0 else (rise ks).getD (i + 1 - 1) 0) = x := by
            rw [if_neg (by omega), List.getD_eq_getElem?_getD, show i + 1 - 1 = i by omega, hx]; rfl
          rw [e]
          exact H76
      have back : ∀ {w'}, Sat (ArenaP E b ks own :: (B :: ReadP E c s ks :: T i last false).eraseIdx 2) w' → Sat (B :: ReadP E c s ks :: T i last false) w' := fun H => H.perm (perm_front (l := B :: ReadP E c s ks :: T i last false) (i := 2) rfl).symm
      have ex1 : u64 (x * 4194304) = x * 4194304 := u64_id (by omega) (by omega)
      have ex2 : u64 (u64 (u64 (x * 4194304) + 4194304) - 1) = x * 4194304 + 4194304 - 1 := by rw [ex1, u64_id (n := x * 4194304 + 4194304) (by omega) (by omega), u64_id (by omega) (by omega)]
      rw [ex1] at *
      have two : ∀ {P : Bool → World → Prop}, (∀ w', Sat (B :: ReadP E c s ks :: T i last false) w' → P false w') → ∃ x70 : (Option Addr), W1.cell? (Addr.mk b9 0 none) = some (.pointer x70) ∧
            F.arena_Map_Has E x70 (x * 4194304) (fun r71 w72 => CND (!r71) (P true w72) (∃ x73 : (Option Addr), w72.cell? (Addr.mk b9 0 none) = some (.pointer x73) ∧
                      F.arena_Map_Has E x73 (u64 (u64 (x * 4194304 + 4194304) - 1)) (fun r74 w75 => P (!r74) w75) w72)) W1 := fun {P} hP => by
        refine ⟨_, (HW.front 7 rfl).cell0 rfl, ahas_sat hE.toEnvA (HW.front 2 rfl) (by omega) (by omega) fun w72 r hr H72 => ?_⟩
        rw [hr.2 (by rw [show x * 4194304 / 4194304 = x by omega]; exact hxm)]
        have H73 := back H72
        rw [ex2]
        refine CND_f rfl ⟨_, (H73.front 7 rfl).cell0 rfl, ahas_sat hE.toEnvA (H73.front 2 rfl) (by omega) (by omega) fun w75 r2 hr2 H75 => ?_⟩
        rw [hr2.2 (by rw [show (x * 4194304 + 4194304 - 1) / 4194304 = x by omega]; exact hxm)]
        exact hP w75 (back H75)
      refine JOIN_in ⟨some b15, (HW.front 6 rfl).cell0 rfl, LKP_sl (HW.front 5 rfl) fun es _ => ⟨true, by unfold gm; rw [if_pos hxc]; rfl, CND_f rfl ⟨(i : Int), (HW.front 4 rfl).cell0 rfl, CND_dec (fun h0 => ⟨last, (HW.front 3 rfl).cell0 rfl, CND_dec (fun hle => absurd (hrise (by omega)) (by omega)) fun _ => ?_⟩) fun _ => ?_⟩⟩⟩
      · dsimp only
        exact two (P := fun t w' => ∀ j : Nat → Value, CND t (stCells (Addr.mk b3 0 none) 0 [.bool false] w' fun w82 => ∃ Rs', False ∧ Sat (B :: ReadP E c s ks :: Rs') w82)
          (stCells (Addr.mk b48 0 none) 0 [.int .u64 x] w' fun w83 =>
                ∃ x84 : Int, w83.cell? (Addr.mk b46 0 none) = some (.int .i64 x84) ∧
                stCells (Addr.mk b46 0 none) 0 [.int .i64 (i64 (x84 + 1))] w83 fun w85 =>
                ∃ x86 : Int, w85.cell? (Addr.mk b46 0 none) = some (.int .i64 x86) ∧
                ∃ x87 : Int, w85.cell? (Addr.mk b1 0 none) = some (.int .i64 x87) ∧
                CND ((x86 : Int) == x87) (∃ Rs', (∃ l, Rs' = T a1 l false) ∧ Sat (B :: ReadP E c s ks :: Rs') w85)
                  (∃ Rs', (i + 1 ≤ (rise ks).length ∧ Rs' = T ((i + 1 : Nat) : Int) (if i + 1 = 0 then 0 else (rise ks).getD (i + 1 - 1) 0) false) ∧ Sat (B :: ReadP E c s ks :: Rs') w85))) fun w' H' => go H'
      · dsimp only
        exact two (P := fun t w' => ∀ j : Nat → Value, CND t (stCells (Addr.mk b3 0 none) 0 [.bool false] w' fun w82 => ∃ Rs', False ∧ Sat (B :: ReadP E c s ks :: Rs') w82)
          (stCells (Addr.mk b48 0 none) 0 [.int .u64 x] w' fun w83 =>
                ∃ x84 : Int, w83.cell? (Addr.mk b46 0 none) = some (.int .i64 x84) ∧
                stCells (Addr.mk b46 0 none) 0 [.int .i64 (i64 (x84 + 1))] w83 fun w85 =>
                ∃ x86 : Int, w85.cell? (Addr.mk b46 0 none) = some (.int .i64 x86) ∧
                ∃ x87 : Int, w85.cell? (Addr.mk b1 0 none) = some (.int .i64 x87) ∧
                CND ((x86 : Int) == x87) (∃ Rs', (∃ l, Rs' = T a1 l false) ∧ Sat (B :: ReadP E c s ks :: Rs') w85)
                  (∃ Rs', (i + 1 ≤ (rise ks).length ∧ Rs' = T ((i + 1 : Nat) : Int) (if i + 1 = 0 then 0 else (rise ks).getD (i + 1 - 1) 0) false) ∧ Sat (B :: ReadP E c s ks :: Rs') w85))) fun w' H' => go H'
    · rintro D _ W1 ⟨_, rfl⟩ HW
      refine ⟨_, (HW.front 4 rfl).cell0 rfl, a1, (HW.front 9 rfl).cell0 rfl, CND_eq (fun _ => done HW) fun _ => ?_⟩
      obtain ⟨es, hes, hsz⟩ := maplen_sl (HW.front 5 rfl) hR.nd
      refine ⟨_, (HW.front 4 rfl).cell0 rfl, some b15, (HW.front 6 rfl).cell0 rfl, es, hes, CND_eq (fun _ => done HW) fun e => absurd ?_ e⟩
      omega
    · rintro D _ W1 ⟨l, rfl⟩ HW
      exact ⟨_, (HW.front 4 rfl).cell0 rfl, a1, (HW.front 9 rfl).cell0 rfl, CND_t (beq_self_eq_true _) (done HW)⟩
end
end Go.Sh


set_option linter.all false
namespace Go.Sh
open Go.Proofs

theorem envS : EnvS env where
  at1 := by
    intro i p1 p2 K w h
    refine ⟨(fits33 #[.int .i64 i, .pointer p1, .pointer p2] w (fun v w' => ∃ b, v = .bool b ∧ K b w') noP ?_).1, (fits33 #[.int .i64 i, .pointer p1, .pointer p2] w (fun v w' => ∃ b, v = .bool b ∧ K b w') noP ?_).2⟩ <;>
    exact (show F.stretch_Set_at_1 env i p1 p2 (fun b w' => ∃ b', Value.bool b = .bool b' ∧ K b' w') w from at1_mono (fun b w' h => ⟨b, rfl, h⟩) h)
  mono := ground_mono

theorem envA : EnvA env where
  toEnvS := envS
  set1 := by
    intro x y p1 p2 R w h
    refine ⟨(fits28 #[.int .u64 x, .int .u64 y, .pointer p1, .pointer p2] w R noP ?_).1, (fits28 #[.int .u64 x, .int .u64 y, .pointer p1, .pointer p2] w R noP ?_).2⟩ <;>
    exact h

theorem ends_val {K : World → Prop} {e : Ending} {w' : World} (h : Ends (fun _ w' => K w') noP e w') : (∃ v, e = .returned v) ∧ K w' := by
  obtain ⟨v, hv, hk⟩ := h.val
  exact ⟨⟨v, hv⟩, hk⟩

theorem seq16 {c : Option Addr} {xs : List Int} {Q : Pr} (h : ∀ (l : Nat) (J : Nat → List Pr → Prop) (Jx : List Pr → Prop) (W : World) (Rs : List Pr),
    (∀ (i : Nat) (x : Int) (Rs : List Pr) (W1 : World) (X : Pr), xs[i]? = some x → J i Rs → Sat (X :: Q :: Rs) W1 →
      env.yld l #[.int .u64 x] W1 fun v W' => (v = .bool true ∧ ∃ Rs', J (i + 1) Rs' ∧ Sat (X :: Q :: Rs') W') ∨ (v = .bool false ∧ ∃ Rs', Jx Rs' ∧ Sat (X :: Q :: Rs') W')) →
    J 0 Rs → Sat (Q :: Rs) W →
    F.arena_Map_Chunks_1 env (.func (.yield l) #[] #[]) c (fun W' => (∃ Rs', J xs.length Rs' ∧ Sat (Q :: Rs') W') ∨ ∃ Rs', Jx Rs' ∧ Sat (Q :: Rs') W') W) : SeqR Try.prog 16 #[.pointer c] xs Q :=
  ⟨fun args w => Try.call16 args w, fun l J Jx W Rs hY h0 HS => (fits16 #[.func (.yield l) #[] #[], .pointer c] W (fun _ W' => (∃ Rs', J xs.length Rs' ∧ Sat (Q :: Rs') W') ∨ ∃ Rs', Jx Rs' ∧ Sat (Q :: Rs') W') noP (h l J Jx W Rs hY h0 HS)).2.mono fun e w' he => ends_val he⟩

theorem seq25 {c : Option Addr} {xs : List Int} {Q : Pr} (h : ∀ (l : Nat) (J : Nat → List Pr → Prop) (Jx : List Pr → Prop) (W : World) (Rs : List Pr),
    (∀ (i : Nat) (x : Int) (Rs : List Pr) (W1 : World) (X : Pr), xs[i]? = some x → J i Rs → Sat (X :: Q :: Rs) W1 →
      env.yld l #[.int .u64 x] W1 fun v W' => (v = .bool true ∧ ∃ Rs', J (i + 1) Rs' ∧ Sat (X :: Q :: Rs') W') ∨ (v = .bool false ∧ ∃ Rs', Jx Rs' ∧ Sat (X :: Q :: Rs') W')) →
    J 0 Rs → Sat (Q :: Rs) W →
    F.arena_rising_1 env (.func (.yield l) #[] #[]) c (fun W' => (∃ Rs', J xs.length Rs' ∧ Sat (Q :: Rs') W') ∨ ∃ Rs', Jx Rs' ∧ Sat (Q :: Rs') W') W) : SeqR Try.prog 25 #[.pointer c] xs Q :=
  ⟨fun args w => Try.call25 args w, fun l J Jx W Rs hY h0 HS => (fits25 #[.func (.yield l) #[] #[], .pointer c] W (fun _ W' => (∃ Rs', J xs.length Rs' ∧ Sat (Q :: Rs') W') ∨ ∃ Rs', Jx Rs' ∧ Sat (Q :: Rs') W') noP (h l J Jx W Rs hY h0 HS)).2.mono fun e w' he => ends_val he⟩

theorem envR : EnvR env where
  toEnvA := envA
  ymono := fun l args w K K' hK ⟨fn, tmps, assign, body, h1, h2⟩ => ⟨fn, tmps, assign, body, h1, h2.mono hK⟩
  rising1 := fun c xs Q h => seq25 h
  chunks1 := fun c xs Q h => seq16 h

end Go.Sh


namespace Go.Proofs.Ytbdcnkhngfiieaa.arenaRising
open Go.ChangeShapes Go.WideShapes Go.ChangeAt Go.RowKit
set_option linter.unusedVariables false
set_option linter.unusedSimpArgs false

theorem own : ownKnob Try.prog.godebug = none := by kernel_rfl
theorem laidOut : laidOutB Try.prog = true := by kernel_rfl

theorem walk (x : Go.Sh.ArgTs [.sl (.int .u64), .int .i64]) (w : World) (h : Go.Sh.argOks w [.sl (.int .u64), .int .i64] x) :
    Calls Try.prog 5 ⟨Go.Sh.argVals [.sl (.int .u64), .int .i64] x⟩ w fun e w' => e = .returned (.bool true) ∧ Below w.heap.size w w' := by
  obtain ⟨a0, a1, u⟩ := x
  obtain ⟨w0, w1, _⟩ := h
  obtain ⟨z0, w0⟩ := w0
  refine (Go.Sh.fits5 _ w (fun v w' => v = .bool true ∧ Below w.heap.size w w') Go.Sh.noP ?_).2.mono ?_
  · show Go.Sh.F.mallowlaw11_ArenaRising Go.Sh.env a0 a1 (fun r w' => Value.bool r = .bool true ∧ Below w.heap.size w w') w
    exact Go.Sh.rising11_spec Go.Sh.envR w0 fun w' h => ⟨rfl, h.below (Nat.le_refl _) fun _ f => f.elim⟩
  · intro e w' hE
    obtain ⟨v, rfl, rfl, h⟩ := hE.val
    exact ⟨rfl, h⟩

set_option maxRecDepth 100000 in
theorem lifted (os : Os) (started : os.Started) (H : Type) (enc : TypeId × Value → H) :
    ReturnsInHanded {} Try.checked os 5 .any (Rows.arenaRisingSpec.pre6 enc Try.prog Try.f5 Rows.arenaRisingRow.domain false) (Rows.arenaRisingSpec.post enc Try.prog Try.f5 false true false false) := by
  refine returnsInHanded_of_change (C := Try.checked) own started (by kernel_rfl) Try.func5
    (ChangeSpec.witness6 (enc := enc) (C := Try.checked) false ⟨#[], #[.slice none 0 0, .int .i64 0], []⟩ 8 (by kernel_rfl) (by kernel_rfl) (by kernel_rfl) (by kernel_rfl)) ?_
  intro W base args ds gs before hval0 hW hcnd _
  have hW' := hW
  obtain ⟨p, q, hA, hV, rfl, hfz, hnd⟩ := hW
  obtain ⟨rfl, rfl⟩ := trodVars_none hV
  have hargs := Go.Sh.args_of (P := Try.prog) (shs := [.sl (.int .u64), .int .i64]) (by kernel_rfl) (fun j t v ht hv => hval0 j t v (by simpa using ht) (by simpa using hv)) hA
  obtain ⟨x, hx, hok⟩ := Go.Sh.argVals_of hargs
  obtain rfl : args = ⟨Go.Sh.argVals [.sl (.int .u64), .int .i64] x⟩ := Array.toList_inj.1 (by simpa using hx)
  have hlen := Go.Sh.trodAll_len hA
  obtain ⟨d0, d1, rfl⟩ : ∃ d0 d1, ds = [d0, d1] := by
    have hl : ds.length = 2 := hlen
    match ds, hl with
    | [d0, d1], _ => exact ⟨d0, d1, rfl⟩
  refine (walk x W hok).mono fun e W' ⟨he, bel⟩ => ?_
  subst he
  exact ⟨_, rfl, _, _, _, [], _, [], hW', trodAll_mk1 (shut_bool Try.underlying4 _), Go.Sh.trodAll_below laidOut bel (by kernel_rfl) hA, rfl, bel.frame _, fun h => by cases h⟩

theorem over : Rows.arenaRisingRow.holds Try.pinned (OpenSpec.ofChange Rows.arenaRisingSpec) :=
  OpenClaim.holds_of_wide 5 Try.f5 rfl rfl rfl rfl rfl rfl rfl ⟨rfl, rfl, rfl, rfl, rfl⟩ rfl rfl rfl rfl rfl (by kernel_rfl) Try.func5 (by kernel_rfl)
    (of_decide_eq_true (by kernel_rfl)) (by unfold Func.isWrapper; first | (rw [if_pos (by decide +kernel)]; kernel_rfl) | (rw [if_neg (by decide +kernel)]; exact ⟨rfl, rfl⟩))
    (fun os started H enc _ => lifted os started H enc)

theorem proved : Rows.ArenaRisingSaid := over
#print axioms proved
end Go.Proofs.Ytbdcnkhngfiieaa.arenaRising

