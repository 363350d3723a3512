/- The arenas told one behind the other; the model of the map. No further condition. -/
import Derived.Test.YtbdcnkhngfiieaaB
import Derived.Test.YtbdcnkhngfiieaaM
import Derived.Test.YtbdcnkhngfiieaaA
set_option linter.all false
set_option maxRecDepth 4000
set_option maxHeartbeats 1000000
namespace Go.Sh

def ups (a : Int) (n : Nat) : List Int := (List.range n).map fun j : Nat => a + (j : Int)
def slW (s : SlV) : Value := .slice s.base s.len s.cap
def rise : Iv → List Int
  | [] => []
  | p :: r => ups p.1 (p.2 - p.1).toNat ++ rise r

theorem ups_len (a : Int) (n : Nat) : (ups a n).length = n := by simp [ups]
theorem ups_get {a : Int} {n j : Nat} (h : j < n) : (ups a n)[j]? = some (a + j) := by simp [ups, h]
theorem mem_ups {a x : Int} {n : Nat} : x ∈ ups a n ↔ a ≤ x ∧ x < a + n := by
  unfold ups
  rw [List.mem_map]
  constructor
  · rintro ⟨j, hj, rfl⟩
    have := List.mem_range.1 hj
    omega
  · rintro ⟨h1, h2⟩
    exact ⟨(x - a).toNat, List.mem_range.2 (by omega), by omega⟩

theorem mem_rise {x : Int} : ∀ {l : Iv}, x ∈ rise l ↔ mem l x
  | [] => by simp [rise, mem]
  | p :: r => by
    simp only [rise, List.mem_append, mem_ups, mem_rise (l := r)]
    unfold mem
    constructor
    · rintro (h | ⟨q, hq, h⟩)
      · exact ⟨p, List.mem_cons_self, by omega⟩
      · exact ⟨q, List.mem_cons_of_mem _ hq, h⟩
    · rintro ⟨q, hq, h⟩
      rcases List.mem_cons.1 hq with rfl | hq
      · exact .inl (by omega)
      · exact .inr ⟨q, hq, h⟩

theorem rise_app (l m : Iv) : rise (l ++ m) = rise l ++ rise m := by
  induction l with
  | nil => rfl
  | cons p r ih => simp [rise, ih]

theorem rise_take {l : Iv} {i : Nat} {p : Int × Int} (h : l[i]? = some p) : rise (l.take (i + 1)) = rise (l.take i) ++ ups p.1 (p.2 - p.1).toNat := by
  have hlt := (List.getElem?_eq_some_iff.1 h).1
  rw [List.take_succ_eq_append_getElem hlt, rise_app]
  rw [(List.getElem?_eq_some_iff.1 h).2]
  simp [rise]

theorem rise_at {l : Iv} {i j : Nat} {p : Int × Int} (h : l[i]? = some p) (hj : (j : Int) < p.2 - p.1) : (rise l)[(rise (l.take i)).length + j]? = some (p.1 + j) := by
  have hlt := (List.getElem?_eq_some_iff.1 h).1
  have e : rise l = rise (l.take (i + 1)) ++ rise (l.drop (i + 1)) := by rw [← rise_app, List.take_append_drop]
  rw [e, rise_take h, List.append_assoc, List.getElem?_append_right (by omega), List.getElem?_append_left (by rw [ups_len]; omega)]
  rw [show (rise (l.take i)).length + j - (rise (l.take i)).length = j by omega]
  exact ups_get (by omega)

theorem ups_sorted (a : Int) (n : Nat) : (ups a n).Pairwise (· < ·) := by
  unfold ups
  rw [List.pairwise_map]
  exact List.pairwise_lt_range.imp fun h => by omega

theorem rise_sorted : ∀ {l : Iv}, Ok l → (rise l).Pairwise (· < ·)
  | [], _ => List.Pairwise.nil
  | p :: r, h => by
    obtain ⟨h0, h1, h2, h3, h4⟩ := h
    refine List.pairwise_append.2 ⟨ups_sorted _ _, rise_sorted h4, fun x hx y hy => ?_⟩
    have hx := mem_ups.1 hx
    obtain ⟨q, hq, hy1, hy2⟩ := mem_rise.1 hy
    have := h3 q hq
    omega

theorem sorted_nodup {l : List Int} (h : l.Pairwise (· < ·)) : l.Nodup := h.imp fun h => by omega

theorem iv_lo : ∀ {l : Iv}, Ok l → ∀ q ∈ l, 0 ≤ q.1 ∧ q.1 < q.2
  | [], _, q, hq => by cases hq
  | p :: r, h, q, hq => by
    obtain ⟨g0, g1, g2, g3, g4⟩ := h
    rcases List.mem_cons.1 hq with rfl | hq
    · exact ⟨g0, g1⟩
    · exact iv_lo g4 q hq
theorem rise_len : ∀ {l : Iv}, Ok l → l.length ≤ (rise l).length
  | [], _ => Nat.zero_le _
  | p :: r, h => by
    obtain ⟨g0, g1, g2, g3, g4⟩ := h
    have := rise_len g4
    simp only [rise, List.length_append, ups_len, List.length_cons]
    omega
theorem iv_len {l : Iv} (h : Ok l) (hb : ∀ q ∈ l, q.2 ≤ 67108864) : l.length ≤ 67108864 :=
  Nat.le_trans (rise_len h) (nodup_le 67108864 (rise l) (sorted_nodup (rise_sorted h)) fun x hx => by
    obtain ⟨q, hq, q1, q2⟩ := mem_rise.1 hx
    have := hb q hq
    have := iv_lo h q hq
    omega)

theorem flat_one7 : ∀ (l : Iv), ∀ v ∈ flat l, v.oneCell' = true
  | [], v, h => by cases h
  | p :: r, v, h => by
    simp only [flat, List.mem_cons] at h
    rcases h with rfl | rfl | h
    · rfl
    · rfl
    · exact flat_one7 r v h

theorem AL_row0 {F : List Pr} {w : World} {t z : Nat} (H : Sat F w) {K : Nat → World → Prop} (hK : ∀ b w', Sat (Row t z ⟨some ⟨b, 0, none⟩, 0, 0⟩ [] :: F) w' → K b w') : AL (.cells ⟨[]⟩ t) w K :=
  AL_intro fun w' hb hs he => hK _ _ (H.new (P := Row t z ⟨some ⟨w.heap.size, 0, none⟩, 0, 0⟩ []) (D := fun k => k = w.heap.size) he
    ⟨fun k => ⟨fun e => ⟨_, rfl, e⟩, fun ⟨a, ha, e⟩ => by cases ha; exact e⟩, ⟨by simp, Nat.le_refl _, show (0 : Nat) < 9223372036854775808 by decide, .inr ⟨_, #[], rfl, Nat.zero_le _, hb, by simp, by simp⟩⟩⟩ fun k hk => by omega)

structure EnvR (E : Env) : Prop extends EnvA E where
  ymono : ∀ l args w (K K' : Value → World → Prop), (∀ v w', K v w' → K' v w') → E.yld l args w K → E.yld l args w K'
  rising1 : ∀ c xs Q, (∀ (l : Nat) (J : Nat → List Pr → Prop) (Jx : List Pr → Prop) (W : World) (Rs : List Pr),
    (∀ (i : Nat) (x : Int) (Rs : List Pr) (W1 : World) (X : Pr), xs[i]? = some x → J i Rs → Sat (X :: Q :: Rs) W1 →
      E.yld l #[.int .u64 x] W1 fun v W' => (v = .bool true ∧ ∃ Rs', J (i + 1) Rs' ∧ Sat (X :: Q :: Rs') W') ∨ (v = .bool false ∧ ∃ Rs', Jx Rs' ∧ Sat (X :: Q :: Rs') W')) →
    J 0 Rs → Sat (Q :: Rs) W →
    F.arena_rising_1 E (.func (.yield l) #[] #[]) c (fun W' => (∃ Rs', J xs.length Rs' ∧ Sat (Q :: Rs') W') ∨ ∃ Rs', Jx Rs' ∧ Sat (Q :: Rs') W') W) → E.seq E.f_arena_rising_1 #[.pointer c] xs Q
  chunks1 : ∀ c xs Q, (∀ (l : Nat) (J : Nat → List Pr → Prop) (Jx : List Pr → Prop) (W : World) (Rs : List Pr),
    (∀ (i : Nat) (x : Int) (Rs : List Pr) (W1 : World) (X : Pr), xs[i]? = some x → J i Rs → Sat (X :: Q :: Rs) W1 →
      E.yld l #[.int .u64 x] W1 fun v W' => (v = .bool true ∧ ∃ Rs', J (i + 1) Rs' ∧ Sat (X :: Q :: Rs') W') ∨ (v = .bool false ∧ ∃ Rs', Jx Rs' ∧ Sat (X :: Q :: Rs') W')) →
    J 0 Rs → Sat (Q :: Rs) W →
    F.arena_Map_Chunks_1 E (.func (.yield l) #[] #[]) c (fun W' => (∃ Rs', J xs.length Rs' ∧ Sat (Q :: Rs') W') ∨ ∃ Rs', Jx Rs' ∧ Sat (Q :: Rs') W') W) → E.seq E.f_arena_Map_Chunks_1 #[.pointer c] xs Q

section
variable {E : Env} {b : Nat} {ks : Iv} {own : Int → Int} {Z : List Pr} {w : World}

def ReadP (E : Env) (b : Nat) (s : SlV) (ks : Iv) : Pr := Star [Cells b E.t___stretch_One [slW s], Row E.t_stretch_One 2 s (flat ks)]

theorem flat_get0 {ks : Iv} {i : Nat} {p : Int × Int} (h : ks[i]? = some p) : (flat ks)[i * 2]? = some (.int .u64 p.1) ∧ (flat ks)[i * 2 + 1]? = some (.int .u64 p.2) := flat_get ks i p h

variable (hE : EnvR E)
include hE

theorem rising_seq {s : SlV} {c : Nat} (hok : Ok ks) (hb : ∀ q ∈ ks, q.2 ≤ 67108864) : E.seq E.f_arena_rising_1 #[.pointer (some ⟨c, 0, none⟩)] (rise ks) (ReadP E c s ks) := by
  refine hE.rising1 _ _ _ fun l J Jx W Rs hY h0 HS => ?_
  unfold F.arena_rising_1
  simp only [NC_some]
  have cut : ∀ {X : List Pr} {W'}, Sat (ReadP E c s ks :: X) W' → Sat (Cells c E.t___stretch_One [slW s] :: Row E.t_stretch_One 2 s (flat ks) :: X) W' := fun H => Sat.star.1 H
  have glue : ∀ {X : List Pr} {W'}, Sat (Cells c E.t___stretch_One [slW s] :: Row E.t_stretch_One 2 s (flat ks) :: X) W' → Sat (ReadP E c s ks :: X) W' := fun H => Sat.star.2 H
  refine ⟨s, (cut HS).cell0 rfl, ?_⟩
  have hlen : ∀ {X : List Pr} {W'}, Sat (ReadP E c s ks :: X) W' → s.len = ks.length := fun H => by
    have := ((cut H).front 1 rfl).rowLen
    rw [flat_length] at this
    omega
  refine LOOP_intro (fun st w' => ∃ (i : Nat) (Rs : List Pr), st.1 = (i : Int) ∧ i ≤ ks.length ∧ J (rise (ks.take i)).length Rs ∧ Sat (ReadP E c s ks :: Rs) w') (fun st _ => ((ks.length : Int) - st.1).toNat) ⟨0, Rs, rfl, Nat.zero_le _, h0, HS⟩ ?_
  rintro ⟨i', u⟩ _ w4 ⟨i, R1, hi, hik, hJ, H4⟩
  dsimp only at hi ⊢
  subst hi
  have hl := hlen H4
  have hk := iv_len hok hb
  refine CND_dec (fun hlt => ?_) fun hge => ?_
  · obtain ⟨p, hp⟩ : ∃ p, ks[i]? = some p := ⟨_, List.getElem?_eq_getElem (by omega)⟩
    have hpm := List.mem_of_getElem? hp
    have hpb := hb p hpm
    have hp0 := iv_lo hok p hpm
    obtain ⟨f0, f1⟩ := flat_get0 hp
    have HR := (cut H4).front 1 rfl
    refine HR.rowCell (j := i * 2) f0 fun p6 hp6 c0 => ⟨⟨by omega, by omega⟩, p.1, by rw [Int.toNat_natCast, add_add, Nat.add_zero]; exact c0, p.2, ?_, ?_⟩
    · have := HR.own.cell hp6 f1
      rw [Int.toNat_natCast, add_add]; exact this
    refine AL_cells (vs := [.int .u64 0, .int .u64 0]) H4 fun b9 w10 H10 _ => ?_
    refine st_all H10 (news := [.int .u64 p.1, .int .u64 p.2]) rfl (by simp [Value.oneCell']) fun w11 H11 => ⟨p.1, H11.cell0 rfl, ?_⟩
    refine LOOP_intro (fun st w' => ∃ (j : Nat) (Rs : List Pr), st.1 = p.1 + j ∧ (j : Int) ≤ p.2 - p.1 ∧ J ((rise (ks.take i)).length + j) Rs ∧ Sat (Cells b9 E.t_stretch_One [.int .u64 p.1, .int .u64 p.2] :: ReadP E c s ks :: Rs) w') (fun st _ => (p.2 - st.1).toNat)
      ⟨0, R1, by omega, by omega, hJ, H11⟩ ?_
    rintro ⟨x', u⟩ _ w14 ⟨j, R2, hx, hjp, hJ2, H14⟩
    dsimp only at hx ⊢
    subst hx
    refine ⟨p.2, H14.cell rfl, CND_dec (fun hlt2 => ?_) fun hge2 => ?_⟩
    · have hat := rise_at hp (show (j : Int) < p.2 - p.1 by omega)
      show E.yld l (#[] ++ #[.int .u64 (p.1 + j)]) w14 _
      rw [Array.empty_append]
      refine hE.ymono _ _ _ _ _ (fun v w' hv => ?_) (hY _ _ R2 w14 _ hat hJ2 H14)
      rcases hv with ⟨rfl, R3, hJ3, H3⟩ | ⟨rfl, R3, hJ3, H3⟩
      · refine ⟨true, rfl, CND_f rfl ⟨⟨j + 1, R3, ?_, by omega, hJ3, H3⟩, ?_⟩⟩
        · rw [u64_id (by omega) (by omega)]; omega
        · rw [u64_id (by omega) (by omega)]; omega
      · exact ⟨false, rfl, CND_t rfl (.inr ⟨R3, hJ3, H3.tail⟩)⟩
    · rw [i64_id (n := (i : Int) + 1) (by omega) (by omega)]
      refine ⟨⟨i + 1, R2, rfl, by omega, ?_, H14.tail⟩, by omega⟩
      rw [rise_take hp, List.length_append, ups_len]
      have : (p.2 - p.1).toNat = j := by omega
      rw [this]; exact hJ2
  · obtain rfl : i = ks.length := by omega
    rw [List.take_length] at hJ
    exact .inl ⟨R1, hJ, H4⟩

theorem chunks_seq {s : SlV} {c : Nat} (hok : Ok ks) (hb : ∀ q ∈ ks, q.2 ≤ 67108864) : E.seq E.f_arena_Map_Chunks_1 #[.pointer (some ⟨c, 0, none⟩)] (rise ks) (ReadP E c s ks) := by
  refine hE.chunks1 _ _ _ fun l J Jx W Rs hY h0 HS => ?_
  unfold F.arena_Map_Chunks_1 F.arena_rising
  simp only [NC_some]
  refine AL_cells (vs := [.func (.yield l) #[] #[]]) HS fun b1 w2 H2 _ => ?_
  have H2' : Sat (Cells c E.t___stretch_One [slW s] :: Row E.t_stretch_One 2 s (flat ks) :: Cells b1 E.t_func_uint64_bool [.func (.yield l) #[] #[]] :: Rs) w2 := Sat.star.1 (H2.front 1 rfl)
  refine ⟨s, H2'.cell0 rfl, ?_⟩
  refine AL_cells (vs := [slW s]) H2' fun b6 w6 H6 _ => ?_
  have H7 : Sat (ReadP E b6 s ks :: Cells b1 E.t_func_uint64_bool [.func (.yield l) #[] #[]] :: Cells c E.t___stretch_One [slW s] :: Rs) w6 := by
    refine Sat.star.2 ?_
    exact H6.perm (.cons _ ((List.Perm.swap _ _ _).trans (.cons _ (.swap _ _ _))))
  refine ⟨E.f_arena_rising_1, #[.pointer (some ⟨b6, 0, none⟩)], rise ks, ReadP E b6 s ks, rfl, rising_seq hE hok hb,
    fun i Rs' => ∃ R0, J i R0 ∧ Rs' = Cells b1 E.t_func_uint64_bool [.func (.yield l) #[] #[]] :: Cells c E.t___stretch_One [slW s] :: R0,
    fun Rs' => ∃ R0, Jx R0 ∧ Rs' = Cells b1 E.t_func_uint64_bool [.func (.yield l) #[] #[]] :: Cells c E.t___stretch_One [slW s] :: R0, fun _ _ => False, _, ⟨Rs, h0, rfl⟩, H7, ?_, ?_, ?_, trivial⟩
  · rintro i x _ B W1 hx ⟨R0, hJ, rfl⟩ H
    have Hc : Sat (Cells b1 E.t_func_uint64_bool [.func (.yield l) #[] #[]] :: B :: ReadP E b6 s ks :: Cells c E.t___stretch_One [slW s] :: R0) W1 := H.front 2 rfl
    refine ⟨.func (.yield l) #[] #[], Hc.cell0 rfl, ?_⟩
    show E.yld l (#[] ++ #[.int .u64 x]) W1 _
    rw [Array.empty_append]
    have e1 : ∀ {R : List Pr} {W'}, Sat (B :: ReadP E b6 s ks :: Cells b1 E.t_func_uint64_bool [.func (.yield l) #[] #[]] :: Cells c E.t___stretch_One [slW s] :: R) W' ↔
        Sat (Star [B, Cells b6 E.t___stretch_One [slW s], Cells b1 E.t_func_uint64_bool [.func (.yield l) #[] #[]]] :: ReadP E c s ks :: R) W' := fun {R W'} => by
      constructor
      · intro H
        have H1 : Sat (Cells b6 E.t___stretch_One [slW s] :: Row E.t_stretch_One 2 s (flat ks) :: B :: Cells b1 E.t_func_uint64_bool [.func (.yield l) #[] #[]] :: Cells c E.t___stretch_One [slW s] :: R) W' := Sat.star.1 (H.front 1 rfl)
        refine Sat.star.2 ?_
        have H2 : Sat (Cells c E.t___stretch_One [slW s] :: Row E.t_stretch_One 2 s (flat ks) :: B :: Cells b6 E.t___stretch_One [slW s] :: Cells b1 E.t_func_uint64_bool [.func (.yield l) #[] #[]] :: R) W' := by
          have H3 := H1.front 4 rfl
          exact H3.perm (.cons _ ((List.Perm.swap _ _ _).trans (.cons _ (.swap _ _ _))))
        have H3 : Sat (ReadP E c s ks :: B :: Cells b6 E.t___stretch_One [slW s] :: Cells b1 E.t_func_uint64_bool [.func (.yield l) #[] #[]] :: R) W' := Sat.star.2 H2
        exact H3.perm ((List.Perm.swap _ _ _).trans (.cons _ ((List.Perm.swap _ _ _).trans (.cons _ (.swap _ _ _)))))
      · intro H
        have H1 : Sat (B :: Cells b6 E.t___stretch_One [slW s] :: Cells b1 E.t_func_uint64_bool [.func (.yield l) #[] #[]] :: ReadP E c s ks :: R) W' := Sat.star.1 H
        have H2 : Sat (Cells c E.t___stretch_One [slW s] :: Row E.t_stretch_One 2 s (flat ks) :: B :: Cells b6 E.t___stretch_One [slW s] :: Cells b1 E.t_func_uint64_bool [.func (.yield l) #[] #[]] :: R) W' := Sat.star.1 (H1.front 3 rfl)
        have H3 : Sat (ReadP E b6 s ks :: B :: Cells b1 E.t_func_uint64_bool [.func (.yield l) #[] #[]] :: Cells c E.t___stretch_One [slW s] :: R) W' := by
          refine Sat.star.2 ?_
          have H4 : Sat (Cells b6 E.t___stretch_One [slW s] :: Cells c E.t___stretch_One [slW s] :: Row E.t_stretch_One 2 s (flat ks) :: B :: Cells b1 E.t_func_uint64_bool [.func (.yield l) #[] #[]] :: R) W' := H2.front 3 rfl
          exact H4.perm (.cons _ ((List.Perm.swap _ _ _).trans (.cons _ ((List.Perm.swap _ _ _).trans (.cons _ (.swap _ _ _))))))
        exact H3.perm (.swap _ _ _)
    refine hE.ymono _ _ _ _ _ (fun v w' hv => ?_) (hY i x R0 W1 _ hx hJ (e1.1 H))
    rcases hv with ⟨rfl, R3, hJ3, H3⟩ | ⟨rfl, R3, hJ3, H3⟩
    · exact ⟨true, rfl, CND_f rfl ⟨_, ⟨R3, hJ3, rfl⟩, e1.2 H3⟩⟩
    · exact ⟨false, rfl, CND_t rfl ⟨_, ⟨R3, hJ3, rfl⟩, e1.2 H3⟩⟩
  all_goals
    rintro D _ W1 ⟨R0, hJ, rfl⟩ H
    refine COL_sat H fun w' H' => ?_
    have H1 : Sat (Cells b6 E.t___stretch_One [slW s] :: Row E.t_stretch_One 2 s (flat ks) :: Cells b1 E.t_func_uint64_bool [.func (.yield l) #[] #[]] :: Cells c E.t___stretch_One [slW s] :: R0) w' := Sat.star.1 H'
    have H2 : Sat (ReadP E c s ks :: R0) w' := Sat.star.2 ((H1.tail.perm ((List.Perm.swap _ _ _))).tail.perm (.swap _ _ _))
    first
      | exact .inl ⟨R0, hJ, H2⟩
      | exact .inr ⟨R0, hJ, H2⟩

theorem achunks_sat (H : Sat (ArenaP E b ks own :: Z) w) (hb : ∀ q ∈ ks, q.2 ≤ 67108864) {K : Value → World → Prop}
    (hK : ∀ c s w', Sat (ReadP E c s ks :: ArenaP E b ks own :: Z) w' → K (.func (.func E.f_arena_Map_Chunks_1) #[] #[.pointer (some ⟨c, 0, none⟩)]) w') : F.arena_Map_Chunks E (some ⟨b, 0, none⟩) K w := by
  unfold F.arena_Map_Chunks F.stretch_Set_All
  simp only [NC_some]
  refine AL_row0 (z := 2) H fun b1 w2 H2 => ?_
  obtain ⟨G, h1, h2, h3, _⟩ := (H2.front 1 rfl).arena
  have hr := h1.set.row
  have hl : G.s.len = ks.length := by
    have := hr.own.len
    rw [flat_length, h2] at this
    omega
  have hkl := iv_len (h2 ▸ hr.ok : Ok ks) hb
  refine ⟨G.s, hr.c0, ?_⟩
  refine APP_row H2 rfl hr.own.rowAt hr.own.len (flat_one7 _) (by simp only; omega) (by simp only; omega) fun s6 w7 H7 _ => ?_
  rw [h2, List.nil_append] at H7
  refine AL_cells (vs := [slW ⟨none, 0, 0⟩]) H7 fun b8 w9 H9 _ => ?_
  refine st_all H9 (news := [slW s6]) rfl (by simp [slW, Value.oneCell']) fun w10 H10 => ?_
  exact hK b8 s6 w10 (Sat.star.2 H10)

theorem aadd_sat (H : Sat (ArenaP E b ks own :: Z) w) {c : Int} (h0 : 0 ≤ c) {K : Int → World → Prop} (hk1 : 67108864 ≤ c → K 1 w) (hk2 : c < 67108864 → mem ks c → ∀ w', Sat (ArenaP E b ks own :: Z) w' → K 34 w')
    (hk3 : c < 67108864 → ¬ mem ks c → ∀ ks' w', (∀ n, mem ks' n ↔ mem ks n ∨ n = c) → Sat (ArenaP E b ks' own :: Z) w' → K 0 w') : F.arena_Map_Add E (some ⟨b, 0, none⟩) c K w := by
  obtain ⟨G, h1, h2, h3, h4⟩ := H.arena
  refine aadd_spec hE.toEnvA h1 h0 hk1 (fun a b w' he => hk2 a (h2 ▸ b) w' (H.nothing he)) fun a b w' G' st hm ho => hk3 a (fun h => b (h2.symm ▸ h)) G'.ks w' (fun n => by rw [hm, h2]) (h4 w' G' _ _ st rfl fun p => by rw [ho, h3])
end
end Go.Sh


set_option linter.all false
set_option maxRecDepth 4000
set_option maxHeartbeats 2000000
namespace Go.Sh

def lookA (L : List (Int × Int)) (p : Int) : Int := L.foldl (fun r q => if q.1 = p then q.2 else r) 0
theorem lookA_snoc (L : List (Int × Int)) (q : Int × Int) (p : Int) : lookA (L ++ [q]) p = if q.1 = p then q.2 else lookA L p := by simp [lookA]

def setL (x id : Int) (n : Nat) : List (Int × Int) := (List.range n).map fun j : Nat => (x + (j : Int), id)
theorem setL_succ (x id : Int) (n : Nat) : setL x id (n + 1) = setL x id n ++ [(x + n, id)] := by simp [setL, List.range_succ]
theorem lookA_set (L : List (Int × Int)) (x id p : Int) : ∀ n : Nat, lookA (L ++ setL x id n) p = if x ≤ p ∧ p < x + n then id else lookA L p
  | 0 => by rw [if_neg (by omega)]; simp [setL]
  | n + 1 => by
    rw [setL_succ, ← List.append_assoc, lookA_snoc, lookA_set L x id p n]
    by_cases e : x + (n : Int) = p
    · rw [if_pos e, if_pos (by omega)]
    · rw [if_neg e]
      by_cases g : x ≤ p ∧ p < x + n
      · rw [if_pos g, if_pos (by omega)]
      · rw [if_neg g, if_neg (by omega)]

def ModelP (E : Env) (b : Nat) (cs : List Int) (L : List (Int × Int)) : Pr := Ex fun x : SlV × SlV × SlV =>
  Star [Cells b E.t_mallowlaw11_Model [slW x.1, slW x.2.1, slW x.2.2], Row E.t_uint64 1 x.1 (ints .u64 cs), Row E.t_uint64 1 x.2.1 (ints .u64 (L.map (·.1))), Row E.t_int 1 x.2.2 (ints .i64 (L.map (·.2)))]

structure Rel (ks : Iv) (own : Int → Int) (cs : List Int) (L : List (Int × Int)) : Prop where
  ks : ∀ n, mem ks n ↔ n ∈ cs
  nd : cs.Nodup
  lim : ∀ c ∈ cs, 0 ≤ c ∧ c < 67108864
  ow : ∀ p, own p = lookA L p
  pg : ∀ q ∈ L, 0 ≤ q.1 ∧ q.1 < 34359738368

theorem Rel.new : Rel [] (fun _ => 0) [] [] := ⟨fun n => ⟨fun ⟨_, h, _⟩ => (by cases h), fun h => (by cases h)⟩, List.nodup_nil, fun _ h => (by cases h), fun _ => rfl, fun _ h => (by cases h)⟩

theorem Rel.bnd {ks : Iv} {own : Int → Int} {cs : List Int} {L : List (Int × Int)} (h : Rel ks own cs L) (hok : Ok ks) : ∀ q ∈ ks, q.2 ≤ 67108864 := fun q hq => by
  have h1 := iv_lo hok q hq
  have h2 := (h.lim _ ((h.ks (q.2 - 1)).1 ⟨q, hq, by omega, by omega⟩)).2
  omega

section
variable {E : Env} {b : Nat} {ks : Iv} {own : Int → Int} {cs : List Int} {L : List (Int × Int)} {Z : List Pr} {w : World}

theorem Sat.model : Sat (ModelP E b cs L :: Z) w ↔ ∃ s0 s1 s2, Sat (Cells b E.t_mallowlaw11_Model [slW s0, slW s1, slW s2] :: Row E.t_uint64 1 s0 (ints .u64 cs) :: Row E.t_uint64 1 s1 (ints .u64 (L.map (·.1))) :: Row E.t_int 1 s2 (ints .i64 (L.map (·.2))) :: Z) w := by
  unfold ModelP
  rw [Sat.ex]
  exact ⟨fun ⟨⟨s0, s1, s2⟩, h⟩ => ⟨s0, s1, s2, Sat.star.1 h⟩, fun ⟨s0, s1, s2, h⟩ => ⟨⟨s0, s1, s2⟩, Sat.star.2 h⟩⟩

theorem mnew_sat (H : Sat Z w) {K : Nat → World → Prop} (hK : ∀ b w', Sat (ModelP E b [] [] :: Z) w' → K b w') : AL (.cells #[.slice none 0 0, .slice none 0 0, .slice none 0 0] E.t_mallowlaw11_Model) w K :=
  AL_cells (vs := [.slice none 0 0, .slice none 0 0, .slice none 0 0]) H fun b w' H' _ => hK b w' (Sat.model.2 ⟨⟨none, 0, 0⟩, ⟨none, 0, 0⟩, ⟨none, 0, 0⟩, by
    have h1 := ((H'.nil E.t_int 1).nil E.t_uint64 1).nil E.t_uint64 1
    exact h1.front 3 rfl⟩)

theorem mhas_spec (H : Sat (ModelP E b cs L :: Z) w) (hlen : cs.length ≤ 1000000) {c : Int} {K : Bool → World → Prop} (hK : K (decide (c ∈ cs)) w) : F.mallowlaw11_Model_has E (some ⟨b, 0, none⟩) c K w := by
  unfold F.mallowlaw11_Model_has
  simp only [NC_some]
  obtain ⟨s0, s1, s2, H⟩ := Sat.model.1 H
  have hl := (H.front 1 rfl).rowLen
  simp only [ints, List.length_map, Nat.mul_one] at hl
  refine LOOP_intro (fun st w' => ∃ i : Nat, st.1 = (i : Int) ∧ i ≤ cs.length ∧ (∀ j, j < i → cs[j]? ≠ some c) ∧ w' = w) (fun st _ => ((cs.length : Int) - st.1).toNat) ⟨0, rfl, Nat.zero_le _, fun j hj => absurd hj (Nat.not_lt_zero j), rfl⟩ ?_
  rintro ⟨i', u⟩ _ w2 ⟨i, hi, hil, hno, rfl⟩
  dsimp only at hi ⊢
  subst hi
  have hc0 : w2.cell? (Addr.mk b 0 none) = some (.slice s0.base s0.len s0.cap) := H.cell0 rfl
  refine ⟨s0, hc0, CND_dec (fun hlt => ⟨s0, hc0, ?_⟩) fun hge => ?_⟩
  · have hx : cs[i]? = some cs[i] := List.getElem?_eq_getElem (by omega)
    refine (H.front 1 rfl).rowCell (j := i) (v := .int .u64 cs[i]) (by simp [ints, hx]) fun p _ hp => ⟨⟨by omega, by omega⟩, cs[i], by rw [Int.toNat_natCast, Nat.mul_one]; exact hp, CND_eq (fun e => ?_) fun e => ?_⟩
    · rw [decide_eq_true (show c ∈ cs from e ▸ List.getElem_mem _)] at hK
      exact hK
    · rw [i64_id (n := (i : Int) + 1) (by omega) (by omega)]
      refine ⟨⟨i + 1, rfl, by omega, fun j hj => ?_, rfl⟩, by omega⟩
      by_cases e2 : j = i
      · subst e2; rw [hx]; exact fun e3 => e (Option.some.inj e3)
      · exact hno j (by omega)
  · have : c ∉ cs := fun hm => by
      obtain ⟨j, hj⟩ := List.mem_iff_getElem?.1 hm
      have := (List.getElem?_eq_some_iff.1 hj).1
      exact hno j (by omega) hj
    rw [decide_eq_false this] at hK
    exact hK

theorem madd_spec (H : Sat (ModelP E b cs L :: Z) w) (hlen : cs.length ≤ 100000) {c : Int} {K : Int → World → Prop} (hk1 : 67108864 ≤ c → K 1 w) (hk2 : c < 67108864 → c ∈ cs → K 34 w)
    (hk3 : c < 67108864 → c ∉ cs → ∀ w', Sat (ModelP E b (cs ++ [c]) L :: Z) w' → K 0 w') : F.mallowlaw11_Model_add E (some ⟨b, 0, none⟩) c K w := by
  unfold F.mallowlaw11_Model_add
  simp only [NC_some]
  refine CND_dec hk1 fun hlt => mhas_spec H (by omega) ?_
  by_cases hm : c ∈ cs
  · rw [decide_eq_true hm]
    exact CND_t rfl (hk2 (by omega) hm)
  · rw [decide_eq_false hm]
    refine CND_f rfl ?_
    obtain ⟨s0, s1, s2, H⟩ := Sat.model.1 H
    have hl := (H.front 1 rfl).rowLen
    simp only [ints, List.length_map, Nat.mul_one] at hl
    refine ⟨s0, H.cell0 rfl, AL_cells (vs := [.int .u64 c]) (H.front 1 rfl) fun b5 w6 H6 _ => ?_⟩
    refine APP_one (zs := #[.int .u64 0]) (bytes := 8) H6 rfl rfl (by simp [Value.oneCell']) (by omega) (by omega) fun s7 w8 H8 _ => ?_
    refine st_cell0 (H8.front 1 rfl) (v := slW s7) rfl (by simp) fun w10 H10 => hk3 (by omega) hm w10 (Sat.model.2 ⟨s7, s1, s2, ?_⟩)
    rw [show ints .u64 cs ++ [.int .u64 c] = ints .u64 (cs ++ [c]) by simp [ints]] at H10
    exact H10

theorem mat_spec (H : Sat (ModelP E b cs L :: Z) w) (hlen : L.length ≤ 1000000) {a : Int} (ha : 0 ≤ a) (ha2 : a < 18446744073709551616) {K : Int → World → Prop} (hK : K (lookA L (a / 8192)) w) : F.mallowlaw11_Model_at E (some ⟨b, 0, none⟩) a K w := by
  unfold F.mallowlaw11_Model_at
  simp only [NC_some]
  obtain ⟨s0, s1, s2, H⟩ := Sat.model.1 H
  have hl1 := (H.front 2 rfl).rowLen
  simp only [ints, List.length_map, Nat.mul_one] at hl1
  have hl2 := (H.front 3 rfl).rowLen
  simp only [ints, List.length_map, Nat.mul_one] at hl2
  have hc1 : w.cell? ((Addr.mk b 0 none).add 1) = some (.slice s1.base s1.len s1.cap) := H.cell rfl
  have hc2 : w.cell? ((Addr.mk b 0 none).add 2) = some (.slice s2.base s2.len s2.cap) := H.cell rfl
  refine ⟨s1, hc1, LET_intro fun i hi => ?_⟩
  rw [i64_id (n := (s1.len : Int) - 1) (by omega) (by omega)] at hi
  refine LOOP_intro (fun st w' => ∃ k : Nat, st.1 = (k : Int) - 1 ∧ k ≤ L.length ∧ lookA (L.take k) (a / 8192) = lookA L (a / 8192) ∧ w' = w) (fun st _ => (st.1 + 1).toNat) ⟨L.length, by show i = _; omega, Nat.le_refl _, by rw [List.take_length], rfl⟩ ?_
  rintro ⟨i', u⟩ _ w5 ⟨k, hk, hkl, hlook, rfl⟩
  dsimp only at hk ⊢
  subst hk
  refine CND_dec (fun hge => ⟨s1, hc1, ?_⟩) fun hlt => ?_
  · obtain ⟨q, rfl⟩ : ∃ q, k = q + 1 := ⟨k - 1, by omega⟩
    have hq : ((q + 1 : Nat) : Int) - 1 = (q : Int) := by omega
    rw [hq]
    have hx : L[q]? = some L[q] := List.getElem?_eq_getElem (by omega)
    rw [List.take_succ_eq_append_getElem (by omega), lookA_snoc] at hlook
    refine (H.front 2 rfl).rowCell (j := q) (v := .int .u64 L[q].1) (by simp [ints, hx]) fun p _ hp => ⟨⟨by omega, by omega⟩, L[q].1, by rw [Int.toNat_natCast, Nat.mul_one]; exact hp, by decide, ?_⟩
    rw [Int.tdiv_eq_ediv_of_nonneg ha, u64_id (n := a / 8192) (by omega) (by omega)]
    refine CND_eq (fun e => ⟨s2, hc2, ?_⟩) fun e => ?_
    · refine (H.front 3 rfl).rowCell (j := q) (v := .int .i64 L[q].2) (by simp [ints, hx]) fun p _ hp => ⟨⟨by omega, by omega⟩, L[q].2, by rw [Int.toNat_natCast, Nat.mul_one]; exact hp, ?_⟩
      rw [if_pos e] at hlook
      rw [hlook]; exact hK
    · rw [if_neg e] at hlook
      rw [i64_id (n := (q : Int) - 1) (by omega) (by omega)]
      exact ⟨⟨q, rfl, by omega, hlook, rfl⟩, by omega⟩
  · have : k = 0 := by omega
    subst this
    have hK' : K (lookA (L.take 0) (a / 8192)) w5 := by rw [hlook]; exact hK
    exact hK'

theorem mset_spec (H : Sat (ModelP E b cs L :: Z) w) (hlen : cs.length ≤ 100000) {x n id : Int} (hx0 : 0 ≤ x) (hx : x < 18446744073709551616) (hn0 : 0 ≤ n) (hn : n < 18446744073709551616) (hlim : n < 1099511627776 → (L.length : Int) + n ≤ 100000) {K : Int → World → Prop}
    (hk1 : (n = 0 ∨ id < 0) → K 1 w) (hk2 : ¬ (n = 0 ∨ id < 0) → (34359738368 ≤ x ∨ 34359738368 - x < n ∨ ∃ c, x / 512 ≤ c ∧ c ≤ (x + n - 1) / 512 ∧ c ∉ cs) → K 10 w)
    (hk3 : ¬ (n = 0 ∨ id < 0) → x < 34359738368 → n ≤ 34359738368 - x → (∀ c, x / 512 ≤ c → c ≤ (x + n - 1) / 512 → c ∈ cs) → ∀ w', Sat (ModelP E b cs (L ++ setL x id n.toNat) :: Z) w' → K 0 w') :
    F.mallowlaw11_Model_set E (some ⟨b, 0, none⟩) x n id K w := by
  unfold F.mallowlaw11_Model_set
  simp only [NC_some]
  refine JOIN_intro (fun st w' => w' = w ∧ (st.1 = true ↔ n = 0 ∨ id < 0)) ?_ ?_
  · refine CND_eq (fun e => ⟨rfl, fun _ => .inl e, fun _ => rfl⟩) fun e => ⟨rfl, ?_⟩
    rw [decide_eq_true_eq]
    exact ⟨.inr, fun h => h.resolve_left e⟩
  rintro ⟨t, u⟩ _ w3 ⟨rfl, ht⟩
  dsimp only at ht ⊢
  refine CND_intro (fun e => hk1 (ht.1 e)) fun e => ?_
  have hno : ¬ (n = 0 ∨ id < 0) := fun h => by rw [ht.2 h] at e; cases e
  refine JOIN_intro (fun st w' => w' = w3 ∧ (st.1 = true ↔ 34359738368 ≤ x ∨ 34359738368 - x < n)) ?_ ?_
  · refine CND_dec (fun e => ⟨rfl, fun _ => .inl e, fun _ => rfl⟩) fun e => ⟨rfl, ?_⟩
    rw [u64_id (n := 34359738368 - x) (by omega) (by omega), decide_eq_true_eq]
    omega
  rintro ⟨t2, u⟩ _ w6 ⟨rfl, ht2⟩
  dsimp only at ht2 ⊢
  refine CND_intro (fun e2 => hk2 hno ((ht2.1 e2).elim .inl fun h => .inr (.inl h))) fun e2 => ⟨by decide, ?_⟩
  have hin : x < 34359738368 ∧ n ≤ 34359738368 - x := by
    have : ¬ (34359738368 ≤ x ∨ 34359738368 - x < n) := fun h => by rw [ht2.2 h] at e2; cases e2
    omega
  have hn2 := hlim (by omega)
  have eA : u64 (Int.tdiv x 512) = x / 512 := by rw [Int.tdiv_eq_ediv_of_nonneg hx0, u64_id (by omega) (by omega)]
  have eB : u64 (Int.tdiv (u64 (u64 (x + n) - 1)) 512) = (x + n - 1) / 512 := by
    rw [u64_id (n := x + n) (by omega) (by omega), u64_id (n := x + n - 1) (by omega) (by omega), Int.tdiv_eq_ediv_of_nonneg (by omega), u64_id (by omega) (by omega)]
  rw [eA, eB]
  refine LOOP_intro (fun st w' => w' = w6 ∧ x / 512 ≤ st.1 ∧ st.1 ≤ (x + n - 1) / 512 + 1 ∧ ∀ c, x / 512 ≤ c → c < st.1 → c ∈ cs) (fun st _ => ((x + n - 1) / 512 + 1 - st.1).toNat) ⟨rfl, Int.le_refl _, by omega, fun c h1 h2 => absurd h1 (by omega)⟩ ?_
  rintro ⟨c, u⟩ _ w8 ⟨rfl, c1, c2, c3⟩
  dsimp only at c1 c2 c3 ⊢
  refine ⟨by decide, CND_dec (fun hle => mhas_spec H (by omega) ?_) fun hgt => ?_⟩
  · by_cases hm : c ∈ cs
    · rw [decide_eq_true hm]
      refine CND_f rfl ?_
      rw [u64_id (n := c + 1) (by omega) (by omega)]
      refine ⟨⟨rfl, by omega, by omega, fun d d1 d2 => ?_⟩, by omega⟩
      by_cases e : d = c
      · rw [e]; exact hm
      · exact c3 d d1 (by omega)
    · rw [decide_eq_false hm]
      exact CND_t rfl (hk2 hno (.inr (.inr ⟨c, c1, hle, hm⟩)))
  · obtain rfl : c = (x + n - 1) / 512 + 1 := by omega
    obtain ⟨N, rfl⟩ := Int.eq_ofNat_of_zero_le hn0
    rw [u64_id (n := x + (N : Int)) (by omega) (by omega)]
    refine LOOP_intro (fun st w' => ∃ j : Nat, st.1 = x + j ∧ j ≤ N ∧ Sat (ModelP E b cs (L ++ setL x id j) :: Z) w') (fun st _ => (x + N - st.1).toNat) ⟨0, by omega, Nat.zero_le _, by simpa [setL] using H⟩ ?_
    rintro ⟨p, u⟩ _ w13 ⟨j, hj, hjN, H13⟩
    dsimp only at hj ⊢
    subst hj
    refine CND_dec (fun hlt => ?_) fun hge => ?_
    · obtain ⟨s0, s1, s2, H⟩ := Sat.model.1 H13
      have hl1 := (H.front 2 rfl).rowLen
      have hl2 := (H.front 3 rfl).rowLen
      have hsl : (setL x id j).length = j := by simp [setL]
      simp only [ints, List.length_map, List.length_append, hsl, Nat.mul_one] at hl1 hl2
      refine ⟨s1, H.cell rfl, AL_cells (vs := [.int .u64 (x + j)]) (H.front 2 rfl) fun b17 w18 H18 _ => ?_⟩
      refine APP_one (zs := #[.int .u64 0]) (bytes := 8) H18 rfl rfl (by simp [Value.oneCell']) (by omega) (by omega) fun s19 w20 H20 _ => ?_
      refine st_cell (H20.front 1 rfl) (v := slW s19) (o := 0) (m := 1) rfl (by simp) fun w22 H22 => ?_
      refine ⟨s2, H22.cell rfl, AL_cells (vs := [.int .i64 id]) (H22.front 3 rfl) fun b25 w26 H26 _ => ?_⟩
      refine APP_one (zs := #[.int .i64 0]) (bytes := 8) H26 rfl rfl (by simp [Value.oneCell']) (by omega) (by omega) fun s27 w28 H28 _ => ?_
      refine st_cell (H28.front 1 rfl) (v := slW s27) (o := 0) (m := 2) rfl (by simp) fun w30 H30 => ?_
      rw [u64_id (n := x + (j : Int) + 1) (by omega) (by omega)]
      refine ⟨⟨j + 1, by omega, by omega, Sat.model.2 ⟨s0, s19, s27, ?_⟩⟩, by omega⟩
      have e1 : ints .u64 ((L ++ setL x id j).map (·.1)) ++ [.int .u64 (x + j)] = ints .u64 ((L ++ setL x id (j + 1)).map (·.1)) := by rw [setL_succ]; simp [ints]
      have e2 : ints .i64 ((L ++ setL x id j).map (·.2)) ++ [.int .i64 id] = ints .i64 ((L ++ setL x id (j + 1)).map (·.2)) := by rw [setL_succ]; simp [ints]
      rw [e1, e2] at H30
      have H31 : Sat (Cells b E.t_mallowlaw11_Model [slW s0, slW s19, slW s27] :: Row E.t_int 1 s27 (ints .i64 ((L ++ setL x id (j + 1)).map (·.2))) :: Row E.t_uint64 1 s19 (ints .u64 ((L ++ setL x id (j + 1)).map (·.1))) :: Row E.t_uint64 1 s0 (ints .u64 cs) :: Z) w30 := H30
      exact H31.perm (.cons _ ((List.Perm.swap _ _ _).trans ((List.Perm.cons _ (.swap _ _ _)).trans ((List.Perm.swap _ _ _).trans (.cons _ (.refl _))))))
    · obtain rfl : j = N := by omega
      exact hk3 hno hin.1 hin.2 (fun c d1 d2 => c3 c d1 (by omega)) w13 (by rw [Int.toNat_natCast]; exact H13)
end
end Go.Sh


set_option linter.all false
set_option maxRecDepth 4000
set_option maxHeartbeats 4000000
namespace Go.Sh

theorem nodup_len {l m : List Int} (h1 : l.Nodup) (h2 : m.Nodup) (h : ∀ x, x ∈ l ↔ x ∈ m) : l.length = m.length :=
  ((List.perm_ext_iff_of_nodup h1 h2).2 h).length_eq

section
variable {E : Env} {b bx : Nat} {ks : Iv} {own : Int → Int} {cs : List Int} {L : List (Int × Int)} {Z : List Pr} {w : World}

variable (hE : EnvR E)
include hE

theorem aset_all (H : Sat (ArenaP E b ks own :: Z) w) {x n id : Int} (hx0 : 0 ≤ x) (hx : x < 18446744073709551616) (hn0 : 0 ≤ n) (hn : n < 18446744073709551616) {K : Int → World → Prop}
    (hk1 : (n = 0 ∨ id < 0) → ∀ w', Sat (ArenaP E b ks own :: Z) w' → K 1 w')
    (hk2 : ¬ (n = 0 ∨ id < 0) → (34359738368 ≤ x ∨ 34359738368 - x < n ∨ ∃ c, x / 512 ≤ c ∧ c ≤ (x + n - 1) / 512 ∧ ¬ mem ks c) → ∀ w', Sat (ArenaP E b ks own :: Z) w' → K 10 w')
    (hk3 : ¬ (n = 0 ∨ id < 0) → x < 34359738368 → n ≤ 34359738368 - x → (∀ c, x / 512 ≤ c → c ≤ (x + n - 1) / 512 → mem ks c) → ∀ w', Sat (ArenaP E b ks (fun p => if x ≤ p ∧ p < x + n then id else own p) :: Z) w' → K 0 w') :
    F.arena_Map_Set E (some ⟨b, 0, none⟩) x n id K w := by
  obtain ⟨G, h1, h2, h3, hst⟩ := H.arena
  refine aset_spec hE.toEnvA h1 hx0 hx hn0 hn (fun h w' he => hk1 h w' (H.nothing he)) (fun h g w' he => hk2 h ?_ w' (H.nothing he)) fun h a c d w' G' st e1 e2 => hk3 h a c (fun q q1 q2 => h2 ▸ d q q1 (by omega)) w' (hst w' G' ks _ st (e1.trans h2) fun p => by rw [e2, h3])
  rcases g with g | g | ⟨c, c1, c2, c3⟩
  · exact .inl g
  · exact .inr (.inl g)
  · by_cases q : 34359738368 ≤ x ∨ 34359738368 - x < n
    · exact q.elim .inl fun q => .inr (.inl q)
    · exact .inr (.inr ⟨c, c1, by omega, h2 ▸ c3⟩)

theorem act_spec (H : Sat (ArenaP E b ks own :: ModelP E bx cs L :: Z) w) (hR : Rel ks own cs L) (hc : cs.length ≤ 1000) (hL : L.length ≤ 50000) {what A N id : Int} (hA : 0 ≤ A ∧ A < 18446744073709551616) (hN : 0 ≤ N ∧ N < 18446744073709551616)
    (hlim : what = 2 → N < 1099511627776 → (L.length : Int) + N ≤ 90000) {K : Bool → World → Prop}
    (hK : ∀ ks' own' cs' L' w', Rel ks' own' cs' L' → cs'.length ≤ cs.length + 1 → (L'.length : Int) ≤ L.length + (if what = 2 ∧ N < 1099511627776 then N else 0) → Sat (ArenaP E b ks' own' :: ModelP E bx cs' L' :: Z) w' → K true w') :
    F.mallowlaw11_act E (some ⟨b, 0, none⟩) (some ⟨bx, 0, none⟩) what A N id K w := by
  have hgr : (0 : Int) ≤ if what = 2 ∧ N < 1099511627776 then N else 0 := by split <;> omega
  have hok : Ok ks := H.arenaOk
  have hkb := hR.bnd hok
  unfold F.mallowlaw11_act
  refine AL_cells (vs := [.pointer (some ⟨bx, 0, none⟩)]) H fun b1 w2 H2 _ => AL_cells (vs := [.int .i64 what, .int .u64 A, .int .u64 N, .int .i64 id]) H2 fun b3 w4 H4 _ => AL_cells (vs := [.bool false]) H4 fun b5 w6 H6 _ => ?_
  have fin : ∀ {v : Bool} {ks' own' cs' L' w'}, v = true → Rel ks' own' cs' L' → cs'.length ≤ cs.length + 1 → (L'.length : Int) ≤ L.length + (if what = 2 ∧ N < 1099511627776 then N else 0) →
      Sat (Cells b5 E.t_bool [.bool false] :: Cells b3 E.t_mallowlaw11_Act [.int .i64 what, .int .u64 A, .int .u64 N, .int .i64 id] :: Cells b1 E.t__mallowlaw11_Model [.pointer (some ⟨bx, 0, none⟩)] :: ArenaP E b ks' own' :: ModelP E bx cs' L' :: Z) w' →
      stCells (Addr.mk b5 0 none) 0 [.bool v] w' fun w15 => ∃ x16 : Bool, w15.cell? (Addr.mk b5 0 none) = some (.bool x16) ∧ K x16 w15 := fun {v ks' own' cs' L' w'} e r1 r2 r3 H' => by
    subst e
    refine st_cell0 H' rfl (by simp) fun w15 H15 => ⟨true, H15.cell0 rfl, hK _ _ _ _ w15 r1 r2 r3 H15.tail.tail.tail⟩
  have cA : ∀ {Y : Pr} {ks' own' w'}, Sat (Cells b5 E.t_bool [.bool false] :: Cells b3 E.t_mallowlaw11_Act [.int .i64 what, .int .u64 A, .int .u64 N, .int .i64 id] :: Cells b1 E.t__mallowlaw11_Model [.pointer (some ⟨bx, 0, none⟩)] :: ArenaP E b ks' own' :: Y :: Z) w' →
      w'.cell? ((Addr.mk b3 0 none).add 1) = some (.int .u64 A) ∧ w'.cell? ((Addr.mk b3 0 none).add 2) = some (.int .u64 N) ∧ w'.cell? ((Addr.mk b3 0 none).add 3) = some (.int .i64 id) ∧ w'.cell? (Addr.mk b1 0 none) = some (.pointer (some ⟨bx, 0, none⟩)) := fun H' =>
    ⟨(H'.front 1 rfl).cell rfl, (H'.front 1 rfl).cell rfl, (H'.front 1 rfl).cell rfl, (H'.front 2 rfl).cell0 rfl⟩
  have toA : ∀ {Y : Pr} {ks' own' w'}, Sat (Cells b5 E.t_bool [.bool false] :: Cells b3 E.t_mallowlaw11_Act [.int .i64 what, .int .u64 A, .int .u64 N, .int .i64 id] :: Cells b1 E.t__mallowlaw11_Model [.pointer (some ⟨bx, 0, none⟩)] :: ArenaP E b ks' own' :: Y :: Z) w' ↔
      Sat (ArenaP E b ks' own' :: Cells b5 E.t_bool [.bool false] :: Cells b3 E.t_mallowlaw11_Act [.int .i64 what, .int .u64 A, .int .u64 N, .int .i64 id] :: Cells b1 E.t__mallowlaw11_Model [.pointer (some ⟨bx, 0, none⟩)] :: Y :: Z) w' := fun {Y ks' own' w'} => by
    have p : (Cells b5 E.t_bool [.bool false] :: Cells b3 E.t_mallowlaw11_Act [.int .i64 what, .int .u64 A, .int .u64 N, .int .i64 id] :: Cells b1 E.t__mallowlaw11_Model [.pointer (some ⟨bx, 0, none⟩)] :: ArenaP E b ks' own' :: Y :: Z).Perm
      (ArenaP E b ks' own' :: Cells b5 E.t_bool [.bool false] :: Cells b3 E.t_mallowlaw11_Act [.int .i64 what, .int .u64 A, .int .u64 N, .int .i64 id] :: Cells b1 E.t__mallowlaw11_Model [.pointer (some ⟨bx, 0, none⟩)] :: Y :: Z) := perm_front (i := 3) rfl
    exact ⟨fun h => h.perm p, fun h => h.perm p.symm⟩
  have toM : ∀ {ks' own' cs' L' w'}, Sat (Cells b5 E.t_bool [.bool false] :: Cells b3 E.t_mallowlaw11_Act [.int .i64 what, .int .u64 A, .int .u64 N, .int .i64 id] :: Cells b1 E.t__mallowlaw11_Model [.pointer (some ⟨bx, 0, none⟩)] :: ArenaP E b ks' own' :: ModelP E bx cs' L' :: Z) w' ↔
      Sat (ModelP E bx cs' L' :: Cells b5 E.t_bool [.bool false] :: Cells b3 E.t_mallowlaw11_Act [.int .i64 what, .int .u64 A, .int .u64 N, .int .i64 id] :: Cells b1 E.t__mallowlaw11_Model [.pointer (some ⟨bx, 0, none⟩)] :: ArenaP E b ks' own' :: Z) w' := fun {ks' own' cs' L' w'} => by
    have p : (Cells b5 E.t_bool [.bool false] :: Cells b3 E.t_mallowlaw11_Act [.int .i64 what, .int .u64 A, .int .u64 N, .int .i64 id] :: Cells b1 E.t__mallowlaw11_Model [.pointer (some ⟨bx, 0, none⟩)] :: ArenaP E b ks' own' :: ModelP E bx cs' L' :: Z).Perm
      (ModelP E bx cs' L' :: Cells b5 E.t_bool [.bool false] :: Cells b3 E.t_mallowlaw11_Act [.int .i64 what, .int .u64 A, .int .u64 N, .int .i64 id] :: Cells b1 E.t__mallowlaw11_Model [.pointer (some ⟨bx, 0, none⟩)] :: ArenaP E b ks' own' :: Z) := perm_front (i := 4) rfl
    exact ⟨fun h => h.perm p, fun h => h.perm p.symm⟩
  refine ⟨what, (H6.front 1 rfl).cell0 rfl, CND_eq (fun w1 => ?_) fun w1 => CND_eq (fun w2e => ?_) fun w2e => CND_eq (fun w3 => ?_) fun w3 => CND_eq (fun w4e => ?_) fun w4e => ?_⟩
  · -- an arena
    have Hd := H6.drew
    obtain ⟨a1, _, _, a4⟩ := cA Hd
    refine ⟨A, a1, _, a4, A, a1, ?_⟩
    refine aadd_sat hE (toA.1 Hd) hA.1 (fun hge => ?_) (fun hlt hm w' H' => ?_) fun hlt hm ks' w' hks H' => ?_
    · refine ⟨a1, a4, madd_spec (toM.1 Hd) (by omega) (fun _ => fin rfl hR (by omega) (by omega) Hd) (fun h => absurd h (by omega)) fun h => absurd h (by omega)⟩
    · have H'' := toA.2 H'
      obtain ⟨c1, _, _, c4⟩ := cA H''
      exact ⟨c1, c4, madd_spec (toM.1 H'') (by omega) (fun h => absurd h (by omega)) (fun _ _ => fin rfl hR (by omega) (by omega) H'') fun _ h => absurd ((hR.ks A).1 hm) h⟩
    · have H'' := toA.2 H'
      obtain ⟨c1, _, _, c4⟩ := cA H''
      refine ⟨c1, c4, madd_spec (toM.1 H'') (by omega) (fun h => absurd h (by omega)) (fun _ h => absurd ((hR.ks A).2 h) hm) fun _ hno w14 H14 => fin rfl ⟨fun n => ?_, ?_, fun c hc => ?_, hR.ow, hR.pg⟩ (by simp) (by omega) (toM.2 H14)⟩
      · rw [hks, hR.ks, List.mem_append, List.mem_singleton]
      · exact List.nodup_append.2 ⟨hR.nd, by simp, fun y hy z hz e => by simp at hz; rw [e, hz] at hy; exact hno hy⟩
      · rcases List.mem_append.1 hc with h | h
        · exact hR.lim c h
        · rw [List.mem_singleton] at h; omega
  · -- pages
    have Hd := H6.drew
    obtain ⟨a1, a2, a3, a4⟩ := cA Hd
    refine ⟨A, a1, N, a2, id, a3, _, a4, A, a1, N, a2, id, a3, ?_⟩
    have hcond : (∃ c, A / 512 ≤ c ∧ c ≤ (A + N - 1) / 512 ∧ ¬ mem ks c) ↔ ∃ c, A / 512 ≤ c ∧ c ≤ (A + N - 1) / 512 ∧ c ∉ cs := by
      constructor
      · rintro ⟨c, c1, c2, c3⟩; exact ⟨c, c1, c2, fun h => c3 ((hR.ks c).2 h)⟩
      · rintro ⟨c, c1, c2, c3⟩; exact ⟨c, c1, c2, fun h => c3 ((hR.ks c).1 h)⟩
    refine aset_all hE (toA.1 Hd) hA.1 hA.2 hN.1 hN.2 (fun hb w' H' => ?_) (fun hb g w' H' => ?_) fun hb g1 g2 g3 w' H' => ?_
    · have H'' := toA.2 H'
      obtain ⟨c1, c2, c3, c4⟩ := cA H''
      exact ⟨c3, c2, c1, c4, mset_spec (toM.1 H'') (by omega) hA.1 hA.2 hN.1 hN.2 (fun h => by have := hlim w2e h; omega) (fun _ => fin rfl hR (by omega) (by omega) H'') (fun h => absurd hb h) fun h => absurd hb h⟩
    · have H'' := toA.2 H'
      obtain ⟨c1, c2, c3, c4⟩ := cA H''
      refine ⟨c3, c2, c1, c4, mset_spec (toM.1 H'') (by omega) hA.1 hA.2 hN.1 hN.2 (fun h => by have := hlim w2e h; omega) (fun h => absurd h hb) (fun _ _ => fin rfl hR (by omega) (by omega) H'') fun _ g1 g2 g3 w14 _ => ?_⟩
      exfalso
      rcases g with g | g | g
      · omega
      · omega
      · obtain ⟨c, q1, q2, q3⟩ := hcond.1 g
        exact q3 (g3 c q1 q2)
    · have H'' := toA.2 H'
      obtain ⟨c1, c2, c3, c4⟩ := cA H''
      refine ⟨c3, c2, c1, c4, mset_spec (toM.1 H'') (by omega) hA.1 hA.2 hN.1 hN.2 (fun h => by have := hlim w2e h; omega) (fun h => absurd h hb) (fun _ g => ?_) fun _ _ _ _ w14 H14 => fin rfl ⟨hR.ks, hR.nd, hR.lim, fun p => ?_, fun q hq => ?_⟩ (by omega) ?_ (toM.2 H14)⟩
      · exfalso
        rcases g with g | g | ⟨c, q1, q2, q3⟩
        · omega
        · omega
        · exact q3 ((hR.ks c).1 (g3 c q1 q2))
      · rw [lookA_set, hR.ow, show (N.toNat : Int) = N by omega]
      · rcases List.mem_append.1 hq with h | h
        · exact hR.pg q h
        · unfold setL at h
          obtain ⟨j, hj, rfl⟩ := List.mem_map.1 h
          have := List.mem_range.1 hj
          simp only
          omega
      · rw [List.length_append, if_pos ⟨w2e, by omega⟩]
        have : (setL A id N.toNat).length = N.toNat := by simp [setL]
        omega
  · -- looked up
    have Hd := H6.drew
    obtain ⟨a1, _, _, a4⟩ := cA Hd
    refine ⟨A, a1, _, a4, A, a1, ?_⟩
    refine aat_sat (toA.1 Hd) hA.1 hA.2 fun w' H' => ?_
    have H1 := toA.2 H'
    obtain ⟨c1, _, _, c4⟩ := cA H1
    refine ⟨c1, c4, mat_spec (toM.1 H1) (by omega) hA.1 hA.2 ?_⟩
    rw [hR.ow]
    refine CND_eq (fun _ => ⟨A, c1, _, c4, A, c1, by decide, ?_⟩) fun e => absurd rfl e
    refine ahas_sat hE.toEnvA (toA.1 H1) hA.1 hA.2 fun w3 r hr H3 => ?_
    have H4 := toA.2 H3
    obtain ⟨d1, _, _, d4⟩ := cA H4
    refine ⟨d1, d4, mhas_spec (toM.1 H4) (by omega) ⟨d1, ?_⟩⟩
    rw [Int.tdiv_eq_ediv_of_nonneg hA.1, u64_id (n := A / 4194304) (by omega) (by omega)]
    refine fin ?_ hR (by omega) (by omega) H4
    by_cases hm : A / 4194304 ∈ cs
    · rw [decide_eq_true hm, hr.2 ((hR.ks _).2 hm)]; rfl
    · rw [decide_eq_false hm]
      have : r = false := by
        cases r
        · rfl
        · exact absurd ((hR.ks _).1 (hr.1 rfl)) hm
      rw [this]; rfl
  · -- all told
    refine AL_cells (vs := [.int .i64 0]) H6 fun b48 w49 H49 _ => AL_cells (vs := [.int .u64 0]) H49 fun b50 w51 H51 _ => ?_
    refine st_cell0 (H51.front 1 rfl) rfl (by simp) fun w52 H52 => st_cell0 (H52.front 1 rfl) rfl (by simp) fun w53 H53 => ?_
    have H54 : Sat (ArenaP E b ks own :: Cells b50 E.t_uint64 [.int .u64 0] :: Cells b48 E.t_int [.int .i64 0] :: Cells b5 E.t_bool [.bool false] :: Cells b3 E.t_mallowlaw11_Act [.int .i64 what, .int .u64 A, .int .u64 N, .int .i64 id] :: Cells b1 E.t__mallowlaw11_Model [.pointer (some ⟨bx, 0, none⟩)] :: ModelP E bx cs L :: Z) w53 := H53.front 5 rfl
    refine achunks_sat hE H54 hkb fun c s w55 H55 => ?_
    have hsort := rise_sorted hok
    have hlen : (rise ks).length = cs.length := nodup_len (sorted_nodup hsort) hR.nd fun x => mem_rise.trans (hR.ks x)
    let T : Int → Int → Bool → List Pr := fun n l t => ArenaP E b ks own :: Cells b50 E.t_uint64 [.int .u64 l] :: Cells b48 E.t_int [.int .i64 n] :: Cells b5 E.t_bool [.bool t] :: Cells b3 E.t_mallowlaw11_Act [.int .i64 what, .int .u64 A, .int .u64 N, .int .i64 id] :: Cells b1 E.t__mallowlaw11_Model [.pointer (some ⟨bx, 0, none⟩)] :: ModelP E bx cs L :: Z
    have done : ∀ {D : Nat} {n l w'}, Sat (ObjR D (.deferred (some [])) :: ReadP E c s ks :: T n l true) w' → COL D w' fun w86 => ∃ x87 : Bool, w86.cell? (Addr.mk b5 0 none) = some (.bool x87) ∧ K x87 w86 := fun {D n l w'} H' => COL_sat H' fun w86 H86 => by
      have H87 : Sat (T n l true) w86 := H86.tail
      refine ⟨true, (H87.front 3 rfl).cell0 rfl, hK _ _ _ _ w86 hR (by omega) (by omega) ?_⟩
      exact (((((H87.front 1 rfl).tail.front 1 rfl).tail.front 1 rfl).tail.front 1 rfl).tail.front 1 rfl).tail
    refine ⟨E.f_arena_Map_Chunks_1, #[.pointer (some ⟨c, 0, none⟩)], rise ks, ReadP E c s ks, rfl, chunks_seq hE hok hkb,
      fun i Rs => i ≤ (rise ks).length ∧ Rs = T i (if i = 0 then 0 else (rise ks).getD (i - 1) 0) false, fun Rs => ∃ n l, Rs = T n l true, fun _ _ => False, _, ⟨Nat.zero_le _, rfl⟩, H55, ?_, ?_, ?_, trivial⟩
    · rintro i x _ B W1 hx ⟨hil, rfl⟩ HW
      have hlt := (List.getElem?_eq_some_iff.1 hx).1
      have hxc : x ∈ cs := (hR.ks x).1 (mem_rise.1 (List.mem_of_getElem? hx))
      generalize hlast : (if i = 0 then 0 else (rise ks).getD (i - 1) 0) = last at *
      have hrise : 0 < i → last < x := fun h0 => by
        rw [if_neg (by omega)] at hlast
        have h1 := List.pairwise_iff_getElem.1 hsort (i - 1) i (by omega) hlt (by omega)
        rw [List.getD_eq_getElem?_getD, List.getElem?_eq_getElem (by omega), Option.getD_some] at hlast
        rw [(List.getElem?_eq_some_iff.1 hx).2, hlast] at h1
        exact h1
      have go : ∀ j : Nat → Value, CND (!decide (x ∈ cs)) (stCells (Addr.mk b5 0 none) 0 [.bool false] W1 fun w72 => ∃ Rs', (∃ n l, Rs' = T n l true) ∧ Sat (B :: ReadP E c s ks :: Rs') w72)
          (stCells (Addr.mk b50 0 none) 0 [.int .u64 x] W1 fun w73 =>
                ∃ x74 : Int, w73.cell? (Addr.mk b48 0 none) = some (.int .i64 x74) ∧
                stCells (Addr.mk b48 0 none) 0 [.int .i64 (i64 (x74 + 1))] w73 fun w75 =>
                ∃ x76 : Int, w75.cell? (Addr.mk b48 0 none) = some (.int .i64 x76) ∧
                ∃ x77 : Int, w75.cell? ((Addr.mk b3 0 none).add 3) = some (.int .i64 x77) ∧
                CND ((x76 : Int) == x77) (
                  stCells (Addr.mk b5 0 none) 0 [.bool true] w75 fun w78 => ∃ Rs', (∃ n l, Rs' = T n l true) ∧ Sat (B :: ReadP E c s ks :: Rs') w78
                ) (∃ Rs', (i + 1 ≤ (rise ks).length ∧ Rs' = T ((i + 1 : Nat) : Int) (if i + 1 = 0 then 0 else (rise ks).getD (i + 1 - 1) 0) false) ∧ Sat (B :: ReadP E c s ks :: Rs') w75)) := fun j => by
        rw [decide_eq_true hxc]
        refine CND_f rfl (st_cell0 (HW.front 3 rfl) rfl (by simp) fun w73 H73 => ⟨_, (H73.front 4 rfl).cell0 rfl, st_cell0 (H73.front 4 rfl) rfl (by simp) fun w75 H75 => ⟨_, H75.cell0 rfl, id, (H75.front 6 rfl).cell rfl, ?_⟩⟩)
        rw [i64_id (n := (i : Int) + 1) (by omega) (by omega)] at *
        refine CND_eq (fun _ => st_cell0 (H75.front 5 rfl) rfl (by simp) fun w78 H78 => ⟨_, ⟨_, _, rfl⟩, ((((H78.front 1 rfl).front 2 rfl).front 5 rfl).front 5 rfl).front 5 rfl⟩) fun _ => ⟨_, ⟨by omega, rfl⟩, ?_⟩
        have e : (if i + 1 = 0 then 0 else (rise ks).getD (i + 1 - 1) 0) = x := by
          rw [if_neg (by omega), List.getD_eq_getElem?_getD, show i + 1 - 1 = i by omega, hx]; rfl
        rw [e]
        exact (((H75.front 1 rfl).front 4 rfl).front 4 rfl).front 4 rfl
      refine JOIN_in ⟨(i : Int), (HW.front 4 rfl).cell0 rfl, CND_dec (fun h0 => ⟨last, (HW.front 3 rfl).cell0 rfl, CND_dec (fun hle => absurd (hrise (by omega)) (by omega)) fun _ => ⟨_, (HW.front 7 rfl).cell0 rfl, mhas_spec (HW.front 8 rfl) (by omega) go⟩⟩) fun _ => ⟨_, (HW.front 7 rfl).cell0 rfl, mhas_spec (HW.front 8 rfl) (by omega) go⟩⟩
    · rintro D _ W1 ⟨_, rfl⟩ HW
      have Hd := HW.drew
      obtain ⟨s0, s1, s2, HM⟩ := Sat.model.1 (Hd.front 8 rfl)
      have hl := (HM.front 1 rfl).rowLen
      simp only [ints, List.length_map, Nat.mul_one] at hl
      refine ⟨_, (Hd.front 4 rfl).cell0 rfl, _, (Hd.front 7 rfl).cell0 rfl, s0, HM.cell0 rfl, ?_⟩
      rw [show (((rise ks).length : Nat) : Int) = ((s0.len : Nat) : Int) by omega, show (((s0.len : Nat) : Int) == ((s0.len : Nat) : Int)) = true from beq_self_eq_true _]
      refine st_cell0 (Hd.front 5 rfl) rfl (by simp) fun w85 H85 => done (D := D) (n := ((s0.len : Nat) : Int)) (l := if (rise ks).length = 0 then 0 else (rise ks).getD ((rise ks).length - 1) 0) ?_
      have h1 : Sat (Cells b5 E.t_bool [.bool true] :: ObjR D (.deferred (some [])) :: ReadP E c s ks :: ArenaP E b ks own :: Cells b50 E.t_uint64 [.int .u64 (if (rise ks).length = 0 then 0 else (rise ks).getD ((rise ks).length - 1) 0)] :: Cells b48 E.t_int [.int .i64 ((s0.len : Nat) : Int)] :: Cells b3 E.t_mallowlaw11_Act [.int .i64 what, .int .u64 A, .int .u64 N, .int .i64 id] :: Cells b1 E.t__mallowlaw11_Model [.pointer (some ⟨bx, 0, none⟩)] :: ModelP E bx cs L :: Z) w85 := by
        rw [show ((s0.len : Nat) : Int) = (((rise ks).length : Nat) : Int) by omega]
        exact H85
      exact ((((h1.front 5 rfl).front 5 rfl).front 5 rfl).front 5 rfl).front 5 rfl
    · rintro D _ W1 ⟨n, l, rfl⟩ HW
      exact done HW
  · exact fin rfl hR (by omega) (by omega) H6
end
end Go.Sh

