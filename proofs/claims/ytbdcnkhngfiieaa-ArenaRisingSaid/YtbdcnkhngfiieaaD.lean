/- The arenas told one behind the other; the model of the map. No further condition. -/
import Derived.Test.YtbdcnkhngfiieaaB
import Derived.Test.YtbdcnkhngfiieaaM
import Derived.Test.YtbdcnkhngfiieaaA
set_option linter.all false
set_option maxRecDepth 4000
set_option maxHeartbeats 1000000
namespace Go.Sh

def ups (a : Int) (n : Nat) : List Int := (List.range n).map fun j : Nat => a + (j : Int)
def slW (s : SlV) : Value := .slice s.base s.len s.cap
def rise : Iv → List Int
  | [] => []
  | p :: r => ups p.1 (p.2 - p.1).toNat ++ rise r

theorem ups_len (a : Int) (n : Nat) : (ups a n).length = n := by simp [ups]
theorem ups_get {a : Int} {n j : Nat} (h : j < n) : (ups a n)[j]? = some (a + j) := by simp [ups, h]
theorem mem_ups {a x : Int} {n : Nat} : x ∈ ups a n ↔ a ≤ x ∧ x < a + n := by
  unfold ups
  rw [List.mem_map]
  constructor
  · rintro ⟨j, hj, rfl⟩
    have := List.mem_range.1 hj
    omega
  · rintro ⟨h1, h2⟩
    exact ⟨(x - a).toNat, List.mem_range.2 (by omega), by omega⟩

theorem mem_rise {x : Int} : ∀ {l : Iv}, x ∈ rise l ↔ mem l x
  | [] => by simp [rise, mem]
  | p :: r => by
    simp only [rise, List.mem_append, mem_ups, mem_rise (l := r)]
    unfold mem
    constructor
    · rintro (h | ⟨q, hq, h⟩)
      · exact ⟨p, List.mem_cons_self, by omega⟩
      · exact ⟨q, List.mem_cons_of_mem _ hq, h⟩
    · rintro ⟨q, hq, h⟩
      rcases List.mem_cons.1 hq with rfl | hq
      · exact .inl (by omega)
      · exact .inr ⟨q, hq, h⟩

theorem rise_app (l m : Iv) : rise (l ++ m) = rise l ++ rise m := by
  induction l with
  | nil => rfl
  | cons p r ih => simp [rise, ih]

theorem rise_take {l : Iv} {i : Nat} {p : Int × Int} (h : l[i]? = some p) : rise (l.take (i + 1)) = rise (l.take i) ++ ups p.1 (p.2 - p.1).toNat := by
  have hlt := (List.getElem?_eq_some_iff.1 h).1
  rw [List.take_succ_eq_append_getElem hlt, rise_app]
  rw [(List.getElem?_eq_some_iff.1 h).2]
  simp [rise]

theorem rise_at {l : Iv} {i j : Nat} {p : Int × Int} (h : l[i]? = some p) (hj : (j : Int) < p.2 - p.1) : (rise l)[(rise (l.take i)).length + j]? = some (p.1 + j) := by
  have hlt := (List.getElem?_eq_some_iff.1 h).1
  have e : rise l = rise (l.take (i + 1)) ++ rise (l.drop (i + 1)) := by rw [← rise_app, List.take_append_drop]
  rw [e, rise_take h, List.append_assoc, List.getElem?_append_right (by omega), List.getElem?_append_left (by rw [ups_len]; omega)]
  rw [show (rise (l.take i)).length + j - (rise (l.take i)).length = j by omega]
  exact ups_get (by omega)

theorem ups_sorted (a : Int) (n : Nat) : (ups a n).Pairwise (· < ·) := by
  unfold ups
  rw [List.pairwise_map]
  exact List.pairwise_lt_range.imp fun h => by omega

theorem rise_sorted : ∀ {l : Iv}, Ok l → (rise l).Pairwise (· < ·)
  | [], _ => List.Pairwise.nil
  | p :: r, h => by
    obtain ⟨h0, h1, h2, h3, h4⟩ := h
    refine List.pairwise_append.2 ⟨ups_sorted _ _, rise_sorted h4, fun x hx y hy => ?_⟩
    have hx := mem_ups.1 hx
    obtain ⟨q, hq, hy1, hy2⟩ := mem_rise.1 hy
    have := h3 q hq
    omega

theorem sorted_nodup {l : List Int} (h : l.Pairwise (· < ·)) : l.Nodup := h.imp fun h => by omega

theorem iv_lo : ∀ {l : Iv}, Ok l → ∀ q ∈ l, 0 ≤ q.1 ∧ q.1 < q.2
  | [], _, q, hq => by cases hq
  | p :: r, h, q, hq => by
    obtain ⟨g0, g1, g2, g3, g4⟩ := h
    rcases List.mem_cons.1 hq with rfl | hq
    · exact ⟨g0, g1⟩
    · exact iv_lo g4 q hq
theorem rise_len : ∀ {l : Iv}, Ok l → l.length ≤ (rise l).length
  | [], _ => Nat.zero_le _
  | p :: r, h => by
    obtain ⟨g0, g1, g2, g3, g4⟩ := h
    have := rise_len g4
    simp only [rise, List.length_append, ups_len, List.length_cons]
    omega
theorem iv_len {l : Iv} (h : Ok l) (hb : ∀ q ∈ l, q.2 ≤ 67108864) : l.length ≤ 67108864 :=
  Nat.le_trans (rise_len h) (nodup_le 67108864 (rise l) (sorted_nodup (rise_sorted h)) fun x hx => by
    obtain ⟨q, hq, q1, q2⟩ := mem_rise.1 hx
    have := hb q hq
    have := iv_lo h q hq
    omega)

theorem flat_one7 : ∀ (l : Iv), ∀ v ∈ flat l, v.oneCell' = true
  | [], v, h => by cases h
  | p :: r, v, h => by
    simp only [flat, List.mem_cons] at h
    rcases h with rfl | rfl | h
    · rfl
    · rfl
    · exact flat_one7 r v h

theorem AL_row0 {F : List Pr} {w : World} {t z : Nat} (H : Sat F w) {K : Nat → World → Prop} (hK : ∀ b w', Sat (Row t z ⟨some ⟨b, 0, none⟩, 0, 0⟩ [] :: F) w' → K b w') : AL (.cells ⟨[]⟩ t) w K :=
  AL_intro fun w' hb hs he => hK _ _ (H.new (P := Row t z ⟨some ⟨w.heap.size, 0, none⟩, 0, 0⟩ []) (D := fun k => k = w.heap.size) he
    ⟨fun k => ⟨fun e => ⟨_, rfl, e⟩, fun ⟨a, ha, e⟩ => by cases ha; exact e⟩, ⟨by simp, Nat.le_refl _, show (0 : Nat) < 9223372036854775808 by decide, .inr ⟨_, #[], rfl, Nat.zero_le _, hb, by simp, by simp⟩⟩⟩ fun k hk => by omega)

structure EnvR (E : Env) : Prop extends EnvA E where
  ymono : ∀ l args w (K K' : Value → World → Prop), (∀ v w', K v w' → K' v w') → E.yld l args w K → E.yld l args w K'
  rising1 : ∀ c xs Q, (∀ (l : Nat) (J : Nat → List Pr → Prop) (Jx : List Pr → Prop) (W : World) (Rs : List Pr),
    (∀ (i : Nat) (x : Int) (Rs : List Pr) (W1 : World) (X : Pr), xs[i]? = some x → J i Rs → Sat (X :: Q :: Rs) W1 →
      E.yld l #[.int .u64 x] W1 fun v W' => (v = .bool true ∧ ∃ Rs', J (i + 1) Rs' ∧ Sat (X :: Q :: Rs') W') ∨ (v = .bool false ∧ ∃ Rs', Jx Rs' ∧ Sat (X :: Q :: Rs') W')) →
    J 0 Rs → Sat (Q :: Rs) W →
    F.arena_rising_1 E (.func (.yield l) #[] #[]) c (fun W' => (∃ Rs', J xs.length Rs' ∧ Sat (Q :: Rs') W') ∨ ∃ Rs', Jx Rs' ∧ Sat (Q :: Rs') W') W) → E.seq E.f_arena_rising_1 #[.pointer c] xs Q
  chunks1 : ∀ c xs Q, (∀ (l : Nat) (J : Nat → List Pr → Prop) (Jx : List Pr → Prop) (W : World) (Rs : List Pr),
    (∀ (i : Nat) (x : Int) (Rs : List Pr) (W1 : World) (X : Pr), xs[i]? = some x → J i Rs → Sat (X :: Q :: Rs) W1 →
      E.yld l #[.int .u64 x] W1 fun v W' => (v = .bool true ∧ ∃ Rs', J (i + 1) Rs' ∧ Sat (X :: Q :: Rs') W') ∨ (v = .bool false ∧ ∃ Rs', Jx Rs' ∧ Sat (X :: Q :: Rs') W')) →
    J 0 Rs → Sat (Q :: Rs) W →
    F.arena_Map_Chunks_1 E (.func (.yield l) #[] #[]) c (fun W' => (∃ Rs', J xs.length Rs' ∧ Sat (Q :: Rs') W') ∨ ∃ Rs', Jx Rs' ∧ Sat (Q :: Rs') W') W) → E.seq E.f_arena_Map_Chunks_1 #[.pointer c] xs Q

section
variable {E : Env} {b : Nat} {ks : Iv} {own : Int → Int} {Z : List Pr} {w : World}

def ReadP (E : Env) (b : Nat) (s : SlV) (ks : Iv) : Pr := Star [Cells b E.t___stretch_One [slW s], Row E.t_stretch_One 2 s (flat ks)]

theorem flat_get0 {ks : Iv} {i : Nat} {p : Int × Int} (h : ks[i]? = some p) : (flat ks)[i * 2]? = some (.int .u64 p.1) ∧ (flat ks)[i * 2 + 1]? = some (.int .u64 p.2) := flat_get ks i p h

variable (hE : EnvR E)
include hE

theorem rising_seq {s : SlV} {c : Nat} (hok : Ok ks) (hb : ∀ q ∈ ks, q.2 ≤ 67108864) : E.seq E.f_arena_rising_1 #[.pointer (some ⟨c, 0, none⟩)] (rise ks) (ReadP E c s ks) := by
  refine hE.rising1 _ _ _ fun l J Jx W Rs hY h0 HS => ?_
  unfold F.arena_rising_1
  simp only [NC_some]
  have cut : ∀ {X : List Pr} {W'}, Sat (ReadP E c s ks :: X) W' → Sat (Cells c E.t___stretch_One [slW s] :: Row E.t_stretch_One 2 s (flat ks) :: X) W' := fun H => Sat.star.1 H
  have glue : ∀ {X : List Pr} {W'}, Sat (Cells c E.t___stretch_One [slW s] :: Row E.t_stretch_One 2 s (flat ks) :: X) W' → Sat (ReadP E c s ks :: X) W' := fun H => Sat.star.2 H
  refine ⟨s, (cut HS).cell0 rfl, ?_⟩
  have hlen : ∀ {X : List Pr} {W'}, Sat (ReadP E c s ks :: X) W' → s.len = ks.length := fun H => by
    have := ((cut H).front 1 rfl).rowLen
    rw [flat_length] at this
    omega
  refine LOOP_intro (fun st w' => ∃ (i : Nat) (Rs : List Pr), st.1 = (i : Int) ∧ i ≤ ks.length ∧ J (rise (ks.take i)).length Rs ∧ Sat (ReadP E c s ks :: Rs) w') (fun st _ => ((ks.length : Int) - st.1).toNat) ⟨0, Rs, rfl, Nat.zero_le _, h0, HS⟩ ?_
  rintro ⟨i', u⟩ _ w4 ⟨i, R1, hi, hik, hJ, H4⟩
  dsimp only at hi ⊢
  subst hi
  have hl := hlen H4
  have hk := iv_len hok hb
  refine CND_dec (fun hlt => ?_) fun hge => ?_
  · obtain ⟨p, hp⟩ : ∃ p, ks[i]? = some p := ⟨_, List.getElem?_eq_getElem (by omega)⟩
    have hpm := List.mem_of_getElem? hp
    have hpb := hb p hpm
    have hp0 := iv_lo hok p hpm
    obtain ⟨f0, f1⟩ := flat_get0 hp
    have HR := (cut H4).front 1 rfl
    refine HR.rowCell (j := i * 2) f0 fun p6 hp6 c0 => ⟨⟨by omega, by omega⟩, p.1, by rw [Int.toNat_natCast, add_add, Nat.add_zero]; exact c0, p.2, ?_, ?_⟩
    · have := HR.own.cell hp6 f1
      rw [Int.toNat_natCast, add_add]; exact this
    refine AL_cells (vs := [.int .u64 0, .int .u64 0]) H4 fun b9 w10 H10 _ => ?_
    refine st_all H10 (news := [.int .u64 p.1, .int .u64 p.2]) rfl (by simp [Value.oneCell']) fun w11 H11 => ⟨p.1, H11.cell0 rfl, ?_⟩
    refine LOOP_intro (fun st w' => ∃ (j : Nat) (Rs : List Pr), st.1 = p.1 + j ∧ (j : Int) ≤ p.2 - p.1 ∧ J ((rise (ks.take i)).length + j) Rs ∧ Sat (Cells b9 E.t_stretch_One [.int .u64 p.1, .int .u64 p.2] :: ReadP E c s ks :: Rs) w') (fun st _ => (p.2 - st.1).toNat)
      ⟨0, R1, by omega, by omega, hJ, H11⟩ ?_
    rintro ⟨x', u⟩ _ w14 ⟨j, R2, hx, hjp, hJ2, H14⟩
    dsimp only at hx ⊢
    subst hx
    refine ⟨p.2, H14.cell rfl, CND_dec (fun hlt2 => ?_) fun hge2 => ?_⟩
    · have hat := rise_at hp (show (j : Int) < p.2 - p.1 by omega)
      show E.yld l (#[] ++ #[.int .u64 (p.1 + j)]) w14 _
      rw [Array.empty_append]
      refine hE.ymono _ _ _ _ _ (fun v w' hv => ?_) (hY _ _ R2 w14 _ hat hJ2 H14)
      rcases hv with ⟨rfl, R3, hJ3, H3⟩ | ⟨rfl, R3, hJ3, H3⟩
      · refine ⟨true, rfl, CND_f rfl ⟨⟨j + 1, R3, ?_, by omega, hJ3, H3⟩, ?_⟩⟩
        · rw [u64_id (by omega) (by omega)]; omega
        · rw [u64_id (by omega) (by omega)]; omega
      · exact ⟨false, rfl, CND_t rfl (.inr ⟨R3, hJ3, H3.tail⟩)⟩
    · rw [i64_id (n := (i : Int) + 1) (by omega) (by omega)]
      refine ⟨⟨i + 1, R2, rfl, by omega, ?_, H14.tail⟩, by omega⟩
      rw [rise_take hp, List.length_append, ups_len]
      have : (p.2 - p.1).toNat = j := by omega
      rw [this]; exact hJ2
  · obtain rfl : i = ks.length := by omega
    rw [List.take_length] at hJ
    exact .inl ⟨R1, hJ, H4⟩

theorem chunks_seq {s : SlV} {c : Nat} (hok : Ok ks) (hb : ∀ q ∈ ks, q.2 ≤ 67108864) : E.seq E.f_arena_Map_Chunks_1 #[.pointer (some ⟨c, 0, none⟩)] (rise ks) (ReadP E c s ks) := by
  refine hE.chunks1 _ _ _ fun l J Jx W Rs hY h0 HS => ?_
  unfold F.arena_Map_Chunks_1 F.arena_rising
  simp only [NC_some]
  refine AL_cells (vs := [.func (.yield l) #[] #[]]) HS fun b1 w2 H2 _ => ?_
  have H2' : Sat (Cells c E.t___stretch_One [slW s] :: Row E.t_stretch_One 2 s (flat ks) :: Cells b1 E.t_func_uint64_bool [.func (.yield l) #[] #[]] :: Rs) w2 := Sat.star.1 (H2.front 1 rfl)
  refine ⟨s, H2'.cell0 rfl, ?_⟩
  refine AL_cells (vs := [slW s]) H2' fun b6 w6 H6 _ => ?_
  have H7 : Sat (ReadP E b6 s ks :: Cells b1 E.t_func_uint64_bool [.func (.yield l) #[] #[]] :: Cells c E.t___stretch_One [slW s] :: Rs) w6 := by
    refine Sat.star.2 ?_
    exact H6.perm (.cons _ ((List.Perm.swap _ _ _).trans (.cons _ (.swap _ _ _))))
  refine ⟨E.f_arena_rising_1, #[.pointer (some ⟨b6, 0, none⟩)], rise ks, ReadP E b6 s ks, rfl, rising_seq hE hok hb,
    fun i Rs' => ∃ R0, J i R0 ∧ Rs' = Cells b1 E.t_func_uint64_bool [.func (.yield l) #[] #[]] :: Cells c E.t___stretch_One [slW s] :: R0,
    fun Rs' => ∃ R0, Jx R0 ∧ Rs' = Cells b1 E.t_func_uint64_bool [.func (.yield l) #[] #[]] :: Cells c E.t___stretch_One [slW s] :: R0, fun _ _ => False, _, ⟨Rs, h0, rfl⟩, H7, ?_, ?_, ?_, trivial⟩
  · rintro i x _ B W1 hx ⟨R0, hJ, rfl⟩ H
    have Hc : Sat (Cells b1 E.t_func_uint64_bool [.func (.yield l) #[] #[]] :: B :: ReadP E b6 s ks :: Cells c E.t___stretch_One [slW s] :: R0) W1 := H.front 2 rfl
    refine ⟨.func (.yield l) #[] #[], Hc.cell0 rfl, ?_⟩
    show E.yld l (#[] ++ #[.int .u64 x]) W1 _
    rw [Array.empty_append]
    have e1 : ∀ {R : List Pr} {W'}, Sat (B :: ReadP E b6 s ks :: Cells b1 E.t_func_uint64_bool [.func (.yield l) #[] #[]] :: Cells c E.t___stretch_One [slW s] :: R) W' ↔
        Sat (Star [B, Cells b6 E.t___stretch_One [slW s], Cells b1 E.t_func_uint64_bool [.func (.yield l) #[] #[]]] :: ReadP E c s ks :: R) W' := fun {R W'} => by
      constructor
      · intro H
        have H1 : Sat (Cells b6 E.t___stretch_One [slW s] :: Row E.t_stretch_One 2 s (flat ks) :: B :: Cells b1 E.t_func_uint64_bool [.func (.yield l) #[] #[]] :: Cells c E.t___stretch_One [slW s] :: R) W' := Sat.star.1 (H.front 1 rfl)
        refine Sat.star.2 ?_
        have H2 : Sat (Cells c E.t___stretch_One [slW s] :: Row E.t_stretch_One 2 s (flat ks) :: B :: Cells b6 E.t___stretch_One [slW s] :: Cells b1 E.t_func_uint64_bool [.func (.yield l) #[] #[]] :: R) W' := by
          have H3 := H1.front 4 rfl
          exact H3.perm (.cons _ ((List.Perm.swap _ _ _).trans (.cons _ (.swap _ _ _))))
        have H3 : Sat (ReadP E c s ks :: B :: Cells b6 E.t___stretch_One [slW s] :: Cells b1 E.t_func_uint64_bool [.func (.yield l) #[] #[]] :: R) W' := Sat.star.2 H2
        exact H3.perm ((List.Perm.swap _ _ _).trans (.cons _ ((List.Perm.swap _ _ _).trans (.cons _ (.swap _ _ _)))))
      · intro H
        have H1 : Sat (B :: Cells b6 E.t___stretch_One [slW s] :: Cells b1 E.t_func_uint64_bool [.func (.yield l) #[] #[]] :: ReadP E c s ks :: R) W' := Sat.star.1 H
        have H2 : Sat (Cells c E.t___stretch_One [slW s] :: Row E.t_stretch_One 2 s (flat ks) :: B :: Cells b6 E.t___stretch_One [slW s] :: Cells b1 E.t_func_uint64_bool [.func (.yield l) #[] #[]] :: R) W' := Sat.star.1 (H1.front 3 rfl)
        have H3 : Sat (ReadP E b6 s ks :: B :: Cells b1 E.t_func_uint64_bool [.func (.yield l) #[] #[]] :: Cells c E.t___stretch_One [slW s] :: R) W' := by
          refine Sat.star.2 ?_
          have H4 : Sat (Cells b6 E.t___stretch_One [slW s] :: Cells c E.t___stretch_One [slW s] :: Row E.t_stretch_One 2 s (flat ks) :: B :: Cells b1 E.t_func_uint64_bool [.func (.yield l) #[] #[]] :: R) W' := H2.front 3 rfl
          exact H4.perm (.cons _ ((List.Perm.swap _ _ _).trans (.cons _ ((List.Perm.swap _ _ _).trans (.cons _ (.swap _ _ _))))))
        exact H3.perm (.swap _ _ _)
    refine hE.ymono _ _ _ _ _ (fun v w' hv => ?_) (hY i x R0 W1 _ hx hJ (e1.1 H))
    rcases hv with ⟨rfl, R3, hJ3, H3⟩ | ⟨rfl, R3, hJ3, H3⟩
    · exact ⟨true, rfl, CND_f rfl ⟨_, ⟨R3, hJ3, rfl⟩, e1.2 H3⟩⟩
    · exact ⟨false, rfl, CND_t rfl ⟨_, ⟨R3, hJ3, rfl⟩, e1.2 H3⟩⟩
  all_goals
    rintro D _ W1 ⟨R0, hJ, rfl⟩ H
    refine COL_sat H fun w' H' => ?_
    have H1 : Sat (Cells b6 E.t___stretch_One [slW s] :: Row E.t_stretch_One 2 s (flat ks) :: Cells b1 E.t_func_uint64_bool [.func (.yield l) #[] #[]] :: Cells c E.t___stretch_One [slW s] :: R0) w' := Sat.star.1 H'
    have H2 : Sat (ReadP E c s ks :: R0) w' := Sat.star.2 ((H1.tail.perm ((List.Perm.swap _ _ _))).tail.perm (.swap _ _ _))
    first
      | exact .inl ⟨R0, hJ, H2⟩
      | exact .inr ⟨R0, hJ, H2⟩

theorem achunks_sat (H : Sat (ArenaP E b ks own :: Z) w) (hb : ∀ q ∈ ks, q.2 ≤ 67108864) {K : Value → World → Prop}
    (hK : ∀ c s w', Sat (ReadP E c s ks :: ArenaP E b ks own :: Z) w' → K (.func (.func E.f_arena_Map_Chunks_1) #[] #[.pointer (some ⟨c, 0, none⟩)]) w') : F.arena_Map_Chunks E (some ⟨b, 0, none⟩) K w := by
  unfold F.arena_Map_Chunks F.stretch_Set_All
  simp only [NC_some]
  refine AL_row0 (z := 2) H fun b1 w2 H2 => ?_
  obtain ⟨G, h1, h2, h3, _⟩ := (H2.front 1 rfl).arena
  have hr := h1.set.row
  have hl : G.s.len = ks.length := by
    have := hr.own.len
    rw [flat_length, h2] at this
    omega
  have hkl := iv_len (h2 ▸ hr.ok : Ok ks) hb
  refine ⟨G.s, hr.c0, ?_⟩
  refine APP_row H2 rfl hr.own.rowAt hr.own.len (flat_one7 _) (by simp only; omega) (by simp only; omega) fun s6 w7 H7 _ => ?_
  rw [h2, List.nil_append] at H7
  refine AL_cells (vs := [slW ⟨none, 0, 0⟩]) H7 fun b8 w9 H9 _ => ?_
  refine st_all H9 (news := [slW s6]) rfl (by simp [slW, Value.oneCell']) fun w10 H10 => ?_
  exact hK b8 s6 w10 (Sat.star.2 H10)

theorem aadd_sat (H : Sat (ArenaP E b ks own :: Z) w) {c : Int} (h0 : 0 ≤ c) {K : Int → World → Prop} (hk1 : 67108864 ≤ c → K 1 w) (hk2 : c < 67108864 → mem ks c → ∀ w', Sat (ArenaP E b ks own :: Z) w' → K 34 w')
    (hk3 : c < 67108864 → ¬ mem ks c → ∀ ks' w', (∀ n, mem ks' n ↔ mem ks n ∨ n = c) → Sat (ArenaP E b ks' own :: Z) w' → K 0 w') : F.arena_Map_Add E (some ⟨b, 0, none⟩) c K w := by
  obtain ⟨G, h1, h2, h3, h4⟩ := H.arena
  refine aadd_spec hE.toEnvA h1 h0 hk1 (fun a b w' he => hk2 a (h2 ▸ b) w' (H.nothing he)) fun a b w' G' st hm ho => hk3 a (fun h => b (h2.symm ▸ h)) G'.ks w' (fun n => by rw [hm, h2]) (h4 w' G' _ _ st rfl fun p => by rw [ho, h3])
end
end Go.Sh


set_option linter.all false
set_option maxRecDepth 4000
set_option maxHeartbeats 2000000
namespace Go.Sh

def lookA (L : List (Int × Int)) (p : Int) : Int := L.foldl (fun r q => if q.1 = p then q.2 else r) 0
def ModelP (E : Env) (b : Nat) (cs : List Int) (L : List (Int × Int)) : Pr := Ex fun x : SlV × SlV × SlV =>
  Star [Cells b E.t_mallowlaw11_Model [slW x.1, slW x.2.1, slW x.2.2], Row E.t_uint64 1 x.1 (ints .u64 cs), Row E.t_uint64 1 x.2.1 (ints .u64 (L.map (·.1))), Row E.t_int 1 x.2.2 (ints .i64 (L.map (·.2)))]

structure Rel (ks : Iv) (own : Int → Int) (cs : List Int) (L : List (Int × Int)) : Prop where
  ks : ∀ n, mem ks n ↔ n ∈ cs
  nd : cs.Nodup
  lim : ∀ c ∈ cs, 0 ≤ c ∧ c < 67108864
  ow : ∀ p, own p = lookA L p
  pg : ∀ q ∈ L, 0 ≤ q.1 ∧ q.1 < 34359738368

theorem Rel.new : Rel [] (fun _ => 0) [] [] := ⟨fun n => ⟨fun ⟨_, h, _⟩ => (by cases h), fun h => (by cases h)⟩, List.nodup_nil, fun _ h => (by cases h), fun _ => rfl, fun _ h => (by cases h)⟩

theorem Rel.bnd {ks : Iv} {own : Int → Int} {cs : List Int} {L : List (Int × Int)} (h : Rel ks own cs L) (hok : Ok ks) : ∀ q ∈ ks, q.2 ≤ 67108864 := fun q hq => by
  have h1 := iv_lo hok q hq
  have h2 := (h.lim _ ((h.ks (q.2 - 1)).1 ⟨q, hq, by omega, by omega⟩)).2
  omega

section
variable {E : Env} {b : Nat} {ks : Iv} {own : Int → Int} {cs : List Int} {L : List (Int × Int)} {Z : List Pr} {w : World}

theorem Sat.model : Sat (ModelP E b cs L :: Z) w ↔ ∃ s0 s1 s2, Sat (Cells b E.t_mallowlaw11_Model [slW s0, slW s1, slW s2] :: Row E.t_uint64 1 s0 (ints .u64 cs) :: Row E.t_uint64 1 s1 (ints .u64 (L.map (·.1))) :: Row E.t_int 1 s2 (ints .i64 (L.map (·.2))) :: Z) w := by
  unfold ModelP
  rw [Sat.ex]
  exact ⟨fun ⟨⟨s0, s1, s2⟩, h⟩ => ⟨s0, s1, s2, Sat.star.1 h⟩, fun ⟨s0, s1, s2, h⟩ => ⟨⟨s0, s1, s2⟩, Sat.star.2 h⟩⟩

end
end Go.Sh


set_option linter.all false
set_option maxRecDepth 4000
set_option maxHeartbeats 4000000
namespace Go.Sh

theorem nodup_len {l m : List Int} (h1 : l.Nodup) (h2 : m.Nodup) (h : ∀ x, x ∈ l ↔ x ∈ m) : l.length = m.length :=
  ((List.perm_ext_iff_of_nodup h1 h2).2 h).length_eq

section
variable {E : Env} {b bx : Nat} {ks : Iv} {own : Int → Int} {cs : List Int} {L : List (Int × Int)} {Z : List Pr} {w : World}

variable (hE : EnvR E)
include hE

theorem aset_all (H : Sat (ArenaP E b ks own :: Z) w) {x n id : Int} (hx0 : 0 ≤ x) (hx : x < 18446744073709551616) (hn0 : 0 ≤ n) (hn : n < 18446744073709551616) {K : Int → World → Prop}
    (hk1 : (n = 0 ∨ id < 0) → ∀ w', Sat (ArenaP E b ks own :: Z) w' → K 1 w')
    (hk2 : ¬ (n = 0 ∨ id < 0) → (34359738368 ≤ x ∨ 34359738368 - x < n ∨ ∃ c, x / 512 ≤ c ∧ c ≤ (x + n - 1) / 512 ∧ ¬ mem ks c) → ∀ w', Sat (ArenaP E b ks own :: Z) w' → K 10 w')
    (hk3 : ¬ (n = 0 ∨ id < 0) → x < 34359738368 → n ≤ 34359738368 - x → (∀ c, x / 512 ≤ c → c ≤ (x + n - 1) / 512 → mem ks c) → ∀ w', Sat (ArenaP E b ks (fun p => if x ≤ p ∧ p < x + n then id else own p) :: Z) w' → K 0 w') :
    F.arena_Map_Set E (some ⟨b, 0, none⟩) x n id K w := by
  obtain ⟨G, h1, h2, h3, hst⟩ := H.arena
  refine aset_spec hE.toEnvA h1 hx0 hx hn0 hn (fun h w' he => hk1 h w' (H.nothing he)) (fun h g w' he => hk2 h ?_ w' (H.nothing he)) fun h a c d w' G' st e1 e2 => hk3 h a c (fun q q1 q2 => h2 ▸ d q q1 (by omega)) w' (hst w' G' ks _ st (e1.trans h2) fun p => by rw [e2, h3])
  rcases g with g | g | ⟨c, c1, c2, c3⟩
  · exact .inl g
  · exact .inr (.inl g)
  · by_cases q : 34359738368 ≤ x ∨ 34359738368 - x < n
    · exact q.elim .inl fun q => .inr (.inl q)
    · exact .inr (.inr ⟨c, c1, by omega, h2 ▸ c3⟩)

end
end Go.Sh

