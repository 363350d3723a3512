/- The law ArenaApart holds: for every input the Go function returns true and leaves its arguments alone. No further condition. -/
import Derived.Test.YtbdcnkhngfiieaaD
import Derived.Test.YtbdcnkhngfiieaaT
import Derived.Test.YtbdcnkhngfiieaaA
import Derived.Test.YtbdcnkhngfiieaaRows
import Derived.WalkKit
import Derived.ProofKit
import Derived.OpenShut
set_option linter.all false
set_option maxRecDepth 4000
set_option maxHeartbeats 4000000
namespace Go.Sh

abbrev ActT : AT := .cons (.int .i64) (.cons (.int .u64) (.cons (.int .u64) (.cons (.int .i64) .nil)))

def qW (x : ElT ActT) : Int := x.1
def qA (x : ElT ActT) : Int := x.2.1
def qN (x : ElT ActT) : Int := x.2.2.1
def qI (x : ElT ActT) : Int := x.2.2.2.1

theorem RowG.oldT {w w' : World} {s : SlV} {z : Nat → ElT ActT} (h : RowA w ActT s z) (he : Ext Nothing w w') : RowA w' ActT s z :=
  ⟨h.1, h.2.1, fun j hj => by
    obtain ⟨x, h1, h2, h3⟩ := h.2.2 j hj
    exact ⟨x, h1, fun i v hv => he.cell (h2 i v hv) fun f => f, h3⟩⟩

theorem actCell {w : World} {s : SlV} {z : Nat → ElT ActT} (h : RowA w ActT s z) {j : Nat} (hj : j < s.len) : ∃ x, s.base = some x ∧ (w.cell? ((x.add (j * 4)).add 0) = some (.int .i64 (qW (z j))) ∧ w.cell? ((x.add (j * 4)).add 1) = some (.int .u64 (qA (z j))) ∧ w.cell? ((x.add (j * 4)).add 2) = some (.int .u64 (qN (z j))) ∧ w.cell? ((x.add (j * 4)).add 3) = some (.int .i64 (qI (z j)))) ∧
    (0 ≤ qA (z j) ∧ qA (z j) < 18446744073709551616) ∧ (0 ≤ qN (z j) ∧ qN (z j) < 18446744073709551616) := by
  obtain ⟨x, h1, h2, h3, h4, h5, h6, _⟩ := h.2.2 j hj
  have hs : AT.size ActT = 4 := rfl
  rw [hs] at h2
  refine ⟨x, h1, ⟨?_, ?_, ?_, ?_⟩, u64_wf h4, u64_wf h5⟩
  · rw [add_add]; exact h2 0 _ rfl
  · rw [add_add]; exact h2 1 _ rfl
  · rw [add_add]; exact h2 2 _ rfl
  · rw [add_add]; exact h2 3 _ rfl

def sumN (z : Nat → ElT ActT) : Nat → Int
  | 0 => 0
  | j + 1 => sumN z j + (if qW (z j) = 2 ∧ qN (z j) < 1099511627776 then qN (z j) else 0)

theorem sumN_mono {w : World} {s : SlV} {z : Nat → ElT ActT} (h : RowA w ActT s z) {i : Nat} : ∀ {j : Nat}, i ≤ j → j ≤ s.len → 0 ≤ sumN z i ∧ sumN z i ≤ sumN z j := by
  have pos : ∀ i, i ≤ s.len → 0 ≤ sumN z i := fun i => by
    induction i with
    | zero => intro _; exact Int.le_refl _
    | succ i ih =>
      intro hi
      obtain ⟨x, _, _, _, q1, _⟩ := actCell h (show i < s.len by omega)
      have := ih (by omega)
      unfold sumN
      split <;> omega
  intro j hij hj
  refine ⟨pos i (by omega), ?_⟩
  induction j with
  | zero => have : i = 0 := by omega
            rw [this]; exact Int.le_refl _
  | succ j ih =>
    by_cases e : i = j + 1
    · rw [e]; exact Int.le_refl _
    · have h1 := ih (by omega) (by omega)
      obtain ⟨x, _, _, _, q1, _⟩ := actCell h (show j < s.len by omega)
      show sumN z i ≤ sumN z j + _
      split <;> omega

theorem heavy11_spec {E : Env} {w : World} {a0 : SlV} {z : Nat → ElT ActT} (h : RowA w ActT a0 z) {K : Bool → World → Prop} (hK : ∀ r, (r = false → a0.len ≤ 200 ∧ sumN z a0.len ≤ 20000) → K r w) : F.mallowlaw11_heavy E a0 K w := by
  unfold F.mallowlaw11_heavy
  have hcap := h.1
  have hcap2 := h.2.1
  refine LOOP_intro (fun st w' => ∃ i : Nat, st.2.1 = (i : Int) ∧ i ≤ a0.len ∧ st.1 = sumN z i ∧ sumN z i ≤ 20000 ∧ w' = w) (fun st _ => ((a0.len : Int) - st.2.1).toNat) ⟨0, rfl, Nat.zero_le _, rfl, by show (0 : Int) ≤ 20000; decide, rfl⟩ ?_
  rintro ⟨n, i', u⟩ _ w2 ⟨i, hi, hil, hn, hle, rfl⟩
  dsimp only at hi hn ⊢
  subst hi
  subst hn
  have hp := (sumN_mono h (Nat.le_refl i) hil).1
  refine CND_dec (fun hlt => ?_) fun hge => ?_
  · obtain ⟨x, hx, ⟨c0, c1, c2, c3⟩, hA, hN⟩ := actCell h (show i < a0.len by omega)
    have c0' : w2.cell? (x.add (Int.toNat (i : Int) * 4)) = some (.int .i64 (qW (z i))) := by rw [Int.toNat_natCast]; rwa [add_add, Nat.add_zero] at c0
    have c2' : w2.cell? ((x.add (Int.toNat (i : Int) * 4)).add 2) = some (.int .u64 (qN (z i))) := by rw [Int.toNat_natCast]; exact c2
    rw [hx]
    have fin : ∀ j : Nat → Value, CND (decide (sumN z (i + 1) > 20000)) (K true w2) ((∃ i2 : Nat, i64 ((i : Int) + 1) = (i2 : Int) ∧ i2 ≤ a0.len ∧ sumN z (i + 1) = sumN z i2 ∧ sumN z i2 ≤ 20000 ∧ w2 = w2) ∧ ((a0.len : Int) - i64 ((i : Int) + 1)).toNat < ((a0.len : Int) - (i : Int)).toNat) := fun j => by
      rw [i64_id (n := (i : Int) + 1) (by omega) (by omega)]
      exact CND_dec (fun _ => hK true fun e => by cases e) fun g => ⟨⟨i + 1, rfl, by omega, rfl, by omega, rfl⟩, by omega⟩
    have yes : qW (z i) = 2 ∧ qN (z i) < 1099511627776 → u64 (sumN z i + qN (z i)) = sumN z (i + 1) := fun g => by
      have e : sumN z (i + 1) = sumN z i + qN (z i) := by show sumN z i + _ = _; rw [if_pos g]
      rw [e]; exact u64_id (n := sumN z i + qN (z i)) (by omega) (by omega)
    have no : ¬ (qW (z i) = 2 ∧ qN (z i) < 1099511627776) → sumN z i = sumN z (i + 1) := fun g => by
      show _ = sumN z i + _
      rw [if_neg g]; omega
    refine JOIN_in (JOIN_in ⟨⟨by omega, by omega⟩, qW (z i), c0', CND_eq (fun e => ⟨⟨by omega, by omega⟩, qN (z i), c2', fun j => CND_dec (fun g => ⟨⟨by omega, by omega⟩, qN (z i), c2', ?_⟩) fun g => ?_⟩) fun e j => CND_f rfl ?_⟩)
    · rw [yes ⟨e, g⟩]; exact fin
    · rw [no fun q => g q.2]; exact fin
    · rw [no fun q => e q.1]; exact fin
  · obtain rfl : i = a0.len := by omega
    refine hK _ fun e => ⟨?_, hle⟩
    have := of_decide_eq_false e
    omega

section
variable {E : Env} {ks : Iv} {own : Int → Int} {Z : List Pr} {w : World} (hE : EnvR E)
include hE

theorem awake11_spec (H : Sat Z w) {K : Bool → World → Prop} (hK : ∀ w', Sat Z w' → K true w') : F.mallowlaw11_awake E K w := by
  unfold F.mallowlaw11_awake
  refine anew_sat H fun w2 b H2 => CND_f rfl ?_
  refine aadd_sat hE H2 (by decide) (fun h => absurd h (by decide)) (fun _ hm => absurd hm (mem_nil _)) fun _ _ ks' w4 hks H4 => CND_t rfl ?_
  have h1 : ∀ n, mem ks' n ↔ n = 1 := fun n => by rw [hks]; exact ⟨fun h => h.elim (fun h => absurd h (mem_nil _)) id, .inr⟩
  refine aset_all hE H4 (by decide) (by decide) (by decide) (by decide) (fun h => absurd h (by decide)) (fun _ h => ?_) fun _ _ _ _ w6 H6 => CND_t rfl ?_
  · exfalso
    rcases h with h | h | ⟨c, c1, c2, c3⟩
    · exact absurd h (by decide)
    · exact absurd h (by decide)
    · refine c3 ((h1 c).2 ?_)
      have e1 : (512 : Int) / 512 = 1 := by decide
      have e2 : ((512 : Int) + 3 - 1) / 512 = 1 := by decide
      rw [e1] at c1; rw [e2] at c2; omega
  refine aat_sat H6 (by decide) (by decide) fun w8 H8 => CND_t (by decide) ?_
  refine aat_sat H8 (by decide) (by decide) fun w10 H10 => CND_t (by decide) ?_
  refine ahas_sat hE.toEnvA H10 (by decide) (by decide) fun w12 r hr H12 => ?_
  rw [hr.2 ((h1 _).2 (by decide))]
  refine CND_t rfl (ahas_sat hE.toEnvA H12 (by decide) (by decide) fun w14 r2 hr2 H14 => ?_)
  have : r2 = false := by
    cases r2
    · rfl
    · exact absurd ((h1 _).1 (hr2.1 rfl)) (by decide)
  rw [this]
  exact hK w14 H14.tail

theorem apart11_spec {a0 a1 : SlV} {z : Nat → ElT ActT} {z1 : Nat → Bool} (h0 : RowA w ActT a0 z) (h1 : RowA w .bool a1 z1) {K : Bool → World → Prop} (hK : ∀ w', Ext Nothing w w' → K true w') : F.mallowlaw11_ArenaApart E a0 a1 K w := by
  unfold F.mallowlaw11_ArenaApart
  refine heavy11_spec h0 fun r hr => CND_intro (fun _ => hK w (Ext.refl _ _)) fun e => ?_
  obtain ⟨hlen, hsum⟩ := hr e
  refine anew_sat (Sat.start w) fun w4 b H4 => anew_sat H4 fun w6 b' H6 => mnew_sat H6 fun bx w8 H8 => mnew_sat H8 fun bx' w10 H10 => ?_
  refine JOIN_in (CND_f rfl (CND_f rfl (achunks_sat hE (H10.front 3 rfl) (fun q hq => by cases hq) fun c s w15 H15 => ⟨rfl, CND_f rfl (achunks_sat hE (H15.tail.front 3 rfl) (fun q hq => by cases hq) fun c' s' w17 H17 => ⟨rfl, fun j => CND_f rfl ?_⟩)⟩)))
  have H18 : Sat [ArenaP E b' [] (fun _ => 0), ArenaP E b [] (fun _ => 0), ModelP E bx' [] [], ModelP E bx [] [], Old w] w17 := H17.tail
  have H19 : Sat [ArenaP E b [] (fun _ => 0), ModelP E bx [] [], ArenaP E b' [] (fun _ => 0), ModelP E bx' [] [], Old w] w17 := H18.perm ((List.Perm.swap _ _ _).trans (.cons _ ((List.Perm.cons _ (.swap _ _ _)).trans (.swap _ _ _))))
  refine LOOP_intro (fun st w' => ∃ (i : Nat) (ks ks' : Iv) (own own' : Int → Int) (cs cs' : List Int) (L L' : List (Int × Int)), st.1 = (i : Int) ∧ i ≤ a0.len ∧ (Rel ks own cs L ∧ cs.length ≤ i ∧ (L.length : Int) ≤ sumN z i) ∧ (Rel ks' own' cs' L' ∧ cs'.length ≤ i ∧ (L'.length : Int) ≤ sumN z i) ∧
      Sat [ArenaP E b ks own, ModelP E bx cs L, ArenaP E b' ks' own', ModelP E bx' cs' L', Old w] w') (fun st _ => ((a0.len : Int) - st.1).toNat)
    ⟨0, _, _, _, _, _, _, _, _, rfl, Nat.zero_le _, ⟨Rel.new, Nat.le_refl _, Int.le_refl _⟩, ⟨Rel.new, Nat.le_refl _, Int.le_refl _⟩, H19⟩ ?_
  rintro ⟨i', u⟩ _ w19 ⟨i, ks, ks', own, own', cs, cs', L, L', hi, hil, ⟨hR, hcs, hL⟩, ⟨hR', hcs', hL'⟩, H19⟩
  dsimp only at hi ⊢
  subst hi
  have hm := sumN_mono h0 hil (Nat.le_refl _)
  have swap : ∀ {ks ks' own own' cs cs' L L' w'}, Sat [ArenaP E b ks own, ModelP E bx cs L, ArenaP E b' ks' own', ModelP E bx' cs' L', Old w] w' ↔ Sat [ArenaP E b' ks' own', ModelP E bx' cs' L', ArenaP E b ks own, ModelP E bx cs L, Old w] w' := fun {ks ks' own own' cs cs' L L' w'} => by
    have p : [ArenaP E b ks own, ModelP E bx cs L, ArenaP E b' ks' own', ModelP E bx' cs' L', Old w].Perm [ArenaP E b' ks' own', ModelP E bx' cs' L', ArenaP E b ks own, ModelP E bx cs L, Old w] := List.perm_append_comm_assoc [ArenaP E b ks own, ModelP E bx cs L] [ArenaP E b' ks' own', ModelP E bx' cs' L'] [Old w]
    exact ⟨fun h => h.perm p, fun h => h.perm p.symm⟩
  refine CND_dec (fun hlt => ?_) fun hge => ?_
  · obtain ⟨x, hx, ⟨c0, c1, c2, c3⟩, hA, hN⟩ := actCell (h0.oldT (H19.old 4 rfl)) (show i < a0.len by omega)
    rw [hx]
    have hm2 := sumN_mono h0 (show i + 1 ≤ a0.len by omega) (Nat.le_refl _)
    have hs1 : sumN z i ≤ sumN z (i + 1) := (sumN_mono h0 (Nat.le_succ i) (by omega)).2
    have hb : ∀ {l : Int}, l ≤ sumN z i → qW (z i) = 2 → qN (z i) < 1099511627776 → l + qN (z i) ≤ 90000 := fun {l} h h1 h2 => by
      have e : sumN z (i + 1) = sumN z i + qN (z i) := by show sumN z i + _ = _; rw [if_pos ⟨h1, h2⟩]
      omega
    have i1 : i64 ((i : Int) + 1) = ((i + 1 : Nat) : Int) := i64_id (by omega) (by omega)
    have both : CND true True True := trivial
    refine JOIN_intro (fun st w' => w' = w19) ?_ ?_
    · refine CND_dec (fun hlt1 => ?_) fun _ => rfl
      obtain ⟨y, hy, hcy⟩ := RowG.cellB (show RowG w19 .bool (elOk w19 .bool) a1 z1 from ⟨h1.1, h1.2.1, fun j hj => by
        obtain ⟨x, q1, q2, q3⟩ := h1.2.2 j hj
        exact ⟨x, q1, fun i v hv => (H19.old 4 rfl).cell (q2 i v hv) fun f => f, trivial⟩⟩) (show i < a1.len by omega)
      rw [hy]
      exact ⟨⟨by omega, by omega⟩, z1 i, by rw [Int.toNat_natCast, Nat.mul_one]; exact hcy, rfl⟩
    rintro ⟨t, v⟩ _ w23 rfl
    dsimp only
    refine CND_intro (fun _ => ?_) fun _ => ?_
    · refine ⟨⟨by omega, by omega⟩, _, by rw [Int.toNat_natCast]; exact c0, _, by rw [Int.toNat_natCast]; exact c1, _, by rw [Int.toNat_natCast]; exact c2, _, by rw [Int.toNat_natCast]; exact c3, ?_⟩
      refine act_spec hE (swap.1 H19) hR' (by omega) (by omega) hA hN (hb hL') fun ks2 own2 cs2 L2 w32 r1 r2 r3 H32 => CND_f rfl ?_
      rw [i1]
      refine ⟨⟨i + 1, ks, ks2, own, own2, cs, cs2, L, L2, rfl, by omega, ⟨hR, by omega, by omega⟩, ⟨r1, by omega, ?_⟩, swap.2 H32⟩, by omega⟩
      show _ ≤ sumN z i + _
      exact Int.le_trans r3 (Int.add_le_add_right hL' _)
    · refine ⟨⟨by omega, by omega⟩, _, by rw [Int.toNat_natCast]; exact c0, _, by rw [Int.toNat_natCast]; exact c1, _, by rw [Int.toNat_natCast]; exact c2, _, by rw [Int.toNat_natCast]; exact c3, ?_⟩
      refine act_spec hE H19 hR (by omega) (by omega) hA hN (hb hL) fun ks2 own2 cs2 L2 w32 r1 r2 r3 H32 => CND_f rfl ?_
      rw [i1]
      refine ⟨⟨i + 1, ks2, ks', own2, own', cs2, cs', L2, L', rfl, by omega, ⟨r1, by omega, ?_⟩, ⟨hR', by omega, by omega⟩, H32⟩, by omega⟩
      show _ ≤ sumN z i + _
      exact Int.le_trans r3 (Int.add_le_add_right hL _)
  · obtain rfl : i = a0.len := by omega
    refine act_spec hE H19 hR (by omega) (by omega) (by decide) (by decide) (fun h => absurd h (by decide)) fun ks2 own2 cs2 L2 w41 r1 r2 r3 H41 => CND_t rfl ?_
    refine act_spec hE (swap.1 H41) hR' (by omega) (by omega) (by decide) (by decide) (fun h => absurd h (by decide)) fun ks3 own3 cs3 L3 w43 _ _ _ H43 => CND_t rfl ?_
    exact awake11_spec hE H43 fun w45 H45 => hK w45 (H45.old 4 rfl)
end
end Go.Sh


set_option linter.all false
namespace Go.Sh
open Go.Proofs

theorem envS : EnvS env where
  at1 := by
    intro i p1 p2 K w h
    refine ⟨(fits33 #[.int .i64 i, .pointer p1, .pointer p2] w (fun v w' => ∃ b, v = .bool b ∧ K b w') noP ?_).1, (fits33 #[.int .i64 i, .pointer p1, .pointer p2] w (fun v w' => ∃ b, v = .bool b ∧ K b w') noP ?_).2⟩ <;>
    exact (show F.stretch_Set_at_1 env i p1 p2 (fun b w' => ∃ b', Value.bool b = .bool b' ∧ K b' w') w from at1_mono (fun b w' h => ⟨b, rfl, h⟩) h)
  mono := ground_mono

theorem envA : EnvA env where
  toEnvS := envS
  set1 := by
    intro x y p1 p2 R w h
    refine ⟨(fits28 #[.int .u64 x, .int .u64 y, .pointer p1, .pointer p2] w R noP ?_).1, (fits28 #[.int .u64 x, .int .u64 y, .pointer p1, .pointer p2] w R noP ?_).2⟩ <;>
    exact h

theorem ends_val {K : World → Prop} {e : Ending} {w' : World} (h : Ends (fun _ w' => K w') noP e w') : (∃ v, e = .returned v) ∧ K w' := by
  obtain ⟨v, hv, hk⟩ := h.val
  exact ⟨⟨v, hv⟩, hk⟩

theorem seq16 {c : Option Addr} {xs : List Int} {Q : Pr} (h : ∀ (l : Nat) (J : Nat → List Pr → Prop) (Jx : List Pr → Prop) (W : World) (Rs : List Pr),
    (∀ (i : Nat) (x : Int) (Rs : List Pr) (W1 : World) (X : Pr), xs[i]? = some x → J i Rs → Sat (X :: Q :: Rs) W1 →
      env.yld l #[.int .u64 x] W1 fun v W' => (v = .bool true ∧ ∃ Rs', J (i + 1) Rs' ∧ Sat (X :: Q :: Rs') W') ∨ (v = .bool false ∧ ∃ Rs', Jx Rs' ∧ Sat (X :: Q :: Rs') W')) →
    J 0 Rs → Sat (Q :: Rs) W →
    F.arena_Map_Chunks_1 env (.func (.yield l) #[] #[]) c (fun W' => (∃ Rs', J xs.length Rs' ∧ Sat (Q :: Rs') W') ∨ ∃ Rs', Jx Rs' ∧ Sat (Q :: Rs') W') W) : SeqR Try.prog 16 #[.pointer c] xs Q :=
  ⟨fun args w => Try.call16 args w, fun l J Jx W Rs hY h0 HS => (fits16 #[.func (.yield l) #[] #[], .pointer c] W (fun _ W' => (∃ Rs', J xs.length Rs' ∧ Sat (Q :: Rs') W') ∨ ∃ Rs', Jx Rs' ∧ Sat (Q :: Rs') W') noP (h l J Jx W Rs hY h0 HS)).2.mono fun e w' he => ends_val he⟩

theorem seq25 {c : Option Addr} {xs : List Int} {Q : Pr} (h : ∀ (l : Nat) (J : Nat → List Pr → Prop) (Jx : List Pr → Prop) (W : World) (Rs : List Pr),
    (∀ (i : Nat) (x : Int) (Rs : List Pr) (W1 : World) (X : Pr), xs[i]? = some x → J i Rs → Sat (X :: Q :: Rs) W1 →
      env.yld l #[.int .u64 x] W1 fun v W' => (v = .bool true ∧ ∃ Rs', J (i + 1) Rs' ∧ Sat (X :: Q :: Rs') W') ∨ (v = .bool false ∧ ∃ Rs', Jx Rs' ∧ Sat (X :: Q :: Rs') W')) →
    J 0 Rs → Sat (Q :: Rs) W →
    F.arena_rising_1 env (.func (.yield l) #[] #[]) c (fun W' => (∃ Rs', J xs.length Rs' ∧ Sat (Q :: Rs') W') ∨ ∃ Rs', Jx Rs' ∧ Sat (Q :: Rs') W') W) : SeqR Try.prog 25 #[.pointer c] xs Q :=
  ⟨fun args w => Try.call25 args w, fun l J Jx W Rs hY h0 HS => (fits25 #[.func (.yield l) #[] #[], .pointer c] W (fun _ W' => (∃ Rs', J xs.length Rs' ∧ Sat (Q :: Rs') W') ∨ ∃ Rs', Jx Rs' ∧ Sat (Q :: Rs') W') noP (h l J Jx W Rs hY h0 HS)).2.mono fun e w' he => ends_val he⟩

theorem envR : EnvR env where
  toEnvA := envA
  ymono := fun l args w K K' hK ⟨fn, tmps, assign, body, h1, h2⟩ => ⟨fn, tmps, assign, body, h1, h2.mono hK⟩
  rising1 := fun c xs Q h => seq25 h
  chunks1 := fun c xs Q h => seq16 h

end Go.Sh


namespace Go.Proofs.Ytbdcnkhngfiieaa.arenaApart
open Go.ChangeShapes Go.WideShapes Go.ChangeAt Go.RowKit
set_option linter.unusedVariables false
set_option linter.unusedSimpArgs false

theorem own : ownKnob Try.prog.godebug = none := by kernel_rfl
theorem laidOut : laidOutB Try.prog = true := by kernel_rfl

theorem walk (x : Go.Sh.ArgTs [.sl (.cons (.int .i64) (.cons (.int .u64) (.cons (.int .u64) (.cons (.int .i64) (.nil))))), .sl (.bool)]) (w : World) (h : Go.Sh.argOks w [.sl (.cons (.int .i64) (.cons (.int .u64) (.cons (.int .u64) (.cons (.int .i64) (.nil))))), .sl (.bool)] x) :
    Calls Try.prog 4 ⟨Go.Sh.argVals [.sl (.cons (.int .i64) (.cons (.int .u64) (.cons (.int .u64) (.cons (.int .i64) (.nil))))), .sl (.bool)] x⟩ w fun e w' => e = .returned (.bool true) ∧ Below w.heap.size w w' := by
  obtain ⟨a0, a1, u⟩ := x
  obtain ⟨w0, w1, _⟩ := h
  obtain ⟨z0, w0⟩ := w0
  obtain ⟨z1, w1⟩ := w1
  refine (Go.Sh.fits4 _ w (fun v w' => v = .bool true ∧ Below w.heap.size w w') Go.Sh.noP ?_).2.mono ?_
  · show Go.Sh.F.mallowlaw11_ArenaApart Go.Sh.env a0 a1 (fun r w' => Value.bool r = .bool true ∧ Below w.heap.size w w') w
    exact Go.Sh.apart11_spec Go.Sh.envR w0 w1 fun w' h => ⟨rfl, h.below (Nat.le_refl _) fun _ f => f.elim⟩
  · intro e w' hE
    obtain ⟨v, rfl, rfl, h⟩ := hE.val
    exact ⟨rfl, h⟩

set_option maxRecDepth 100000 in
theorem lifted (os : Os) (started : os.Started) (H : Type) (enc : TypeId × Value → H) :
    ReturnsInHanded {} Try.checked os 4 .any (Rows.arenaApartSpec.pre6 enc Try.prog Try.f4 Rows.arenaApartRow.domain false) (Rows.arenaApartSpec.post enc Try.prog Try.f4 false true false false) := by
  refine returnsInHanded_of_change (C := Try.checked) own started (by kernel_rfl) Try.func4
    (ChangeSpec.witness6 (enc := enc) (C := Try.checked) false ⟨#[], #[.slice none 0 0, .slice none 0 0], []⟩ 8 (by kernel_rfl) (by kernel_rfl) (by kernel_rfl) (by kernel_rfl)) ?_
  intro W base args ds gs before hval0 hW hcnd _
  have hW' := hW
  obtain ⟨p, q, hA, hV, rfl, hfz, hnd⟩ := hW
  obtain ⟨rfl, rfl⟩ := trodVars_none hV
  have hargs := Go.Sh.args_of (P := Try.prog) (shs := [.sl (.cons (.int .i64) (.cons (.int .u64) (.cons (.int .u64) (.cons (.int .i64) (.nil))))), .sl (.bool)]) (by kernel_rfl) (fun j t v ht hv => hval0 j t v (by simpa using ht) (by simpa using hv)) hA
  obtain ⟨x, hx, hok⟩ := Go.Sh.argVals_of hargs
  obtain rfl : args = ⟨Go.Sh.argVals [.sl (.cons (.int .i64) (.cons (.int .u64) (.cons (.int .u64) (.cons (.int .i64) (.nil))))), .sl (.bool)] x⟩ := Array.toList_inj.1 (by simpa using hx)
  have hlen := Go.Sh.trodAll_len hA
  obtain ⟨d0, d1, rfl⟩ : ∃ d0 d1, ds = [d0, d1] := by
    have hl : ds.length = 2 := hlen
    match ds, hl with
    | [d0, d1], _ => exact ⟨d0, d1, rfl⟩
  refine (walk x W hok).mono fun e W' ⟨he, bel⟩ => ?_
  subst he
  exact ⟨_, rfl, _, _, _, [], _, [], hW', trodAll_mk1 (shut_bool Try.underlying4 _), Go.Sh.trodAll_below laidOut bel (by kernel_rfl) hA, rfl, bel.frame _, fun h => by cases h⟩

theorem over : Rows.arenaApartRow.holds Try.pinned (OpenSpec.ofChange Rows.arenaApartSpec) :=
  OpenClaim.holds_of_wide 4 Try.f4 rfl rfl rfl rfl rfl rfl rfl ⟨rfl, rfl, rfl, rfl, rfl⟩ rfl rfl rfl rfl rfl (by kernel_rfl) Try.func4 (by kernel_rfl)
    (of_decide_eq_true (by kernel_rfl)) (by unfold Func.isWrapper; first | (rw [if_pos (by decide +kernel)]; kernel_rfl) | (rw [if_neg (by decide +kernel)]; exact ⟨rfl, rfl⟩))
    (fun os started H enc _ => lifted os started H enc)

theorem proved : Rows.ArenaApartSaid := over
#print axioms proved
end Go.Proofs.Ytbdcnkhngfiieaa.arenaApart

