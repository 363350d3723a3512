/- The law HeapRecords holds (its card: math/bits' table as the program's text lays it): for every input the Go function returns true and leaves its arguments alone. No further condition. -/
import Derived.Test.YtadpgaodjghbnaaGreatDoorL
import Derived.Test.YtadpgaodjghbnaaGreatDoorQ
import Derived.Test.YtadpgaodjghbnaaGreatDoorA
import Derived.Test.YtadpgaodjghbnaaGreatDoorCards
import Derived.Test.YtadpgaodjghbnaaGreatDoorTie
import Derived.WalkKit
import Derived.ProofKit
import Derived.OpenShut
import Derived.Deep.DeepHandedRow
import Derived.Lib.LaidTab
set_option linter.all false
set_option maxRecDepth 8000
set_option maxHeartbeats 4000000
namespace Go.Sh

theorem nodup_bnd : ∀ (N : Nat) (l : List Int), l.Nodup → (∀ n ∈ l, 0 < n ∧ n ≤ N) → l.length ≤ N
  | 0, [], _, _ => Nat.le_refl _
  | 0, n :: _, _, h => by have := h n List.mem_cons_self; omega
  | N + 1, l, hn, h => by
    by_cases hm : ((N + 1 : Nat) : Int) ∈ l
    · have ih := nodup_bnd N (l.erase ((N + 1 : Nat) : Int)) (hn.erase _) fun n hn' => by
        have h1 := (hn.mem_erase_iff).1 hn'
        have h2 := h n h1.2
        have h3 := h1.1
        omega
      rw [List.length_erase_of_mem hm] at ih
      omega
    · have ih := nodup_bnd N l hn fun n hn' => by
        have h2 := h n hn'
        have h3 : n ≠ ((N + 1 : Nat) : Int) := fun e => hm (e ▸ hn')
        omega
      omega

theorem Sat.rowPop {F : List Pr} {w : World} {t : Nat} {s : SlV} {vs : List Value} {v : Value} (H : Sat (Row t 1 s (vs ++ [v]) :: F) w) : Sat (Row t 1 ⟨s.base, s.len - 1, s.cap⟩ vs :: F) w := by
  obtain ⟨D, h, hs⟩ := H.step
  have ho := h.2
  have hl : vs.length + 1 = s.len := by have := ho.len; rw [List.length_append] at this; simpa using this
  refine hs w D _ (Ext.refl _ _) ⟨h.1, ⟨by simp only; omega, by have := ho.cap; simp only; omega, ho.top, ?_⟩⟩ fun _ hk => .inl hk
  rcases ho.row with ⟨h1, h2⟩ | ⟨b, cs, h1, h2, h3, h4, h5⟩
  · exact .inl ⟨h1, h2⟩
  · refine .inr ⟨b, cs, h1, h2, h3, h4, ?_⟩
    have : ((cs.toList.take (s.len * 1)).take ((s.len - 1) * 1)) = vs := by
      rw [h5, List.take_left' (by omega)]
    rw [← this, List.take_take, show min ((s.len - 1) * 1) (s.len * 1) = (s.len - 1) * 1 by omega]

/-- Between two acts: n numbers were given for the first time, some are back. -/
structure ReSt (S : HS) (i : Nat) (top : Int) (bk : List Int) : Prop where
  inv : HInv S no
  la : ∃ b, LaidB S b ∧ b ≤ 512 + 512 * (i : Int)
  us : ∀ id x, S.sp id = some x → ¬ 0 < x.2.used
  tp : top = (S.fx.n : Int)
  few : S.fx.n ≤ i
  back : bk = (S.fx.bk.map fun a : Nat => (a : Int) + 1).reverse

def liveM (sp : Int → Option (Nat × SI)) : Int → Option Value := fun i => (sp i).map fun _ => .bool true

theorem ReSt.free {S : HS} {i : Nat} {top : Int} {bk : List Int} (h : ReSt S i top bk) {a : Nat} {x : Nat × SI} (hI : HInv (S.free a (x.2.base / 8192) x.2.pages) no) : ReSt (S.free a (x.2.base / 8192) x.2.pages) (i + 1) top (bk ++ [(a : Int) + 1]) := by
  obtain ⟨b, h1, h2⟩ := h.la
  refine ⟨hI, ⟨b, h1.sameV rfl rfl, by omega⟩, fun id y hy => ?_, h.tp, by have := h.few; show S.fx.n ≤ i + 1; omega, ?_⟩
  · have hy : (if id = (a : Int) + 1 then none else S.sp id) = some y := hy
    split at hy
    · cases hy
    · exact h.us id y hy
  · show bk ++ [(a : Int) + 1] = ((a :: S.fx.bk).map fun a : Nat => (a : Int) + 1).reverse
    rw [List.map_cons, List.reverse_cons, ← h.back]

theorem liveM_free {S : HS} {a : Nat} {p n : Int} : (fun i => if i = (a : Int) + 1 then none else liveM S.sp i) = liveM (S.free a p n).sp := by
  funext i
  show _ = (if i = (a : Int) + 1 then none else S.sp i).map _
  split <;> rfl
theorem liveM_keep {S S2 : HS} (e : S2.sp = S.sp) {id : Int} {x : Nat × SI} {p n : Int} {X : FX} : (fun i => if i = id then some (.bool true) else liveM S.sp i) = liveM (S2.keep id x p n X).sp := by
  funext i
  show _ = (if i = id then some x else S2.sp i).map _
  rw [e]
  split <;> rfl

theorem Next.fresh {S S2 : HS} {id : Int} {X : FX} (hX : Next S2 id X) (e : S2.fx = S.fx) (hI : HInv S no) : S.sp id = none := by
  refine Classical.byContradiction fun g => ?_
  obtain ⟨a, ha, h2, h3⟩ := (hI.sf id).1 g
  rcases hX with ⟨q1, q2, _⟩ | ⟨b, r, q1, q2, _⟩
  · rw [e] at q2; omega
  · rw [e] at q1
    have : a = b := by omega
    subst this
    exact h3 (by rw [q1]; exact List.mem_cons_self)

theorem ReSt.alloc {S S2 : HS} {i : Nat} {top : Int} {bk : List Int} (h : ReSt S i top bk) (hk : HOk S) (hi : i < 80) {page id : Int} {X : FX} {bl : Nat} (hf : Found S (-1) 1 page S2) (hX : Next S2 id X) (hI : HInv (S2.keep id (bl, spOf page 1 0 true) page 1 X) no) :
    (bk = [] ∧ id = top + 1 ∧ ReSt (S2.keep id (bl, spOf page 1 0 true) page 1 X) (i + 1) (top + 1) []) ∨ ∃ r, bk = r ++ [id] ∧ ReSt (S2.keep id (bl, spOf page 1 0 true) page 1 X) (i + 1) top r := by
  obtain ⟨b, h1, h2⟩ := h.la
  have e1 : upN 1 = 512 := by decide
  obtain ⟨b', hb', hL⟩ := hf.laid h1 hk (by decide) (by rw [e1]; omega)
  have es := hf.same
  have hus : ∀ id' y, (S2.keep id (bl, spOf page 1 0 true) page 1 X).sp id' = some y → ¬ 0 < y.2.used := fun id' y hy => by
    have hy : (if id' = id then some (bl, spOf page 1 0 true) else S2.sp id') = some y := hy
    split at hy
    · cases hy; show ¬ (0 : Int) < 0; decide
    · rw [es.sp] at hy; exact h.us _ _ hy
  have hla : ∃ b, LaidB (S2.keep id (bl, spOf page 1 0 true) page 1 X) b ∧ b ≤ 512 + 512 * ((i + 1 : Nat) : Int) := ⟨b', hL.sameV rfl rfl, by rcases hb' with rfl | rfl <;> rw [e1] at * <;> omega⟩
  have hfew := h.few
  rcases hX with ⟨q1, q2, rfl⟩ | ⟨a, r, q1, q2, rfl⟩
  · rw [es.fx] at q1 q2
    refine .inl ⟨by rw [h.back, q1]; rfl, by rw [q2, h.tp], hI, hla, hus, ?_, ?_, rfl⟩
    · show top + 1 = ((S2.fx.n + 1 : Nat) : Int)
      rw [es.fx, h.tp]; omega
    · show S2.fx.n + 1 ≤ i + 1
      rw [es.fx]; omega
  · rw [es.fx] at q1
    refine .inr ⟨(r.map fun a : Nat => (a : Int) + 1).reverse, by rw [h.back, q1, q2, List.map_cons, List.reverse_cons], hI, hla, hus, ?_, ?_, rfl⟩
    · show top = (S2.fx.n : Int)
      rw [es.fx]; exact h.tp
    · show S2.fx.n ≤ i + 1
      rw [es.fx]; omega

section
variable {E : Env} {w : World} {Rs Z : List Pr} (hE : EnvH E)
include hE

theorem records_spec (hT : TabAt E.g_math_bits_deBruijn64tab w) {a0 : SlV} {z : Nat → Int} (ha : RowA w (.int .i64) a0 z) {K : Bool → World → Prop} (hK : ∀ w', Ext Nothing w w' → K true w') : F.mallowlaw16_HeapRecords E a0 K w := by
  unfold F.mallowlaw16_HeapRecords
  refine CND_dec (fun _ => hK w (Ext.refl _ _)) fun g1 => ?_
  refine fresh16_nil (Sat.start w) fun h w2 H2 => CND_f rfl (AL_map H2 .i64 fun b3 w4 H4 _ => ?_)
  have hT' : ∀ {P Q : Pr} w', Sat [P, Q, Old w] w' → TabAt E.g_math_bits_deBruijn64tab w' := fun w' h => hT.ext (h.old 2 rfl)
  have H4' := ((H4.nil E.t_int 1).front 2 rfl)
  refine LOOP_intro (fun st w' => ∃ (i : Nat) (S : HS) (bk : List Int), st.2.2.1 = (i : Int) ∧ i ≤ a0.len ∧ ReSt S i st.2.1 bk ∧ Sat [HeapP E h S, Row E.t_int 1 st.1 (ints .i64 bk), MapF b3 .i64 (liveM S.sp), Old w] w') (fun st _ => ((a0.len : Int) - st.2.2.1).toNat)
    ⟨0, _, [], rfl, Nat.zero_le _, ⟨HInv.newV [] [] [], ⟨512, LaidB.new [], by decide⟩, fun id x hx => (by cases hx), rfl, Nat.le_refl _, rfl⟩, H4'⟩ ?_
  rintro ⟨s, top, i', v⟩ _ w6 ⟨i, S, bk, hi, hin, hR, H6⟩
  dsimp only at hi hR H6 ⊢
  subst hi
  have hI := hR.inv
  have hok := H6.hok
  refine CND_dec (fun hlt => ?_) fun hge => ?_
  · have rd : ∀ {w'}, Ext Nothing w w' → ∃ x, a0.base = some x ∧ w'.cell? (x.add (Int.toNat (i : Int) * 1)) = some (.int .i64 (z i)) := fun he => by
      obtain ⟨x, hx, hc, _⟩ := (RowG.oldI ha he).cell1 (show i < a0.len by omega)
      refine ⟨x, hx, ?_⟩
      simpa using hc
    have hlt' : (0 : Int) ≤ (i : Int) ∧ (i : Int) < (a0.len : Nat) := ⟨by omega, by omega⟩
    obtain ⟨x, hx, hc⟩ := rd (H6.old 3 rfl)
    rw [hx]
    simp only [NC_some]
    have rd2 : ∀ {w'}, Ext Nothing w w' → w'.cell? (x.add (Int.toNat (i : Int) * 1)) = some (.int .i64 (z i)) := fun he => by
      obtain ⟨x', hx', hc'⟩ := rd he
      rw [hx] at hx'; cases hx'; exact hc'
    have hi1 : i64 ((i : Int) + 1) = ((i + 1 : Nat) : Int) := by rw [i64_id (by omega) (by omega)]; rfl
    rw [hi1]
    refine ⟨hlt', z i, hc, CND_dec (fun hp => ⟨hlt', z i, hc, ?_⟩) fun hn => ?_⟩
    · -- it is freed
      refine hfree_spec hE.toEnvA H6 hI (fun hs => ⟨hlt', z i, hc, LKP_sl (H6.front 2 rfl) fun es _ => ⟨false, ?_, CND_f rfl (CND_f rfl ?_)⟩⟩) (fun y hy hu => absurd hu (hR.us _ _ hy)) fun y a hy hu ha1 hI2 w13 H13 => ?_
      · unfold liveM; rw [hs]; rfl
      · exact ⟨⟨i + 1, S, bk, rfl, by omega, ⟨hI, (let ⟨b, h1, h2⟩ := hR.la; ⟨b, h1, by omega⟩), hR.us, hR.tp, by have := hR.few; omega, hR.back⟩, H6⟩, by omega⟩
      · have he := H13.old 3 rfl
        refine ⟨hlt', z i, rd2 he, LKP_sl (H13.front 2 rfl) fun es _ => ⟨true, ?_, CND_f rfl (CND_t rfl ?_)⟩⟩
        · unfold liveM; rw [hy]; rfl
        · refine ⟨hlt', z i, rd2 he, MDEL_sl (H13.front 2 rfl) fun w22 H22 => ⟨hlt', z i, rd2 (H22.old 3 rfl), ?_⟩⟩
          have hsl := (H22.front 2 rfl).rowLen
          have hbl : bk.length ≤ S.fx.n := by
            rw [hR.back, List.length_reverse, List.length_map]
            have := nodup_bnd S.fx.n (S.fx.bk.map fun a : Nat => (a : Int) + 1) (by
              refine List.Pairwise.map _ (fun a b hab => ?_) hok.fx.nd
              omega) fun n hn => by
                obtain ⟨a, ha, rfl⟩ := List.mem_map.1 hn
                have := hok.fx.lt a ha
                omega
            rwa [List.length_map] at this
          have hfew := hR.few
          simp only [ints, List.length_map] at hsl
          refine AL_cells (vs := [.int .i64 (z i)]) H22 fun b25 w26 H26 _ => APP_one (zs := #[.int .i64 0]) (bytes := 8) (H26.front2 2 rfl) rfl rfl (by simp [Value.oneCell']) (by show (s.len + 1) * 8 ≤ _; omega) (by omega) fun s27 w28 H28 _ => ?_
          rw [show ints .i64 bk ++ [.int .i64 (z i)] = ints .i64 (bk ++ [z i]) by simp [ints]] at H28
          refine ⟨⟨i + 1, _, bk ++ [z i], rfl, by omega, ha1 ▸ hR.free hI2, ?_⟩, by omega⟩
          have H29 := (H28.front 2 rfl)
          rw [ha1, liveM_free] at H29
          rw [ha1]
          exact H29.perm (.cons _ (.refl _))
    · -- one is given
      refine halloc_ok hE.toEnvA hT' H6 hI (hR.la.choose_spec.1) (spOk0 (by decide) (by decide)) (by decide) (by have := hR.la.choose_spec.2; rw [show upN 1 = 512 by decide]; omega) fun _ page S2 bl id X hf hk hI2 q0 q1 hX hI3 w31 H31 => ?_
      have es := hf.same
      have hnone : S.sp id = none := hX.fresh es.fx hI
      have e64 : ∀ a b : Int, a = b → (a != b) = false := fun a b e => by rw [e]; simp
      have hsl := (H6.front 1 rfl).rowLen
      simp only [ints, List.length_map] at hsl
      have htp := hR.tp
      have hfew := hR.few
      rcases hR.alloc hk (by omega) hf hX hI3 with ⟨rfl, e1, hR2⟩ | ⟨r, rfl, hR2⟩
      · have hs0 : s.len = 0 := by simpa using hsl.symm
        refine JOIN_in (CND_dec (fun g => absurd g (by omega)) fun _ j => ?_)
        rw [i64_id (n := top + 1) (by omega) (by omega), ← e1]
        refine JOIN_in (CND_f (e64 _ _ rfl) (CND_f rfl (LKP_sl (H31.front 2 rfl) fun es' _ => ⟨false, ?_, fun j => CND_f rfl (MUPD_sl (H31.front 2 rfl) fun w44 H44 => ?_)⟩)))
        · unfold liveM; rw [hnone]; rfl
        · rw [liveM_keep es.sp] at H44
          rw [← e1] at hR2
          exact ⟨⟨i + 1, _, [], rfl, by omega, hR2, (H44.front 1 rfl).perm (.cons _ (.swap _ _ _))⟩, by omega⟩
      · rw [List.length_append, List.length_singleton] at hsl
        have hcap : s.len ≤ s.cap := (H31.front 1 rfl).own.cap
        have htop := (H31.front 1 rfl).own.top
        refine JOIN_in (CND_dec (fun _ => ?_) fun g => absurd (show (s.len : Int) > 0 by omega) g)
        have e2 : i64 ((s.len : Int) - 1) = ((s.len - 1 : Nat) : Int) := by rw [i64_id (by omega) (by omega)]; omega
        rw [e2, Int.toNat_natCast]
        refine (H31.front 1 rfl).rowCell (j := s.len - 1) (v := .int .i64 id) (by rw [show s.len - 1 = r.length by omega]; simp [ints]) fun a ha hc => ⟨⟨by omega, by omega⟩, id, by rw [Nat.mul_one]; exact hc, ⟨by omega, by omega⟩, fun j => ?_⟩
        have H32 := Sat.rowPop (vs := ints .i64 r) (v := .int .i64 id) (by rw [show ints .i64 r ++ [.int .i64 id] = ints .i64 (r ++ [id]) by simp [ints]]; exact H31.front 1 rfl)
        rw [slB_zero]
        refine JOIN_in (CND_f (e64 _ _ rfl) (CND_f rfl (LKP_sl (H32.front 2 rfl) fun es' _ => ⟨false, ?_, fun j => CND_f rfl (MUPD_sl (H32.front 2 rfl) fun w44 H44 => ?_)⟩)))
        · unfold liveM; rw [hnone]; rfl
        · rw [liveM_keep es.sp] at H44
          exact ⟨⟨i + 1, _, r, rfl, by omega, hR2, (H44.front 2 rfl).perm (.cons _ (.swap _ _ _))⟩, by omega⟩
  · refine hspans_spec hE H6 (fun l hnd hin => ?_) fun s45 l w46 hnd hall H46 => ?_
    · have := nodup_bnd S.fx.n l hnd fun n hn => by
        obtain ⟨a, rfl, ha, _⟩ := (hI.sf n).1 (hin n hn)
        omega
      have := hR.few
      omega
    · obtain ⟨es, c, m, m1, m2, m3⟩ := (H46.front 3 rfl).mapOpen
      refine ⟨es, ⟨c, m1⟩, CND_eq (fun _ => hawake_spec hE.toEnvA (fun w' h => hT.ext (h.old 4 rfl)) H46 fun w48 H48 => hK w48 (H48.old 4 rfl)) fun hne => absurd ?_ hne⟩
      have hsl := H46.rowLen
      simp only [ints, List.length_map] at hsl
      have hp : l.Perm (m.map (·.1)) := (List.perm_ext_iff_of_nodup hnd m2.nodup).2 fun n => by
        rw [hall n]
        have h1 : n ∈ m.map (·.1) ↔ aget m n ≠ none := by rw [Ne, aget_none_iff, Classical.not_not]
        rw [h1, m3]
        unfold liveM
        cases S.sp n <;> simp
      have := hp.length_eq
      rw [List.length_map] at this
      rw [m2.size]
      omega
end
end Go.Sh


namespace Go.Proofs.YtadpgaodjghbnaaGreatDoor.heapRecords
open Go.ChangeShapes Go.WideShapes Go.ChangeAt Go.RowKit
set_option linter.unusedVariables false
set_option linter.unusedSimpArgs false

theorem own : ownKnob Tryz.prog.godebug = none := by kernel_rfl
theorem laidOut : laidOutB Tryz.prog = true := by kernel_rfl
theorem gTab : Tryz.prog.globalNamed "math/bits.deBruijn64tab" = some 0 := by kernel_rfl
theorem gTabType : (Tryz.prog.globals[0]?).map (·.type) = some 184 := by kernel_rfl
theorem und1 : Tryz.prog.underlying 184 = some (.array 64 5) := by kernel_rfl
theorem und2 : Tryz.prog.underlying 5 = some (.int .u8) := by kernel_rfl
theorem cells1 : Tryz.prog.cellsOf 184 = 64 := by kernel_rfl
theorem cells2 : Tryz.prog.cellsOf 5 = 1 := by kernel_rfl

/-- What the row's list gives: the table's cells hold its numbers. -/
theorem table {W : World} (h : laidMetH Tryz.prog Rows.heapRecordsRow.laid W) : Go.Sh.TabAt Go.Sh.env.g_math_bits_deBruijn64tab W := by
  have ht := Lib.tabIs_of_head (rest := []) (k := .u8) (zs := Lib.deBruijn64tab.map fun n : Nat => (n : Int)) gTab gTabType und1 und2 cells2 cells1 h
  intro i hi
  have := ht.cell gTab i (by rw [List.length_map]; exact hi)
  rw [show (Lib.deBruijn64tab.map fun n : Nat => (n : Int)).getD i 0 = ((Lib.deBruijn64tab.getD i 0 : Nat) : Int) by rw [List.getD_eq_getElem?_getD, List.getD_eq_getElem?_getD, List.getElem?_map]; cases Lib.deBruijn64tab[i]? <;> rfl] at this
  exact this

theorem walk (x : Go.Sh.ArgTs [.sl (.int .i64)]) (w : World) (h : Go.Sh.argOks w [.sl (.int .i64)] x) (hT : Go.Sh.TabAt Go.Sh.env.g_math_bits_deBruijn64tab w) :
    Calls Tryz.prog 3 ⟨Go.Sh.argVals [.sl (.int .i64)] x⟩ w fun e w' => e = .returned (.bool true) ∧ Below w.heap.size w w' := by
  obtain ⟨a0, u⟩ := x
  obtain ⟨w0, _⟩ := h
  obtain ⟨z0, w0⟩ := w0
  refine (Go.Sh.fits3 _ w (fun v w' => v = .bool true ∧ Below w.heap.size w w') Go.Sh.noP ?_).2.mono ?_
  · show Go.Sh.F.mallowlaw16_HeapRecords Go.Sh.env a0 (fun r w' => Value.bool r = .bool true ∧ Below w.heap.size w w') w
    exact Go.Sh.records_spec Go.Sh.envH hT w0 fun w' h => ⟨rfl, h.below (Nat.le_refl _) fun _ f => f.elim⟩
  · intro e w' hE
    obtain ⟨v, rfl, rfl, h⟩ := hE.val
    exact ⟨rfl, h⟩

noncomputable def laidWorld (os : Os) : World :=
  { World.holding Tryz.prog os ⟨#[], #[], []⟩ with heap := (World.holding Tryz.prog os ⟨#[], #[], []⟩).heap.modify 0 fun
      | .cells _ t frozen => .cells ⟨Lib.deBruijn64tab.map fun n : Nat => .int .u8 (n : Int)⟩ t frozen
      | o => o }
theorem laid_met (os : Os) : laidMet Tryz.prog Rows.heapRecordsRow.laid ((laidWorld os).forCall (fun _ _ => 0) ⟨#[], #[.slice none 0 0], []⟩).memory :=
  laidMet_of_run' 8 (by kernel_rfl) (by kernel_rfl)
theorem reads (os : Os) {H : Type} (enc : TypeId × Value → H) : ∃ places, DataW.whole enc Tryz.prog ((laidWorld os).forCall (fun _ _ => 0) ⟨#[], #[.slice none 0 0], []⟩).memory Tryz.f3.params.toList Rows.heapRecordsSpec.vars false (#[.slice none 0 0] : Array Value).toList 8 = some ([.nil], [], places) :=
  ⟨[], by kernel_rfl⟩

set_option maxRecDepth 100000 in
theorem lifted (os : Os) (started : os.Started) (H : Type) (enc : TypeId × Value → H) (F : Stop.Interp) :
    ReturnsInHanded {} Tryz.checked os 3 .any ((OpenSpec.ofChange Rows.heapRecordsSpec).preRow enc Tryz.prog Tryz.f3 Rows.heapRecordsRow.domain false Rows.heapRecordsRow.laid) (((OpenSpec.ofChange Rows.heapRecordsSpec).at F).post enc Tryz.prog Tryz.f3 false true false false) := by
  obtain ⟨places, hx⟩ := reads os enc
  refine returnsInHanded_of_row (C := Tryz.checked) (s := OpenSpec.ofChange Rows.heapRecordsSpec) own started (by kernel_rfl) Tryz.func3
    (witness_row_at (enc := enc) (C := Tryz.checked) false (laidWorld os) #[.slice none 0 0] rfl (by kernel_rfl) (by kernel_rfl) (by kernel_rfl)
      (OpenSpec.preRow_of_cond 8 hx (by kernel_rfl) (fun k hk => by cases hk) (by kernel_rfl) (laid_met os))) ?_
  intro W base args ds gs before hval0 hW _ _ _ hL _ _
  have hW' := hW
  obtain ⟨p, q, hA, hV, rfl, hfz, hnd⟩ := hW
  obtain ⟨rfl, rfl⟩ := trodVars_none hV
  have hargs := Go.Sh.args_of (P := Tryz.prog) (shs := [.sl (.int .i64)]) (by kernel_rfl) (fun j t v ht hv => hval0 j t v (by simpa using ht) (by simpa using hv)) hA
  obtain ⟨x, hx, hok⟩ := Go.Sh.argVals_of hargs
  obtain rfl : args = ⟨Go.Sh.argVals [.sl (.int .i64)] x⟩ := Array.toList_inj.1 (by simpa using hx)
  have hlen := Go.Sh.trodAll_len hA
  obtain ⟨d0, rfl⟩ : ∃ d0, ds = [d0] := by
    have hl : ds.length = 1 := hlen
    match ds, hl with
    | [d0], _ => exact ⟨d0, rfl⟩
  refine (walk x W hok (table hL)).mono fun e W' ⟨he, bel⟩ => ?_
  subst he
  exact ⟨_, rfl, _, _, _, [], _, [], hW', trodAll_mk1 (shut_bool Tryz.underlying4 _), Go.Sh.trodAll_below laidOut bel (by kernel_rfl) hA, rfl, bel.frame _, fun h => by cases h⟩

theorem said : Rows.HeapRecordsSaid :=
  OpenClaim.holds_of_cond 3 Tryz.f3 rfl rfl rfl rfl rfl rfl rfl ⟨rfl, rfl, rfl, rfl, rfl⟩ rfl rfl rfl rfl rfl (by kernel_rfl) Tryz.func3 (by kernel_rfl)
    (of_decide_eq_true (by kernel_rfl)) (by unfold Func.isWrapper; first | (rw [if_pos (by decide +kernel)]; kernel_rfl) | (rw [if_neg (by decide +kernel)]; exact ⟨rfl, rfl⟩))
    (fun os started H enc _ F => by rw [OpenClaim.pre_eq_preRow]; exact lifted os started H enc F)

theorem plain (f : FuncId) (fn : Func) (hf : Tryz.pinned.checked.prog.funcNamed "mallow/mallowlaw16.HeapRecords" = some f) (hfn : Tryz.pinned.checked.prog.funcs[f]? = some fn) :
    true = Tryz.pinned.checked.prog.looks [] ∧ ∀ (j : Nat) t, fn.params[j]? = some t → Tryz.pinned.checked.prog.wantsStandIn t = false := by
  obtain rfl : f = 3 := Option.some.inj ((show Tryz.prog.funcNamed "mallow/mallowlaw16.HeapRecords" = some 3 by kernel_rfl).symm.trans hf) |>.symm
  obtain rfl : fn = Tryz.f3 := (Option.some.inj (Tryz.func3.symm.trans hfn)).symm
  refine ⟨by kernel_rfl, fun j t ht => ?_⟩
  have hall : (Tryz.f3.params.toList.all fun t => !(Tryz.prog.wantsStandIn t)) = true := by kernel_rfl
  have := List.all_eq_true.1 hall t (Array.mem_toList_iff.2 (Array.mem_of_getElem? ht))
  exact Bool.not_eq_true' _ ▸ this

/-- ████ THE CARD ████ -/
theorem proved : Rows.HeapRecordsCardSaid :=
  Claim7.holds_tied_plain_at .later [] _ _ _ _ said (fun _ h => by cases h) (by kernel_rfl) (fun _ h => by cases h) heapRecords_row_tie rfl ⟨rfl, rfl⟩ (by kernel_rfl) rfl plain (by kernel_rfl)
#print axioms proved
end Go.Proofs.YtadpgaodjghbnaaGreatDoor.heapRecords

