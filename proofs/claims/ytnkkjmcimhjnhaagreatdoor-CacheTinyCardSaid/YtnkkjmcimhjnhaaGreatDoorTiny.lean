/- The law CacheTiny holds (its card: math/bits' table as the program's text lays it): for every input the Go function returns true and leaves its arguments alone. No further condition. -/
import Derived.Test.YtnkkjmcimhjnhaaGreatDoorY
import Derived.Test.YtnkkjmcimhjnhaaGreatDoorA
import Derived.Test.YtnkkjmcimhjnhaaGreatDoorCards
import Derived.Test.YtnkkjmcimhjnhaaGreatDoorTie
import Derived.WalkKit
import Derived.ProofKit
import Derived.OpenShut
import Derived.Deep.DeepHandedRow
import Derived.Lib.LaidTab
set_option linter.all false
set_option maxRecDepth 8000
set_option maxHeartbeats 8000000
namespace Go.Sh

theorem cls2t : clsAt 2 = (16, 1, 512, 268435456) := by decide +kernel

def TinyIn (W : SW) (U : Bits) (t : Int) : Prop := t = 0 ∨ ∃ id x, ∃ n : Nat, W.S.sp id = some x ∧ x.2.cls = 2 ∧ (n : Int) < x.2.slots ∧ U id n = true ∧ t = x.2.base + n * x.2.elem

theorem TinyIn.grow {W W' : SW} {U U' : Bits} {t : Int} (h : TinyIn W U t) (hg : Grow W U W' U') : TinyIn W' U' t := by
  rcases h with h | ⟨id, x, n, hx, hc, hn, hu, ht⟩
  · exact .inl h
  · obtain ⟨⟨x', h1, h2, h3, h4, h5⟩, h6⟩ := hg id x hx
    exact .inr ⟨id, x', n, h1, h5.trans hc, by rw [h4]; exact hn, h6 n hu, by rw [h2, h3]; exact ht⟩
theorem Served.tin {W W' : SW} {U U' : Bits} {a : Int} (h : Served W U W' U' 2 a) : TinyIn W' U' a := by
  obtain ⟨id, x, n, h1, h2, h3, h4, h5, _⟩ := h
  exact .inr ⟨id, x, n, h1, h2, h3, h4, h5⟩

theorem Served.apart {W W' : SW} {U U' M' : Bits} {k a : Int} (hI : SwInv W' U' M') (h : Served W U W' U' k a) (hk : 0 < k) (hg : Grow W U W' U') {id : Int} {x : Nat × SI} {n : Nat} (hx : W.S.sp id = some x) (hn : (n : Int) < x.2.slots) (hu : U id n = true) :
    a + (clsAt k).1 ≤ x.2.base + n * x.2.elem ∨ x.2.base + n * x.2.elem + x.2.elem ≤ a := by
  obtain ⟨j, y, m, hy, hc, hm, hum, rfl, hor⟩ := h
  obtain ⟨⟨x', h1, h2, h3, h4, _⟩, h6⟩ := hg id x hx
  have hok := (hI.sp j y hy).1
  have he : y.2.elem = (clsAt k).1 := by have := hok.el; rw [if_neg (by omega), hc] at this; exact this
  have hne : ¬ (j = id ∧ m = n) := fun e => by
    rcases hor with q | q
    · rw [e.1, hx] at q; cases q
    · rw [e.1, e.2, hu] at q; cases q
  have := slots_apart hI hy h1 hm (by rw [h4]; exact hn) hne
  rw [h2, h3, he] at this
  rw [he]; exact this

section
variable {E : Env} {w : World} {Rs Z : List Pr} {cb b h s r : Nat} (hE : EnvK E)
include hE

theorem tiny_spec (hT : TabAt E.g_math_bits_deBruijn64tab w) {a0 : SlV} {z0 : Nat → Int} (h0 : RowA w (.int .i64) a0 z0) {K : Bool → World → Prop} (hK : ∀ w', Ext Nothing w w' → K true w') : F.mallowlaw20_CacheTiny E a0 K w := by
  unfold F.mallowlaw20_CacheTiny T0.mallowlaw20_CacheTiny
  refine CND_dec (fun _ => hK w (Ext.refl _ _)) fun hlen => ?_
  have hTT : ∀ {Y : List Pr} {w'} (i : Nat), Sat Y w' → Y[i]? = some (Old w) → TabAt E.g_math_bits_deBruijn64tab w' := fun i h hi => hT.ext (h.old i hi)
  have haw : ∀ {Y : List Pr} {w'} (i : Nat), Sat Y w' → Y[i]? = some (Old w) → F.mallowlaw20_awake E (fun r6 w7 => K r6 w7) w' := fun i h' hi => awake20_spec hE (fun w' h => hTT i h hi) h' fun w7 H7 => hK w7 (H7.old i hi)
  refine fresh20_nil (E := E) (Sat.start w) fun cb b h s r w2 H2 => CND_f rfl (kanew_spec (p := 0) H2 fun c w4 H4 => CND_f rfl ?_)
  obtain ⟨D, hD⟩ : ∃ D : KS, D = ⟨0, fun _ => 0, 0, 0⟩ := ⟨_, rfl⟩
  have hDz : ∀ k np, D.held k np = 0 := fun k np => by rw [hD]; unfold KS.held; split <;> rfl
  have hA0 : KAll (SW.new (HS.new (newV [] [] []))) 0 D D := ⟨⟨fun x hx => (by cases hx), fun x hx => (by cases hx), rfl, Int.le_refl _, by decide⟩, ⟨512, LaidB.new [], by decide⟩, Nat.le_refl _, fun k np => .inl (hDz k np), fun k np => .inl (hDz k np), fun k np g => absurd (hDz k np) g⟩
  have H4' : Sat (KashP E c cb D :: CentP E cb b h s r (SW.new (HS.new (newV [] [] []))) :: [Old w]) w4 := by rw [hD]; exact H4
  refine LOOP_intro (fun st w' => ∃ (i : Nat) (C : KS) (W : SW) (U M : Bits), st.2.2.1 = (i : Int) ∧ i ≤ a0.len ∧ C.tiny = st.1 ∧ C.away = st.2.1 ∧ (0 ≤ C.away ∧ C.away ≤ 16) ∧ TinyIn W U C.tiny ∧ (0 ≤ C.tiny ∧ C.tiny ≤ 281474976710640) ∧ SwInv W U M ∧ KAll W (2 * i) C D ∧ Sat (KashP E c cb C :: CentP E cb b h s r W :: [Old w]) w') (fun st _ => ((a0.len : Int) - st.2.2.1).toNat)
    ⟨0, D, _, _, _, rfl, Nat.zero_le _, by rw [hD], by rw [hD], by rw [hD]; decide, .inl (by rw [hD]), by rw [hD]; decide, SwInv.new [] [] [], hA0, H4'⟩ ?_
  rintro ⟨tn, aw, i', u⟩ _ w6 ⟨i, C, W, U, M, hi, hil, htn, haw', hab, hti, htb, hI, hA, H6⟩
  dsimp only at hi htn haw' ⊢
  subst hi htn haw'
  refine CND_dec (fun hlt => ?_) fun hge => haw 2 H6 rfl
  have hi1 : i64 ((i : Int) + 1) = ((i + 1 : Nat) : Int) := by rw [i64_id (by omega) (by omega)]; rfl
  rw [hi1]
  obtain ⟨q, hq, hcell, _⟩ := h0.cell1 (show i < a0.len by omega)
  have rd : ∀ {Y : List Pr} {w'} (m : Nat), Sat Y w' → Y[m]? = some (Old w) → w'.cell? (q.add (Int.toNat (i : Int) * 1)) = some (.int .i64 (z0 i)) := fun m h' hm => by
    rw [Int.toNat_natCast, Nat.mul_one]; exact (h'.old m hm).cell hcell fun f => f
  have hri : (0 : Int) ≤ (i : Int) ∧ (i : Int) < (a0.len : Nat) := ⟨by omega, by omega⟩
  rw [hq]
  refine NC_in ⟨hri, z0 i, rd 2 H6 rfl, ?_⟩
  generalize z0 i = x at rd
  refine katinyS_spec hE (fun w' h' => hTT 0 h' rfl) (n := 2 * i) (by omega) H6 hI hA hab ⟨htb.1, by omega⟩ fun a nw e C' W' U' M' hres hI' hA' hgr w13 H13 => ?_
  refine JOIN_intro (fun st w' => w' = w13 ∧ (st.1 = true ↔ ¬ (1 ≤ x ∧ x < 16))) (NC_in ⟨hri, x, rd 2 H13 rfl, CND_dec (fun g => ⟨rfl, by simp; omega⟩) fun g => NC_in ⟨hri, x, rd 2 H13 rfl, rfl, by simp; omega⟩⟩) ?_
  rintro ⟨st, u⟩ _ w16 ⟨rfl, hst⟩
  dsimp only at hst ⊢
  refine CND_intro (fun g => ?_) fun g => ?_
  · have hbad := hst.1 g
    rcases hres with ⟨_, rfl, rfl, rfl, rfl, rfl, rfl⟩ | ⟨g2, _⟩ | ⟨g2, _⟩
    · exact JOIN_in (CND_f rfl (CND_f rfl fun j => CND_f rfl ⟨⟨i + 1, _, _, _, _, rfl, by omega, rfl, rfl, hab, hti, htb, hI', hA'.mono (by omega), H13⟩, by omega⟩))
    · exact absurd g2 hbad
    · exact absurd g2 hbad
  have hx : 1 ≤ x ∧ x < 16 := Classical.byContradiction fun e => by rw [hst.2 e] at g; cases g
  refine NC_in ⟨hri, x, rd 2 H13 rfl, ?_⟩
  have hb := offT_bnd C.away x
  have hac := alT_cases x
  have hux : u64 x = x := u64_id (by omega) (by omega)
  rw [hux]
  have x8 : Int.tmod x 8 = x % 8 := Int.tmod_eq_emod_of_nonneg (by omega)
  have x4 : Int.tmod x 4 = x % 4 := Int.tmod_eq_emod_of_nonneg (by omega)
  have x2 : Int.tmod x 2 = x % 2 := Int.tmod_eq_emod_of_nonneg (by omega)
  rw [x8, x4, x2]
  refine JOIN_intro (fun st w' => w' = w16 ∧ st.1 = offT C.away x) ?_ ?_
  · refine LOOP_intro (fun st w' => w' = w16 ∧ C.away ≤ st.1 ∧ st.1 ≤ offT C.away x) (fun st _ => (offT C.away x - st.1).toNat) ⟨rfl, Int.le_refl _, hb.1⟩ ?_
    rintro ⟨o, u⟩ _ w30 ⟨rfl, ho1, ho2⟩
    dsimp only at ho1 ho2 ⊢
    have o8 : Int.tmod o 8 = o % 8 := Int.tmod_eq_emod_of_nonneg (by omega)
    have o4 : Int.tmod o 4 = o % 4 := Int.tmod_eq_emod_of_nonneg (by omega)
    have o2 : Int.tmod o 2 = o % 2 := Int.tmod_eq_emod_of_nonneg (by omega)
    rw [o8, o4, o2]
    refine JOIN_intro (fun _ w' => w' = w30 ∧ o + 1 ≤ offT C.away x) ?_ ?_
    · refine ⟨by decide, ?_⟩
      repeat' first
        | (refine And.intro (by decide) ?_)
        | (refine CND_eq (fun _ => ?_) fun _ => ?_)
        | (refine CND_ne (fun _ => ?_) fun _ => ?_)
        | (exact ⟨rfl, off_go ho2 (by omega)⟩)
        | (exact ⟨rfl, off_end ho1 ho2 (by omega) (by omega) (by omega)⟩)
    · rintro _ _ w34 ⟨rfl, ho3⟩
      have : u64 (o + 1) = o + 1 := u64_id (by omega) (by omega)
      rw [this]
      exact ⟨⟨rfl, by omega, ho3⟩, by omega⟩
  · rintro ⟨o, u⟩ _ w28 ⟨rfl, ho⟩
    dsimp only at ho ⊢
    subst ho
    have hu1 : u64 (offT C.away x + x) = offT C.away x + x := u64_id (by omega) (by omega)
    have hu2 : u64 (C.tiny + offT C.away x) = C.tiny + offT C.away x := u64_id (by omega) (by omega)
    rw [hu1, hu2]
    rcases hres with ⟨hbad, _⟩ | ⟨_, g0, g1, rfl, rfl, rfl, ht, hw, rfl, rfl⟩ | ⟨_, g1, rfl, rfl, hsv, hbg⟩
    · exact absurd hx hbad
    · refine JOIN_in (CND_f rfl (CND_eq (fun e => absurd e g0) fun _ j => CND_f (by simp; omega) (CND_t rfl (CND_ne (fun e => absurd rfl e) fun _ => LET_intro fun gv hgv => ?_))))
      exact ⟨⟨i + 1, C', _, _, _, rfl, by omega, ht, by rw [hgv]; exact hw, by rw [hw]; omega, by rw [ht]; exact hti, by rw [ht]; exact htb, hI', hA'.mono (by omega), H13⟩, by omega⟩
    · have hadr := served_addr hI' (by decide) hA' hsv
      rw [cls2t] at hadr
      have ha16 : Int.tmod a 16 = 0 := by rw [Int.tmod_eq_emod_of_nonneg (by omega)]; exact hadr.2.2.2 (by decide)
      have hne : a ≠ C.tiny := by
        rcases hti with h | ⟨id, y, m, hy, hc, hm, hum, hty⟩
        · omega
        · have h1 := hsv.apart hI' (by decide) hgr hy hm hum
          have h2 := (hI'.sp _ _ (hgr id y hy).1.choose_spec.1).1.size
          rw [(hgr id y hy).1.choose_spec.2.2.1] at h2
          rw [cls2t] at h1
          rw [hty]; omega
      refine JOIN_in (CND_f rfl ?_)
      have fl : ∀ q : Bool, q = true → (!(true == q), ()).1 = false := fun q hq => by rw [hq]; rfl
      have tl : ∀ {T1 T2 : Prop}, T2 → CND (!(true : Bool)) T1 T2 := fun h => CND_f rfl h
      refine CND_eq (fun e0 j => CND_f rfl (tl ?_)) fun e0 j => CND_f (fl _ (decide_eq_true (by omega))) (tl ?_)
      all_goals
        refine JOIN_intro (fun st w' => w' = w28 ∧ st.1 = false) ⟨by decide, CND_f (by rw [ha16]; rfl) ⟨rfl, by simpa using hne⟩⟩ ?_
        rintro ⟨s40, u⟩ _ w41 ⟨rfl, h40⟩
        refine CND_f h40 ?_
        refine JOIN_intro (fun st w' => w' = w41 ∧ (st.1 = true ↔ (C.tiny = 0 ∨ x < C.away))) (CND_eq (fun e => ⟨rfl, by simp [e]⟩) fun e => ⟨rfl, by simp [e]⟩) ?_
        rintro ⟨s43, u⟩ _ w44 ⟨rfl, h43⟩
        dsimp only at h43 ⊢
        rcases hbg with ⟨q, h1, h2⟩ | ⟨q, h1, h2⟩
        · refine CND_t (h43.2 q) ?_
          exact ⟨⟨i + 1, C', _, _, _, rfl, by omega, h1, h2, by rw [h2]; omega, by rw [h1]; exact hsv.tin, by rw [h1]; omega, hI', hA'.mono (by omega), H13⟩, by omega⟩
        · refine CND_f (by cases hs : s43 with | true => exact absurd (h43.1 hs) q | false => rfl) ?_
          exact ⟨⟨i + 1, C', _, _, _, rfl, by omega, h1, h2, by rw [h2]; exact hab, by rw [h1]; exact hti.grow hgr, by rw [h1]; exact htb, hI', hA'.mono (by omega), H13⟩, by omega⟩
end
end Go.Sh


namespace Go.Proofs.YtnkkjmcimhjnhaaGreatDoor.cacheTiny
open Go.ChangeShapes Go.WideShapes Go.ChangeAt Go.RowKit
set_option linter.unusedVariables false
set_option linter.unusedSimpArgs false

theorem own : ownKnob Tryz.prog.godebug = none := by kernel_rfl
theorem laidOut : laidOutB Tryz.prog = true := by kernel_rfl
theorem gTab : Tryz.prog.globalNamed "math/bits.deBruijn64tab" = some 0 := by kernel_rfl
theorem gTabType : (Tryz.prog.globals[0]?).map (·.type) = some 192 := by kernel_rfl
theorem und1 : Tryz.prog.underlying 192 = some (.array 64 5) := by kernel_rfl
theorem und2 : Tryz.prog.underlying 5 = some (.int .u8) := by kernel_rfl
theorem cells1 : Tryz.prog.cellsOf 192 = 64 := by kernel_rfl
theorem cells2 : Tryz.prog.cellsOf 5 = 1 := by kernel_rfl

theorem table {W : World} (h : laidMetH Tryz.prog Rows.cacheTinyRow.laid W) : Go.Sh.TabAt Go.Sh.env.g_math_bits_deBruijn64tab W := by
  have ht := Lib.tabIs_of_head (rest := []) (k := .u8) (zs := Lib.deBruijn64tab.map fun n : Nat => (n : Int)) gTab gTabType und1 und2 cells2 cells1 h
  intro i hi
  have := ht.cell gTab i (by rw [List.length_map]; exact hi)
  rw [show (Lib.deBruijn64tab.map fun n : Nat => (n : Int)).getD i 0 = ((Lib.deBruijn64tab.getD i 0 : Nat) : Int) by rw [List.getD_eq_getElem?_getD, List.getD_eq_getElem?_getD, List.getElem?_map]; cases Lib.deBruijn64tab[i]? <;> rfl] at this
  exact this

theorem walk (x : Go.Sh.ArgTs [.sl (.int .i64)]) (w : World) (h : Go.Sh.argOks w [.sl (.int .i64)] x) (hT : Go.Sh.TabAt Go.Sh.env.g_math_bits_deBruijn64tab w) :
    Calls Tryz.prog 6 ⟨Go.Sh.argVals [.sl (.int .i64)] x⟩ w fun e w' => e = .returned (.bool true) ∧ Below w.heap.size w w' := by
  obtain ⟨a0, u⟩ := x
  obtain ⟨w0, _⟩ := h
  obtain ⟨z0, w0⟩ := w0
  refine (Go.Sh.fits6 _ w (fun v w' => v = .bool true ∧ Below w.heap.size w w') Go.Sh.noP ?_).2.mono ?_
  · show Go.Sh.F.mallowlaw20_CacheTiny Go.Sh.env a0 (fun r w' => Value.bool r = .bool true ∧ Below w.heap.size w w') w
    exact Go.Sh.tiny_spec Go.Sh.envK hT w0 fun w' h => ⟨rfl, h.below (Nat.le_refl _) fun _ f => f.elim⟩
  · intro e w' hE
    obtain ⟨v, rfl, rfl, h⟩ := hE.val
    exact ⟨rfl, h⟩

noncomputable def laidWorld (os : Os) : World :=
  { World.holding Tryz.prog os ⟨#[], #[], []⟩ with heap := (World.holding Tryz.prog os ⟨#[], #[], []⟩).heap.modify 0 fun
      | .cells _ t frozen => .cells ⟨Lib.deBruijn64tab.map fun n : Nat => .int .u8 (n : Int)⟩ t frozen
      | o => o }
theorem laid_met (os : Os) : laidMet Tryz.prog Rows.cacheTinyRow.laid ((laidWorld os).forCall (fun _ _ => 0) ⟨#[], #[.slice none 0 0], []⟩).memory :=
  laidMet_of_run' 8 (by kernel_rfl) (by kernel_rfl)
theorem reads (os : Os) {H : Type} (enc : TypeId × Value → H) : ∃ places, DataW.whole enc Tryz.prog ((laidWorld os).forCall (fun _ _ => 0) ⟨#[], #[.slice none 0 0], []⟩).memory Tryz.f6.params.toList Rows.cacheTinySpec.vars false (#[.slice none 0 0] : Array Value).toList 8 = some ([.nil], [], places) :=
  ⟨[], by kernel_rfl⟩

set_option maxRecDepth 100000 in
theorem lifted (os : Os) (started : os.Started) (H : Type) (enc : TypeId × Value → H) (F : Stop.Interp) :
    ReturnsInHanded {} Tryz.checked os 6 .any ((OpenSpec.ofChange Rows.cacheTinySpec).preRow enc Tryz.prog Tryz.f6 Rows.cacheTinyRow.domain false Rows.cacheTinyRow.laid) (((OpenSpec.ofChange Rows.cacheTinySpec).at F).post enc Tryz.prog Tryz.f6 false true false false) := by
  obtain ⟨places, hx⟩ := reads os enc
  refine returnsInHanded_of_row (C := Tryz.checked) (s := OpenSpec.ofChange Rows.cacheTinySpec) own started (by kernel_rfl) Tryz.func6
    (witness_row_at (enc := enc) (C := Tryz.checked) false (laidWorld os) #[.slice none 0 0] rfl (by kernel_rfl) (by kernel_rfl) (by kernel_rfl)
      (OpenSpec.preRow_of_cond 8 hx (by kernel_rfl) (fun k hk => by cases hk) (by kernel_rfl) (laid_met os))) ?_
  intro W base args ds gs before hval0 hW _ _ _ hL _ _
  have hW' := hW
  obtain ⟨p, q, hA, hV, rfl, hfz, hnd⟩ := hW
  obtain ⟨rfl, rfl⟩ := trodVars_none hV
  have hargs := Go.Sh.args_of (P := Tryz.prog) (shs := [.sl (.int .i64)]) (by kernel_rfl) (fun j t v ht hv => hval0 j t v (by simpa using ht) (by simpa using hv)) hA
  obtain ⟨x, hx, hok⟩ := Go.Sh.argVals_of hargs
  obtain rfl : args = ⟨Go.Sh.argVals [.sl (.int .i64)] x⟩ := Array.toList_inj.1 (by simpa using hx)
  have hlen := Go.Sh.trodAll_len hA
  obtain ⟨d0, rfl⟩ : ∃ d0, ds = [d0] := by
    have hl : ds.length = 1 := hlen
    match ds, hl with
    | [d0], _ => exact ⟨d0, rfl⟩
  refine (walk x W hok (table hL)).mono fun e W' ⟨he, bel⟩ => ?_
  subst he
  exact ⟨_, rfl, _, _, _, [], _, [], hW', trodAll_mk1 (shut_bool Tryz.underlying4 _), Go.Sh.trodAll_below laidOut bel (by kernel_rfl) hA, rfl, bel.frame _, fun h => by cases h⟩

theorem said : Rows.CacheTinySaid :=
  OpenClaim.holds_of_cond 6 Tryz.f6 rfl rfl rfl rfl rfl rfl rfl ⟨rfl, rfl, rfl, rfl, rfl⟩ rfl rfl rfl rfl rfl (by kernel_rfl) Tryz.func6 (by kernel_rfl)
    (of_decide_eq_true (by kernel_rfl)) (by unfold Func.isWrapper; first | (rw [if_pos (by decide +kernel)]; kernel_rfl) | (rw [if_neg (by decide +kernel)]; exact ⟨rfl, rfl⟩))
    (fun os started H enc _ F => by rw [OpenClaim.pre_eq_preRow]; exact lifted os started H enc F)

theorem plain (f : FuncId) (fn : Func) (hf : Tryz.pinned.checked.prog.funcNamed "mallow/mallowlaw20.CacheTiny" = some f) (hfn : Tryz.pinned.checked.prog.funcs[f]? = some fn) :
    true = Tryz.pinned.checked.prog.looks [] ∧ ∀ (j : Nat) t, fn.params[j]? = some t → Tryz.pinned.checked.prog.wantsStandIn t = false := by
  obtain rfl : f = 6 := Option.some.inj ((show Tryz.prog.funcNamed "mallow/mallowlaw20.CacheTiny" = some 6 by kernel_rfl).symm.trans hf) |>.symm
  obtain rfl : fn = Tryz.f6 := (Option.some.inj (Tryz.func6.symm.trans hfn)).symm
  refine ⟨by kernel_rfl, fun j t ht => ?_⟩
  have hall : (Tryz.f6.params.toList.all fun t => !(Tryz.prog.wantsStandIn t)) = true := by kernel_rfl
  have := List.all_eq_true.1 hall t (Array.mem_toList_iff.2 (Array.mem_of_getElem? ht))
  exact Bool.not_eq_true' _ ▸ this

theorem proved : Rows.CacheTinyCardSaid :=
  Claim7.holds_tied_plain_at .later [] _ _ _ _ said (fun _ h => by cases h) (by kernel_rfl) (fun _ h => by cases h) cacheTiny_row_tie rfl ⟨rfl, rfl⟩ (by kernel_rfl) rfl plain (by kernel_rfl)
#print axioms proved
end Go.Proofs.YtnkkjmcimhjnhaaGreatDoor.cacheTiny

