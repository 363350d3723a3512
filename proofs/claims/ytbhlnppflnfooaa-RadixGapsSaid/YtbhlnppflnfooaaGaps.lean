/- The law RadixGaps holds: for every input the Go function returns true and leaves its arguments alone. No further condition. -/
import Derived.Test.YtbhlnppflnfooaaR
import Derived.Test.YtbhlnppflnfooaaT
import Derived.Test.YtbhlnppflnfooaaA
import Derived.Test.YtbhlnppflnfooaaRows
import Derived.WalkKit
import Derived.ProofKit
import Derived.OpenShut
set_option linter.all false
set_option maxRecDepth 4000
namespace Go.Sh

theorem addL_before {a b c d : Int} (hab : a < b) (hbc : b ≤ c) (hcd : c < d) : addL [(c, d)] a b = if b = c then [(a, d)] else [(a, b), (c, d)] := by
  have h1 : cutL [(c, d)] a b = [(c, d)] := by
    simp only [cutL, cut1, List.append_nil]
    rw [if_neg (by omega), if_pos (by omega), List.nil_append, Int.max_eq_left hbc]
  have h2 : posn [(c, d)] a = 0 := by simp [posn]; omega
  rw [addL, h1, insL, h2]
  by_cases e : b = c
  · subst e; simp [addLo, addHi]
  · rw [if_neg e]; simp [addLo, addHi, Ne.symm e]

section
variable {E : Env} (hE : EnvS E) {w : World}
include hE

theorem gaps_spec {f n : Int} {gap : Bool} (hf : 0 ≤ f ∧ f < 18446744073709551616) (hn : 0 ≤ n ∧ n < 18446744073709551616) {K : Bool → World → Prop} (hK : ∀ w', Ext Nothing w w' → K true w') :
    F.mallowlaw9_RadixGaps E f gap n K w := by
  unfold F.mallowlaw9_RadixGaps
  refine JOIN_intro (fun st w' => w' = w ∧ (st.1 = false → 1 ≤ f ∧ f ≤ 33554432 ∧ 513 ≤ n ∧ n ≤ 1024)) ?_ ?_
  · refine CND_dec (fun _ => ⟨rfl, fun e => by cases e⟩) fun g1 => CND_dec (fun _ => ⟨rfl, fun e => by cases e⟩) fun g2 => CND_dec (fun _ => ⟨rfl, fun e => by cases e⟩) fun g3 => ⟨rfl, fun e => ?_⟩
    have := of_decide_eq_false e
    omega
  rintro ⟨bt, u⟩ _ w3 ⟨rfl, hbt⟩
  simp only at hbt ⊢
  refine CND_intro (fun _ => hK _ (Ext.refl _ _)) (fun e => ?_)
  obtain ⟨g1, g2, g3, g4⟩ := hbt e
  refine tnew_spec fun w5 b G hm5 hl => ?_
  refine CND_intro (fun e => by cases e) (fun _ => ?_)
  refine JOIN_intro (fun st w' => w' = w5 ∧ st.1 = if gap then f + 2 else f + 1) ?_ ?_
  · rw [u64_id (n := f + 1) (by omega) (by omega), u64_id (by omega) (by omega)]
    refine CND_intro (fun e => ⟨rfl, by rw [e, if_pos rfl]; omega⟩) (fun e => ⟨rfl, by rw [e]; rfl⟩)
  rintro ⟨s, u⟩ _ w8 ⟨rfl, hs⟩
  simp only at hs ⊢
  have hs1 : f + 1 ≤ s ∧ s ≤ f + 2 := by rw [hs]; split <;> omega
  have e512 : u64 (f * 512) = f * 512 := u64_id (by omega) (by omega)
  refine JOIN_intro (fun st w' => st.1 = false ∧ ∃ G', TMade E w3 w' b G' ∧ ∀ i, i < 3 → G'.l i = if gap then [(f * 512, f * 512 + 512), (f * 512 + 1024, f * 512 + 1536)] else [(f * 512, f * 512 + 1024)]) ?_ ?_
  · refine grow_spec hE hm5.rep (by omega) (by omega) (by decide) (by decide) (fun h => by omega) (fun _ h => ?_) fun _ _ w13 G13 hs13 hl13 => ?_
    · rw [hl] at h; exact absurd rfl h
    have hm13 := hm5.step hs13
    have l13 : ∀ i, i < 3 → G13.l i = [(s * 512, (s + 1) * 512)] := by
      intro i hi
      have : G13.l i = addL (G.l i) (s * 512) ((s + 1) * 512) := by
        have hi3 : i = 0 ∨ i = 1 ∨ i = 2 := by omega
        rw [hl13]
        rcases hi3 with rfl | rfl | rfl <;> rfl
      rw [this, hl, addL_nil hE]
    refine CND_intro (fun e => by cases e) (fun _ => ?_)
    refine grow_spec hE hm13.rep (by omega) (by omega) (by decide) (by decide) (fun h => by omega) (fun _ h => ?_) fun _ _ w15 G15 hs15 hl15 => ?_
    · exfalso
      rw [l13 0 (by decide)] at h
      apply h
      simp only [cnt, cnt1]; omega
    refine ⟨rfl, G15, hm13.step hs15, fun i hi => ?_⟩
    have : G15.l i = addL (G13.l i) (f * 512) ((f + 1) * 512) := by
      have hi3 : i = 0 ∨ i = 1 ∨ i = 2 := by omega
      rw [hl15]
      rcases hi3 with rfl | rfl | rfl <;> rfl
    rw [this, l13 i hi, addL_before (by omega) (by omega) (by omega), hs]
    cases gap
    · have e1 : (f + 1) * 512 = f * 512 + 512 := by omega
      have e2 : (f + 1 + 1) * 512 = f * 512 + 1024 := by omega
      simp only [Bool.false_eq_true, if_false, if_true, e1, e2]
    · have e0 : (f + 2) * 512 = f * 512 + 1024 := by omega
      have e1 : (f + 1) * 512 = f * 512 + 512 := by omega
      have e2 : (f + 2 + 1) * 512 = f * 512 + 1536 := by omega
      simp only [if_true, e0, e1, e2]
      rw [if_neg (by omega)]
  rintro ⟨bt2, u⟩ _ w11 ⟨hb2, G11, hm11, hl11⟩
  simp only at hb2
  subst hb2
  refine CND_intro (fun e => by cases e) (fun _ => ?_)
  have hn0 : n ≠ 0 := by omega
  refine find_spec hm11.rep hn.1 fun w18 hw18 => ?_
  have hm18 := hm11.nothing hw18
  rw [if_neg hn0, hl11 1 (by decide)]
  cases gap
  · simp only [Bool.false_eq_true, if_false] at hl11 ⊢
    have hf1 : findL [(f * 512, f * 512 + 1024)] n = some (f * 512) := by simp only [findL]; rw [if_pos (by omega)]
    rw [hf1]
    refine alloc_spec hE hm18.rep hn.1 hn.2 (fun h => absurd h hn0) (fun _ h => by rw [hl11 1 (by decide), hf1] at h; cases h) fun _ p hp w22 G22 hs22 hl22 => ?_
    rw [hl11 1 (by decide), hf1] at hp; cases hp
    have hm22 := hm18.step hs22
    refine CND_intro (fun e => by cases e) (fun _ => CND_intro (fun _ => ?_) (fun e => by cases e))
    rw [e512]
    refine CND_intro (fun _ => ?_) (fun e => by simp at e)
    refine CND_intro (fun _ => ?_) (fun e => by cases e)
    refine free_spec hm22.rep ?_
    have e : G22.l 1 = cutL (G11.l 1) (f * 512) (f * 512 + n) := by rw [hl22]; rfl
    rw [e, tot_cutL (hm11.rep.sets.sets 1 (by decide)).row.ok (by omega), hl11 1 (by decide), u64_id (by omega) (by omega)]
    refine CND_intro (fun _ => ?_) (fun e => ?_)
    · exact rawake_spec hE fun w' hw' => hK _ (hm22.ext.trans' hw')
    · exfalso
      have : ¬ (tot [(f * 512, f * 512 + 1024)] - cnt [(f * 512, f * 512 + 1024)] (f * 512) (f * 512 + n) = 1024 - n) := by simpa using e
      apply this
      simp only [tot, cnt, cnt1]; omega
  · simp only [if_true] at hl11 ⊢
    have hf1 : findL [(f * 512, f * 512 + 512), (f * 512 + 1024, f * 512 + 1536)] n = none := by simp only [findL]; rw [if_neg (by omega), if_neg (by omega)]
    rw [hf1]
    refine alloc_spec hE hm18.rep hn.1 hn.2 (fun h => absurd h hn0) (fun _ _ w22 hw22 => ?_) fun _ p hp => by rw [hl11 1 (by decide), hf1] at hp; cases hp
    have hm22 := hm18.nothing hw22
    refine CND_intro (fun _ => ?_) (fun e => by cases e)
    rw [e512, u64_id (n := f * 512 + 511) (by omega) (by omega)]
    have hlk : lookedR G11.l (f * 512 + 511) 2 true 32 = 10 := by
      unfold lookedR
      rw [if_pos]
      right; right; right
      rw [hl11 0 (by decide)]
      simp only [cnt, cnt1]; omega
    refine take_spec hE hm22.rep (by omega) (by omega) (by decide) (by decide) (fun _ w25 hw25 => ?_) (fun h => by rw [hlk] at h; cases h)
    have hm25 := hm22.nothing hw25
    rw [hlk]
    refine CND_intro (fun _ => ?_) (fun e => by cases e)
    refine CND_intro (fun _ => ?_) (fun e => by cases e)
    refine CND_intro (fun _ => ?_) (fun e => by cases e)
    refine free_spec hm25.rep ?_
    have ht : tot (G11.l 1) = 1024 := by rw [hl11 1 (by decide)]; simp only [tot]; omega
    rw [ht]
    refine CND_intro (fun _ => ?_) (fun e => by cases e)
    exact rawake_spec hE fun w' hw' => hK _ (hm25.ext.trans' hw')

end
end Go.Sh

namespace Go.Proofs.Ytbhlnppflnfooaa.radixGaps
open Go.ChangeShapes Go.WideShapes Go.ChangeAt Go.RowKit
set_option linter.unusedVariables false
set_option linter.unusedSimpArgs false

theorem own : ownKnob Try.prog.godebug = none := by kernel_rfl
theorem laidOut : laidOutB Try.prog = true := by kernel_rfl

theorem walk (x : Go.Sh.ArgTs [.int .u64, .bool, .int .u64]) (w : World) (h : Go.Sh.argOks w [.int .u64, .bool, .int .u64] x) :
    Calls Try.prog 3 ⟨Go.Sh.argVals [.int .u64, .bool, .int .u64] x⟩ w fun e w' => e = .returned (.bool true) ∧ Below w.heap.size w w' := by
  obtain ⟨a0, a1, a2, u⟩ := x
  obtain ⟨w0, w1, w2, _⟩ := h
  refine (Go.Sh.fits3 _ w (fun v w' => v = .bool true ∧ Below w.heap.size w w') ?_).2.mono ?_
  · show Go.Sh.F.mallowlaw9_RadixGaps Go.Sh.env a0 a1 a2 (fun r w' => Value.bool r = .bool true ∧ Below w.heap.size w w') w
    exact Go.Sh.gaps_spec Go.Sh.envS (Go.Sh.u64_wf w0) (Go.Sh.u64_wf w2) fun w' h => ⟨rfl, h.below (Nat.le_refl _) fun _ f => f.elim⟩
  · rintro e w' ⟨v, rfl, rfl, h⟩; exact ⟨rfl, h⟩

set_option maxRecDepth 100000 in
theorem lifted (os : Os) (started : os.Started) (H : Type) (enc : TypeId × Value → H) :
    ReturnsInHanded {} Try.checked os 3 .any (Rows.radixGapsSpec.pre6 enc Try.prog Try.f3 Rows.radixGapsRow.domain false) (Rows.radixGapsSpec.post enc Try.prog Try.f3 false true false false) := by
  refine returnsInHanded_of_change (C := Try.checked) own started (by kernel_rfl) Try.func3
    (ChangeSpec.witness6 (enc := enc) (C := Try.checked) false ⟨#[], #[.int .u64 0, .bool false, .int .u64 0], []⟩ 8 (by kernel_rfl) (by kernel_rfl) (by kernel_rfl) (by kernel_rfl)) ?_
  intro W base args ds gs before hval0 hW hcnd _
  have hW' := hW
  obtain ⟨p, q, hA, hV, rfl, hfz, hnd⟩ := hW
  obtain ⟨rfl, rfl⟩ := trodVars_none hV
  have hargs := Go.Sh.args_of (P := Try.prog) (shs := [.int .u64, .bool, .int .u64]) (by kernel_rfl) (fun j t v ht hv => hval0 j t v (by simpa using ht) (by simpa using hv)) hA
  obtain ⟨x, hx, hok⟩ := Go.Sh.argVals_of hargs
  obtain rfl : args = ⟨Go.Sh.argVals [.int .u64, .bool, .int .u64] x⟩ := Array.toList_inj.1 (by simpa using hx)
  have hlen := Go.Sh.trodAll_len hA
  obtain ⟨d0, d1, d2, rfl⟩ : ∃ d0 d1 d2, ds = [d0, d1, d2] := by
    have hl : ds.length = 3 := hlen
    match ds, hl with
    | [d0, d1, d2], _ => exact ⟨d0, d1, d2, rfl⟩
  refine (walk x W hok).mono fun e W' ⟨he, bel⟩ => ?_
  subst he
  exact ⟨_, rfl, _, _, _, [], _, [], hW', trodAll_mk1 (shut_bool Try.underlying4 _), Go.Sh.trodAll_below laidOut bel (by kernel_rfl) hA, rfl, bel.frame _, fun h => by cases h⟩

theorem over : Rows.radixGapsRow.holds Try.pinned (OpenSpec.ofChange Rows.radixGapsSpec) :=
  OpenClaim.holds_of_wide 3 Try.f3 rfl rfl rfl rfl rfl rfl rfl ⟨rfl, rfl, rfl, rfl, rfl⟩ rfl rfl rfl rfl rfl (by kernel_rfl) Try.func3 (by kernel_rfl)
    (of_decide_eq_true (by kernel_rfl)) (by unfold Func.isWrapper; first | (rw [if_pos (by decide +kernel)]; kernel_rfl) | (rw [if_neg (by decide +kernel)]; exact ⟨rfl, rfl⟩))
    (fun os started H enc _ => lifted os started H enc)

/-- ████ THE STATEMENT ████ -/
theorem proved : Rows.RadixGapsSaid := over
#print axioms proved
end Go.Proofs.Ytbhlnppflnfooaa.radixGaps
