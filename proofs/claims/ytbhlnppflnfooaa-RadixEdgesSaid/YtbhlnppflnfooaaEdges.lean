/- The law RadixEdges holds: for every input the Go function returns true and leaves its arguments alone. No further condition. -/
import Derived.Test.YtbhlnppflnfooaaR
import Derived.Test.YtbhlnppflnfooaaT
import Derived.Test.YtbhlnppflnfooaaA
import Derived.Test.YtbhlnppflnfooaaRows
import Derived.WalkKit
import Derived.ProofKit
import Derived.OpenShut
set_option linter.all false
set_option maxRecDepth 4000
namespace Go.Sh

section
variable {E : Env} (hE : EnvS E) {w : World}
include hE

theorem edges_spec {n k : Int} (hn : 0 ≤ n ∧ n < 18446744073709551616) (hk : 0 ≤ k ∧ k < 18446744073709551616) {K : Bool → World → Prop} (hK : ∀ w', Ext Nothing w w' → K true w') :
    F.mallowlaw9_RadixEdges E n k K w := by
  unfold F.mallowlaw9_RadixEdges
  refine JOIN_intro (fun st w' => w' = w ∧ (st.1 = false → 1 ≤ n ∧ n ≤ 20 ∧ 1 ≤ k ∧ k ≤ n * 512)) ?_ ?_
  · refine CND_dec (fun _ => ⟨rfl, fun e => by cases e⟩) fun g1 => CND_dec (fun _ => ⟨rfl, fun e => by cases e⟩) fun g2 => CND_dec (fun _ => ⟨rfl, fun e => by cases e⟩) fun g3 => ⟨rfl, fun e => ?_⟩
    have := of_decide_eq_false e
    rw [u64_id (by omega) (by omega)] at this
    omega
  rintro ⟨bt, u⟩ _ w3 ⟨rfl, hbt⟩
  simp only at hbt ⊢
  refine CND_intro (fun _ => hK _ (Ext.refl _ _)) (fun e => ?_)
  obtain ⟨g1, g2, g3, g4⟩ := hbt e
  refine tnew_spec fun w5 b G hm5 hl => ?_
  refine CND_intro (fun e => by cases e) (fun _ => ?_)
  have e1 : u64 (67108864 - n) = 67108864 - n := u64_id (by omega) (by omega)
  have e2 : u64 (n + 1) = n + 1 := u64_id (by omega) (by omega)
  have e3 : u64 (512 * n) = 512 * n := u64_id (by omega) (by omega)
  have e4 : u64 (34359738368 - 512 * n) = 34359738368 - 512 * n := u64_id (by omega) (by omega)
  have e5 : u64 (512 * n - k) = 512 * n - k := u64_id (by omega) (by omega)
  have e6 : u64 (512 * n - k + 1) = 512 * n - k + 1 := u64_id (by omega) (by omega)
  have e7 : u64 (34359738368 - 512 * n + k) = 34359738368 - 512 * n + k := u64_id (by omega) (by omega)
  rw [e1, e2, e3, e4, e5, e6]
  have hab : 34359738368 - 512 * n < 34359738368 := by omega
  refine JOIN_intro (fun st w' => st.1 = false ∧ ∃ G', TMade E w3 w' b G' ∧ ∀ i, i < 3 → G'.l i = [(34359738368 - 512 * n, 34359738368)]) ?_ ?_
  · refine grow_spec hE hm5.rep (by omega) (by omega) (by omega) (by omega) (fun _ => ?_) (fun h => absurd (by omega) h) fun h => absurd (by omega) h
    refine CND_intro (fun e => by cases e) (fun _ => ?_)
    refine grow_spec hE hm5.rep (by omega) (by omega) (by omega) (by omega) (fun h => by omega) (fun _ h => ?_) fun _ _ w12 G12 hs12 hl12 => ?_
    · rw [hl] at h; exact absurd rfl h
    have hm12 := hm5.step hs12
    have l12 : ∀ i, i < 3 → G12.l i = [(34359738368 - 512 * n, 34359738368)] := by
      intro i hi
      have : G12.l i = addL (G.l i) ((67108864 - n) * 512) ((67108864 - n + n) * 512) := by
        have hi3 : i = 0 ∨ i = 1 ∨ i = 2 := by omega
        rw [hl12]
        rcases hi3 with rfl | rfl | rfl <;> rfl
      rw [this, hl, addL_nil hE]
      congr 2
      · omega
      · omega
    refine CND_intro (fun e => by cases e) (fun _ => ?_)
    refine grow_spec hE hm12.rep (by decide) (by decide) (by decide) (by decide) (fun h => by omega) (fun _ _ w14 hw14 => ⟨rfl, G12, hm12.nothing hw14, l12⟩) fun _ h => ?_
    exfalso
    rw [l12 0 (by decide)] at h
    simp only [cnt, cnt1] at h; omega
  rintro ⟨bt2, u⟩ _ w8 ⟨hb2, G8, hm8, hl8⟩
  simp only at hb2
  subst hb2
  refine CND_intro (fun e => by cases e) (fun _ => LET_intro fun first hfirst => ?_)
  have hk0 : k ≠ 0 := by omega
  have hf1 : findL (G8.l 1) k = some first := by rw [hl8 1 (by decide), hfirst]; simp only [findL]; rw [if_pos (by omega)]
  refine alloc_spec hE hm8.rep hk.1 hk.2 (fun h => absurd h hk0) (fun _ h => by rw [hf1] at h; cases h) fun _ p hp w19 G19 hs19 hl19 => ?_
  rw [hf1] at hp; cases hp
  have hm19 := hm8.step hs19
  refine JOIN_intro (fun st w' => w' = w19 ∧ st.1 = false) ?_ ?_
  · refine CND_intro (fun e => by simp at e) (fun _ => ⟨rfl, rfl⟩)
  rintro ⟨bt3, u⟩ _ w22 ⟨rfl, hb3⟩
  simp only at hb3
  subst hb3
  refine CND_intro (fun e => by cases e) (fun _ => ?_)
  have hlk : lookedR G19.l 34359738367 2 true 32 = 10 := by
    unfold lookedR
    rw [if_pos (by omega)]
  refine take_spec hE hm19.rep (by decide) (by decide) (by decide) (by decide) (fun _ w25 hw25 => ?_) (fun h => by rw [hlk] at h; cases h)
  have hm25 := hm19.nothing hw25
  rw [hlk]
  have l19 : G19.l 1 = if k = 512 * n then [] else [(first + k, 34359738368)] := by
    have e : G19.l 1 = cutL (G8.l 1) first (first + k) := by rw [hl19]; rfl
    rw [e, hl8 1 (by decide), hfirst]
    simp only [cutL, cut1, List.append_nil]
    rw [if_neg (by omega), List.nil_append]
    by_cases h : k = 512 * n
    · rw [if_neg (by omega), if_pos h]
    · rw [if_pos (by omega), if_neg h]
      congr 2
      omega
  refine find_spec hm25.rep (by omega) fun w28 hw28 => ?_
  have hm28 := hm25.nothing hw28
  have f28 : (if 512 * n - k + 1 = 0 then none else findL (G19.l 1) (512 * n - k + 1)) = none := by
    rw [if_neg (by omega), l19]
    by_cases h : k = 512 * n
    · rw [if_pos h]; rfl
    · rw [if_neg h]; simp only [findL]; rw [if_neg (by omega)]
  rw [f28]
  refine find_spec hm28.rep (by omega) fun w31 hw31 => ?_
  have hm31 := hm28.nothing hw31
  refine CND_intro (fun _ => ?_) (fun e => by cases e)
  refine CND_intro (fun _ => ?_) (fun e => by cases e)
  refine CND_intro (fun _ => ?_) (fun e => ?_)
  · exact rawake_spec hE fun w' hw' => hK _ (hm31.ext.trans' hw')
  · have hne : k ≠ 512 * n := by simpa using e
    have f31 : (if 512 * n - k = 0 then none else findL (G19.l 1) (512 * n - k)) = some (first + k) := by
      rw [if_neg (by omega), l19, if_neg hne]; simp only [findL]; rw [if_pos (by omega)]
    rw [f31]
    refine CND_intro (fun _ => ?_) (fun e => by cases e)
    rw [hfirst, e7]
    refine CND_intro (fun _ => ?_) (fun e => by simp at e)
    exact rawake_spec hE fun w' hw' => hK _ (hm31.ext.trans' hw')

end
end Go.Sh

namespace Go.Proofs.Ytbhlnppflnfooaa.radixEdges
open Go.ChangeShapes Go.WideShapes Go.ChangeAt Go.RowKit
set_option linter.unusedVariables false
set_option linter.unusedSimpArgs false

theorem own : ownKnob Try.prog.godebug = none := by kernel_rfl
theorem laidOut : laidOutB Try.prog = true := by kernel_rfl

theorem walk (x : Go.Sh.ArgTs [.int .u64, .int .u64]) (w : World) (h : Go.Sh.argOks w [.int .u64, .int .u64] x) :
    Calls Try.prog 4 ⟨Go.Sh.argVals [.int .u64, .int .u64] x⟩ w fun e w' => e = .returned (.bool true) ∧ Below w.heap.size w w' := by
  obtain ⟨a0, a1, u⟩ := x
  obtain ⟨w0, w1, _⟩ := h
  refine (Go.Sh.fits4 _ w (fun v w' => v = .bool true ∧ Below w.heap.size w w') ?_).2.mono ?_
  · show Go.Sh.F.mallowlaw9_RadixEdges Go.Sh.env a0 a1 (fun r w' => Value.bool r = .bool true ∧ Below w.heap.size w w') w
    exact Go.Sh.edges_spec Go.Sh.envS (Go.Sh.u64_wf w0) (Go.Sh.u64_wf w1) fun w' h => ⟨rfl, h.below (Nat.le_refl _) fun _ f => f.elim⟩
  · rintro e w' ⟨v, rfl, rfl, h⟩; exact ⟨rfl, h⟩

set_option maxRecDepth 100000 in
theorem lifted (os : Os) (started : os.Started) (H : Type) (enc : TypeId × Value → H) :
    ReturnsInHanded {} Try.checked os 4 .any (Rows.radixEdgesSpec.pre6 enc Try.prog Try.f4 Rows.radixEdgesRow.domain false) (Rows.radixEdgesSpec.post enc Try.prog Try.f4 false true false false) := by
  refine returnsInHanded_of_change (C := Try.checked) own started (by kernel_rfl) Try.func4
    (ChangeSpec.witness6 (enc := enc) (C := Try.checked) false ⟨#[], #[.int .u64 0, .int .u64 0], []⟩ 8 (by kernel_rfl) (by kernel_rfl) (by kernel_rfl) (by kernel_rfl)) ?_
  intro W base args ds gs before hval0 hW hcnd _
  have hW' := hW
  obtain ⟨p, q, hA, hV, rfl, hfz, hnd⟩ := hW
  obtain ⟨rfl, rfl⟩ := trodVars_none hV
  have hargs := Go.Sh.args_of (P := Try.prog) (shs := [.int .u64, .int .u64]) (by kernel_rfl) (fun j t v ht hv => hval0 j t v (by simpa using ht) (by simpa using hv)) hA
  obtain ⟨x, hx, hok⟩ := Go.Sh.argVals_of hargs
  obtain rfl : args = ⟨Go.Sh.argVals [.int .u64, .int .u64] x⟩ := Array.toList_inj.1 (by simpa using hx)
  have hlen := Go.Sh.trodAll_len hA
  obtain ⟨d0, d1, rfl⟩ : ∃ d0 d1, ds = [d0, d1] := by
    have hl : ds.length = 2 := hlen
    match ds, hl with
    | [d0, d1], _ => exact ⟨d0, d1, rfl⟩
  refine (walk x W hok).mono fun e W' ⟨he, bel⟩ => ?_
  subst he
  exact ⟨_, rfl, _, _, _, [], _, [], hW', trodAll_mk1 (shut_bool Try.underlying4 _), Go.Sh.trodAll_below laidOut bel (by kernel_rfl) hA, rfl, bel.frame _, fun h => by cases h⟩

theorem over : Rows.radixEdgesRow.holds Try.pinned (OpenSpec.ofChange Rows.radixEdgesSpec) :=
  OpenClaim.holds_of_wide 4 Try.f4 rfl rfl rfl rfl rfl rfl rfl ⟨rfl, rfl, rfl, rfl, rfl⟩ rfl rfl rfl rfl rfl (by kernel_rfl) Try.func4 (by kernel_rfl)
    (of_decide_eq_true (by kernel_rfl)) (by unfold Func.isWrapper; first | (rw [if_pos (by decide +kernel)]; kernel_rfl) | (rw [if_neg (by decide +kernel)]; exact ⟨rfl, rfl⟩))
    (fun os started H enc _ => lifted os started H enc)

/-- ████ THE STATEMENT ████ -/
theorem proved : Rows.RadixEdgesSaid := over
#print axioms proved
end Go.Proofs.Ytbhlnppflnfooaa.radixEdges
