/- The shallow forms of the functions, printed by a program. No further condition. -/
import Derived.Test.YtbhlnppflnfooaaSh
set_option linter.all false
set_option maxRecDepth 100000
namespace Go.Sh

structure Env where
  call : Calling
  t_map_uint64_api_Sum : Nat
  t_radix_Tree : Nat
  t__stretch_Set : Nat
  t_uint64 : Nat
  t_stretch_One : Nat
  t_api_Sum : Nat
  t_bool : Nat
  f_stretch_Set_at_1 : Nat

def F.radix_Tree_changed (E : Env) (a0 : (Option Addr)) (K : World → Prop) (w : World) : Prop :=
  NC a0 fun p1 =>
  stCells (p1.add 8) 0 [.slice none 0 0] w fun w2 =>
  LOOP (Int × Unit) (0, ()) w2 fun s3 _ w4 next5 =>
    CND (decide ((s3.1 : Int) < 4)) (
      NC a0 fun p6 =>
      ∃ x7 : SlV, w4.cell? (p6.add 8) = some (.slice x7.base x7.len x7.cap) ∧
      AL (.map #[] 0) w4 fun b8 w9 =>
      AL (.cells ⟨[.map (some b8)]⟩ E.t_map_uint64_api_Sum) w9 fun b10 w11 =>
      APP E.t_map_uint64_api_Sum 1 8 #[.map none] x7 ⟨(some (Addr.mk b10 0 none)), 1, 1⟩ w11 fun s12 w13 =>
      NC a0 fun p14 =>
      stCells (p14.add 8) 0 [.slice s12.base s12.len s12.cap] w13 fun w15 =>
      next5 (i64 (s3.1 + 1), ()) w15
    ) (
      K  w4
    )

def F.radix_New (E : Env)  (K : (Option Addr) → World → Prop) (w : World) : Prop :=
  AL (.cells #[.slice none 0 0, .int .u64 0, .slice none 0 0, .int .u64 0, .slice none 0 0, .int .u64 0, .slice none 0 0, .int .u64 0, .slice none 0 0] E.t_radix_Tree) w fun b1 w2 =>
  F.radix_Tree_changed E (some (Addr.mk b1 0 none)) (fun  w3 =>
  K (some (Addr.mk b1 0 none)) w3
  ) w2

def F.sort_Search (E : Env) (a0 : Int) (a1 : Value) (K : Int → World → Prop) (w : World) : Prop :=
  LOOP (Int × Int × Unit) (0, a0, ()) w fun s1 _ w2 next3 =>
    CND (decide ((s1.1 : Int) < s1.2.1)) (
      (0 : Int) ≤ 1 ∧
      LET (i64 (Int.fdiv (u64 (i64 (s1.1 + s1.2.1))) (2 ^ (min (Int.toNat 1) (IntKind.bits .u64)))) : Int) fun h_4 =>
      DYN E.call a1 #[.int .i64 h_4] w2 fun r5 w6 =>
      ∃ x7 : Bool, r5 = .bool x7 ∧
      CND (!x7) (
        next3 (i64 (h_4 + 1), s1.2.1, ()) w6
      ) (
        next3 (s1.1, h_4, ()) w6
      )
    ) (
      K s1.1 w2
    )

def F.stretch_Set_at (E : Env) (a0 : (Option Addr)) (a1 : Int) (K : Int → World → Prop) (w : World) : Prop :=
  AL (.cells #[.pointer a0] E.t__stretch_Set) w fun b1 w2 =>
  AL (.cells #[.int .u64 a1] E.t_uint64) w2 fun b3 w4 =>
  ∃ x5 : (Option Addr), w4.cell? (Addr.mk b1 0 none) = some (.pointer x5) ∧
  NC x5 fun p6 =>
  ∃ x7 : SlV, w4.cell? p6 = some (.slice x7.base x7.len x7.cap) ∧
  F.sort_Search E ((x7.len : Nat) : Int) (.func (.func E.f_stretch_Set_at_1) #[] #[.pointer (some (Addr.mk b1 0 none)), .pointer (some (Addr.mk b3 0 none))]) (fun r8 w9 =>
  K r8 w9
  ) w4

def F.stretch_Set_Count (E : Env) (a0 : (Option Addr)) (a1 : Int) (a2 : Int) (K : Int → World → Prop) (w : World) : Prop :=
  F.stretch_Set_at E a0 a1 (fun r1 w2 =>
  LOOP (Int × Int × Unit) (0, r1, ()) w2 fun s3 _ w4 next5 =>
    NC a0 fun p6 =>
    ∃ x7 : SlV, w4.cell? p6 = some (.slice x7.base x7.len x7.cap) ∧
    CND (decide ((s3.2.1 : Int) < ((x7.len : Nat) : Int))) (
      NC a0 fun p8 =>
      ∃ x9 : SlV, w4.cell? p8 = some (.slice x9.base x9.len x9.cap) ∧
      NC x9.base fun p10 =>
      ((0 : Int) ≤ s3.2.1 ∧ (s3.2.1 : Int) < (x9.len : Nat)) ∧
      ∃ x11 : Int, w4.cell? (p10.add (Int.toNat s3.2.1 * 2)) = some (.int .u64 x11) ∧
      CND (decide ((x11 : Int) < a2)) (
        NC a0 fun p12 =>
        ∃ x13 : SlV, w4.drew.cell? p12 = some (.slice x13.base x13.len x13.cap) ∧
        NC x13.base fun p14 =>
        ((0 : Int) ≤ s3.2.1 ∧ (s3.2.1 : Int) < (x13.len : Nat)) ∧
        ∃ x15 : Int, w4.drew.cell? ((p14.add (Int.toNat s3.2.1 * 2)).add 1) = some (.int .u64 x15) ∧
        NC a0 fun p16 =>
        ∃ x17 : SlV, w4.drew.cell? p16 = some (.slice x17.base x17.len x17.cap) ∧
        NC x17.base fun p18 =>
        ((0 : Int) ≤ s3.2.1 ∧ (s3.2.1 : Int) < (x17.len : Nat)) ∧
        ∃ x19 : Int, w4.drew.cell? (p18.add (Int.toNat s3.2.1 * 2)) = some (.int .u64 x19) ∧
        LET (u64 (s3.1 + (u64 ((minI x15 a2) - (maxI x19 a1)))) : Int) fun n_20 =>
        next5 (n_20, i64 (s3.2.1 + 1), ()) w4.drew
      ) (
        K s3.1 w4
      )
    ) (
      K s3.1 w4
    )
  ) w

def F.stretch_Set_Cut (E : Env) (a0 : (Option Addr)) (a1 : Int) (a2 : Int) (K : World → Prop) (w : World) : Prop :=
  CND (decide ((a1 : Int) ≥ a2)) (
    K  w
  ) (
    NC a0 fun p1 =>
    ∃ x2 : Int, w.drew.cell? (p1.add 1) = some (.int .u64 x2) ∧
    F.stretch_Set_Count E a0 a1 a2 (fun r3 w4 =>
    w4.cell? (p1.add 1) = some (.int .u64 x2) ∧
    NC a0 fun p5 =>
    stCells (p5.add 1) 0 [.int .u64 (u64 (x2 - r3))] w4 fun w6 =>
    F.stretch_Set_at E a0 a1 (fun r7 w8 =>
    JOIN (Int × SlV × Unit) (fun J9 =>
      LOOP (Int × SlV × Unit) (r7, ⟨none, 0, 0⟩, ()) w8 fun s12 _ w13 next14 =>
        NC a0 fun p15 =>
        ∃ x16 : SlV, w13.cell? p15 = some (.slice x16.base x16.len x16.cap) ∧
        CND (decide ((s12.1 : Int) < ((x16.len : Nat) : Int))) (
          NC a0 fun p17 =>
          ∃ x18 : SlV, w13.cell? p17 = some (.slice x18.base x18.len x18.cap) ∧
          NC x18.base fun p19 =>
          ((0 : Int) ≤ s12.1 ∧ (s12.1 : Int) < (x18.len : Nat)) ∧
          ∃ x20 : Int, w13.cell? (p19.add (Int.toNat s12.1 * 2)) = some (.int .u64 x20) ∧
          CND (decide ((x20 : Int) < a2)) (
            NC a0 fun p21 =>
            ∃ x22 : SlV, w13.cell? p21 = some (.slice x22.base x22.len x22.cap) ∧
            NC x22.base fun p23 =>
            ((0 : Int) ≤ s12.1 ∧ (s12.1 : Int) < (x22.len : Nat)) ∧
            ∃ c24 : Int, w13.cell? ((p23.add (Int.toNat s12.1 * 2)).add 0) = some (.int .u64 c24) ∧
            ∃ c25 : Int, w13.cell? ((p23.add (Int.toNat s12.1 * 2)).add 1) = some (.int .u64 c25) ∧
            AL (.cells #[.int .u64 0, .int .u64 0] E.t_stretch_One) w13 fun b26 w27 =>
            stCells (Addr.mk b26 0 none) 0 [.int .u64 c24, .int .u64 c25] w27 fun w28 =>
            JOIN (SlV × Unit) (fun J29 =>
              ∃ x32 : Int, w28.cell? (Addr.mk b26 0 none) = some (.int .u64 x32) ∧
              CND (decide ((x32 : Int) < a1)) (
                ∃ x33 : Int, w28.cell? (Addr.mk b26 0 none) = some (.int .u64 x33) ∧
                AL (.cells ⟨[.int .u64 x33, .int .u64 a1]⟩ E.t_stretch_One) w28 fun b34 w35 =>
                APP E.t_stretch_One 2 16 #[.int .u64 0, .int .u64 0] s12.2.1 ⟨(some (Addr.mk b34 0 none)), 1, 1⟩ w35 fun s36 w37 =>
                J29 (s36, ()) w37
              ) (
                J29 (s12.2.1, ()) w28
              )
            ) fun s30 _ w31 =>
              ∃ x38 : Int, w31.cell? ((Addr.mk b26 0 none).add 1) = some (.int .u64 x38) ∧
              CND (decide ((x38 : Int) > a2)) (
                ∃ x39 : Int, w31.cell? ((Addr.mk b26 0 none).add 1) = some (.int .u64 x39) ∧
                AL (.cells ⟨[.int .u64 a2, .int .u64 x39]⟩ E.t_stretch_One) w31 fun b40 w41 =>
                APP E.t_stretch_One 2 16 #[.int .u64 0, .int .u64 0] s30.1 ⟨(some (Addr.mk b40 0 none)), 1, 1⟩ w41 fun s42 w43 =>
                next14 (i64 (s12.1 + 1), s42, ()) w43
              ) (
                next14 (i64 (s12.1 + 1), s30.1, ()) w31
              )
          ) (
            J9 (s12.1, s12.2.1, ()) w13
          )
        ) (
          J9 (s12.1, s12.2.1, ()) w13
        )
    ) fun s10 _ w11 =>
      NC a0 fun p44 =>
      ∃ x45 : SlV, w11.drew.cell? p44 = some (.slice x45.base x45.len x45.cap) ∧
      ((0 : Int) ≤ r7 ∧ (r7 : Int) ≤ (x45.cap : Nat)) ∧
      NC a0 fun p46 =>
      ∃ x47 : SlV, w11.drew.cell? p46 = some (.slice x47.base x47.len x47.cap) ∧
      ((0 : Int) ≤ s10.1 ∧ (s10.1 : Int) ≤ (x47.len : Nat)) ∧
      AL (.cells ⟨[]⟩ E.t_stretch_One) w11.drew fun b48 w49 =>
      w49.cell? p46 = some (.slice x47.base x47.len x47.cap) ∧
      w49.cell? p44 = some (.slice x45.base x45.len x45.cap) ∧
      APP E.t_stretch_One 2 16 #[.int .u64 0, .int .u64 0] ⟨(some (Addr.mk b48 0 none)), 0, 0⟩ ⟨(slB x45.base x45.cap 0 2), (Int.toNat r7), x45.cap⟩ w49 fun s50 w51 =>
      w51.cell? p46 = some (.slice x47.base x47.len x47.cap) ∧
      w51.cell? p44 = some (.slice x45.base x45.len x45.cap) ∧
      APP E.t_stretch_One 2 16 #[.int .u64 0, .int .u64 0] s50 s10.2.1 w51 fun s52 w53 =>
      w53.cell? p46 = some (.slice x47.base x47.len x47.cap) ∧
      w53.cell? p44 = some (.slice x45.base x45.len x45.cap) ∧
      APP E.t_stretch_One 2 16 #[.int .u64 0, .int .u64 0] s52 ⟨(slB x47.base x47.cap (Int.toNat s10.1) 2), (x47.len - (Int.toNat s10.1)), (x47.cap - (Int.toNat s10.1))⟩ w53 fun s54 w55 =>
      w55.cell? p46 = some (.slice x47.base x47.len x47.cap) ∧
      w55.cell? p44 = some (.slice x45.base x45.len x45.cap) ∧
      NC a0 fun p56 =>
      stCells p56 0 [.slice s54.base s54.len s54.cap] w55 fun w57 =>
      K  w57
    ) w6
    ) w.drew
  )

def F.stretch_Set_Add (E : Env) (a0 : (Option Addr)) (a1 : Int) (a2 : Int) (K : World → Prop) (w : World) : Prop :=
  CND (decide ((a1 : Int) ≥ a2)) (
    K  w
  ) (
    F.stretch_Set_Cut E a0 a1 a2 (fun  w1 =>
    NC a0 fun p2 =>
    ∃ x3 : Int, w1.cell? (p2.add 1) = some (.int .u64 x3) ∧
    NC a0 fun p4 =>
    stCells (p4.add 1) 0 [.int .u64 (u64 (x3 + (u64 (a2 - a1))))] w1 fun w5 =>
    F.stretch_Set_at E a0 a1 (fun r6 w7 =>
    AL (.cells #[.int .u64 0, .int .u64 0] E.t_stretch_One) w7 fun b8 w9 =>
    stCells (Addr.mk b8 0 none) 0 [.int .u64 a1, .int .u64 a2] w9 fun w10 =>
    JOIN (Int × Unit) (fun J11 =>
      JOIN (Bool × Unit) (fun J14 =>
        NC a0 fun p17 =>
        ∃ x18 : SlV, w10.cell? p17 = some (.slice x18.base x18.len x18.cap) ∧
        CND (decide ((r6 : Int) < ((x18.len : Nat) : Int))) (
          NC a0 fun p19 =>
          ∃ x20 : SlV, w10.cell? p19 = some (.slice x20.base x20.len x20.cap) ∧
          NC x20.base fun p21 =>
          ((0 : Int) ≤ r6 ∧ (r6 : Int) < (x20.len : Nat)) ∧
          ∃ x22 : Int, w10.cell? (p21.add (Int.toNat r6 * 2)) = some (.int .u64 x22) ∧
          J14 ((x22 : Int) == a2, ()) w10
        ) (
          J14 (false, ()) w10
        )
      ) fun s15 _ w16 =>
        CND (s15.1) (
          NC a0 fun p23 =>
          ∃ x24 : SlV, w16.cell? p23 = some (.slice x24.base x24.len x24.cap) ∧
          NC x24.base fun p25 =>
          ((0 : Int) ≤ r6 ∧ (r6 : Int) < (x24.len : Nat)) ∧
          ∃ x26 : Int, w16.cell? ((p25.add (Int.toNat r6 * 2)).add 1) = some (.int .u64 x26) ∧
          stCells ((Addr.mk b8 0 none).add 1) 0 [.int .u64 x26] w16 fun w27 =>
          J11 (i64 (r6 + 1), ()) w27
        ) (
          J11 (r6, ()) w16
        )
    ) fun s12 _ w13 =>
      JOIN (Int × Unit) (fun J28 =>
        JOIN (Bool × Unit) (fun J31 =>
          CND (decide ((r6 : Int) > 0)) (
            NC a0 fun p34 =>
            ∃ x35 : SlV, w13.cell? p34 = some (.slice x35.base x35.len x35.cap) ∧
            NC x35.base fun p36 =>
            ((0 : Int) ≤ (i64 (r6 - 1)) ∧ ((i64 (r6 - 1)) : Int) < (x35.len : Nat)) ∧
            ∃ x37 : Int, w13.cell? ((p36.add (Int.toNat (i64 (r6 - 1)) * 2)).add 1) = some (.int .u64 x37) ∧
            J31 ((x37 : Int) == a1, ()) w13
          ) (
            J31 (false, ()) w13
          )
        ) fun s32 _ w33 =>
          CND (s32.1) (
            NC a0 fun p38 =>
            ∃ x39 : SlV, w33.cell? p38 = some (.slice x39.base x39.len x39.cap) ∧
            NC x39.base fun p40 =>
            ((0 : Int) ≤ (i64 (r6 - 1)) ∧ ((i64 (r6 - 1)) : Int) < (x39.len : Nat)) ∧
            ∃ x41 : Int, w33.cell? (p40.add (Int.toNat (i64 (r6 - 1)) * 2)) = some (.int .u64 x41) ∧
            stCells (Addr.mk b8 0 none) 0 [.int .u64 x41] w33 fun w42 =>
            J28 (i64 (r6 - 1), ()) w42
          ) (
            J28 (r6, ()) w33
          )
      ) fun s29 _ w30 =>
        NC a0 fun p43 =>
        ∃ x44 : SlV, w30.drew.cell? p43 = some (.slice x44.base x44.len x44.cap) ∧
        ((0 : Int) ≤ s29.1 ∧ (s29.1 : Int) ≤ (x44.cap : Nat)) ∧
        ∃ c45 : Int, w30.drew.cell? ((Addr.mk b8 0 none).add 0) = some (.int .u64 c45) ∧
        ∃ c46 : Int, w30.drew.cell? ((Addr.mk b8 0 none).add 1) = some (.int .u64 c46) ∧
        NC a0 fun p47 =>
        ∃ x48 : SlV, w30.drew.cell? p47 = some (.slice x48.base x48.len x48.cap) ∧
        ((0 : Int) ≤ s12.1 ∧ (s12.1 : Int) ≤ (x48.len : Nat)) ∧
        (
          AL (.cells ⟨[]⟩ E.t_stretch_One) w30.drew fun b49 w50 =>
          w50.cell? p47 = some (.slice x48.base x48.len x48.cap) ∧
          (w50.cell? ((Addr.mk b8 0 none).add 0) = some (.int .u64 c45) ∧ (w50.cell? ((Addr.mk b8 0 none).add 1) = some (.int .u64 c46) ∧ True)) ∧
          w50.cell? p43 = some (.slice x44.base x44.len x44.cap) ∧
          (
            APP E.t_stretch_One 2 16 #[.int .u64 0, .int .u64 0] ⟨(some (Addr.mk b49 0 none)), 0, 0⟩ ⟨(slB x44.base x44.cap 0 2), (Int.toNat s29.1), x44.cap⟩ w50 fun s51 w52 =>
            w52.cell? p47 = some (.slice x48.base x48.len x48.cap) ∧
            (w52.cell? ((Addr.mk b8 0 none).add 0) = some (.int .u64 c45) ∧ (w52.cell? ((Addr.mk b8 0 none).add 1) = some (.int .u64 c46) ∧ True)) ∧
            w52.cell? p43 = some (.slice x44.base x44.len x44.cap) ∧
            AL (.cells ⟨[.int .u64 c45, .int .u64 c46]⟩ E.t_stretch_One) w52 fun b53 w54 =>
            w54.cell? p47 = some (.slice x48.base x48.len x48.cap) ∧
            w54.cell? p43 = some (.slice x44.base x44.len x44.cap) ∧
            APP E.t_stretch_One 2 16 #[.int .u64 0, .int .u64 0] s51 ⟨(some (Addr.mk b53 0 none)), 1, 1⟩ w54 fun s55 w56 =>
            w56.cell? p47 = some (.slice x48.base x48.len x48.cap) ∧
            w56.cell? p43 = some (.slice x44.base x44.len x44.cap) ∧
            APP E.t_stretch_One 2 16 #[.int .u64 0, .int .u64 0] s55 ⟨(slB x48.base x48.cap (Int.toNat s12.1) 2), (x48.len - (Int.toNat s12.1)), (x48.cap - (Int.toNat s12.1))⟩ w56 fun s57 w58 =>
            w58.cell? p47 = some (.slice x48.base x48.len x48.cap) ∧
            w58.cell? p43 = some (.slice x44.base x44.len x44.cap) ∧
            NC a0 fun p59 =>
            stCells p59 0 [.slice s57.base s57.len s57.cap] w58 fun w60 =>
            K  w60

          ) ∧ (
            AL (.cells ⟨[.int .u64 c45, .int .u64 c46]⟩ E.t_stretch_One) w50 fun b61 w62 =>
            w62.cell? p47 = some (.slice x48.base x48.len x48.cap) ∧
            w62.cell? p43 = some (.slice x44.base x44.len x44.cap) ∧
            APP E.t_stretch_One 2 16 #[.int .u64 0, .int .u64 0] ⟨(some (Addr.mk b49 0 none)), 0, 0⟩ ⟨(slB x44.base x44.cap 0 2), (Int.toNat s29.1), x44.cap⟩ w62 fun s63 w64 =>
            w64.cell? p47 = some (.slice x48.base x48.len x48.cap) ∧
            w64.cell? p43 = some (.slice x44.base x44.len x44.cap) ∧
            APP E.t_stretch_One 2 16 #[.int .u64 0, .int .u64 0] s63 ⟨(some (Addr.mk b61 0 none)), 1, 1⟩ w64 fun s65 w66 =>
            w66.cell? p47 = some (.slice x48.base x48.len x48.cap) ∧
            w66.cell? p43 = some (.slice x44.base x44.len x44.cap) ∧
            APP E.t_stretch_One 2 16 #[.int .u64 0, .int .u64 0] s65 ⟨(slB x48.base x48.cap (Int.toNat s12.1) 2), (x48.len - (Int.toNat s12.1)), (x48.cap - (Int.toNat s12.1))⟩ w66 fun s67 w68 =>
            w68.cell? p47 = some (.slice x48.base x48.len x48.cap) ∧
            w68.cell? p43 = some (.slice x44.base x44.len x44.cap) ∧
            NC a0 fun p69 =>
            stCells p69 0 [.slice s67.base s67.len s67.cap] w68 fun w70 =>
            K  w70
          )

        ) ∧ (
          AL (.cells ⟨[.int .u64 c45, .int .u64 c46]⟩ E.t_stretch_One) w30.drew fun b71 w72 =>
          w72.cell? p47 = some (.slice x48.base x48.len x48.cap) ∧
          w72.cell? p43 = some (.slice x44.base x44.len x44.cap) ∧
          AL (.cells ⟨[]⟩ E.t_stretch_One) w72 fun b73 w74 =>
          w74.cell? p47 = some (.slice x48.base x48.len x48.cap) ∧
          w74.cell? p43 = some (.slice x44.base x44.len x44.cap) ∧
          APP E.t_stretch_One 2 16 #[.int .u64 0, .int .u64 0] ⟨(some (Addr.mk b73 0 none)), 0, 0⟩ ⟨(slB x44.base x44.cap 0 2), (Int.toNat s29.1), x44.cap⟩ w74 fun s75 w76 =>
          w76.cell? p47 = some (.slice x48.base x48.len x48.cap) ∧
          w76.cell? p43 = some (.slice x44.base x44.len x44.cap) ∧
          APP E.t_stretch_One 2 16 #[.int .u64 0, .int .u64 0] s75 ⟨(some (Addr.mk b71 0 none)), 1, 1⟩ w76 fun s77 w78 =>
          w78.cell? p47 = some (.slice x48.base x48.len x48.cap) ∧
          w78.cell? p43 = some (.slice x44.base x44.len x44.cap) ∧
          APP E.t_stretch_One 2 16 #[.int .u64 0, .int .u64 0] s77 ⟨(slB x48.base x48.cap (Int.toNat s12.1) 2), (x48.len - (Int.toNat s12.1)), (x48.cap - (Int.toNat s12.1))⟩ w78 fun s79 w80 =>
          w80.cell? p47 = some (.slice x48.base x48.len x48.cap) ∧
          w80.cell? p43 = some (.slice x44.base x44.len x44.cap) ∧
          NC a0 fun p81 =>
          stCells p81 0 [.slice s79.base s79.len s79.cap] w80 fun w82 =>
          K  w82
        )
    ) w5
    ) w
  )

def F.radix_Tree_Grow (E : Env) (a0 : (Option Addr)) (a1 : Int) (a2 : Int) (K : Int → World → Prop) (w : World) : Prop :=
  JOIN (Bool × Unit) (fun J1 =>
    CND ((a2 : Int) == 0) (
      J1 (true, ()) w
    ) (
      CND (decide ((a2 : Int) > 262144)) (
        J1 (true, ()) w
      ) (
        CND (decide ((a1 : Int) > 67108864)) (
          J1 (true, ()) w
        ) (
          J1 (decide ((a2 : Int) > (u64 (67108864 - a1))), ()) w
        )
      )
    )
  ) fun s2 _ w3 =>
    CND (s2.1) (
      K 1 w3
    ) (
      LET (u64 ((u64 (a1 + a2)) * 512) : Int) fun to_4 =>
      NC a0 fun p5 =>
      F.stretch_Set_Count E (some p5) (u64 (a1 * 512)) to_4 (fun r6 w7 =>
      CND (decide ((r6 : Int) > 0)) (
        K 34 w7
      ) (
        NC a0 fun p8 =>
        F.stretch_Set_Add E (some p8) (u64 (a1 * 512)) to_4 (fun  w9 =>
        NC a0 fun p10 =>
        F.stretch_Set_Add E (some (p10.add 2)) (u64 (a1 * 512)) to_4 (fun  w11 =>
        NC a0 fun p12 =>
        F.stretch_Set_Add E (some (p12.add 4)) (u64 (a1 * 512)) to_4 (fun  w13 =>
        F.radix_Tree_changed E a0 (fun  w14 =>
        K 0 w14
        ) w13
        ) w11
        ) w9
        ) w7
      )
      ) w3
    )

def F.stretch_Set_All (E : Env) (a0 : (Option Addr)) (K : SlV → World → Prop) (w : World) : Prop :=
  NC a0 fun p1 =>
  ∃ x2 : SlV, w.cell? p1 = some (.slice x2.base x2.len x2.cap) ∧
  K x2 w

def F.radix_Tree_Find (E : Env) (a0 : (Option Addr)) (a1 : Int) (K : Int → Bool → World → Prop) (w : World) : Prop :=
  CND ((a1 : Int) == 0) (
    K 0 false w
  ) (
    NC a0 fun p1 =>
    F.stretch_Set_All E (some (p1.add 2)) (fun r2 w3 =>
    LOOP (Int × Unit) (0, ()) w3 fun s4 _ w5 next6 =>
      CND (decide ((s4.1 : Int) < ((r2.len : Nat) : Int))) (
        NC r2.base fun p7 =>
        ((0 : Int) ≤ s4.1 ∧ (s4.1 : Int) < (r2.len : Nat)) ∧
        ∃ c8 : Int, w5.cell? ((p7.add (Int.toNat s4.1 * 2)).add 0) = some (.int .u64 c8) ∧
        ∃ c9 : Int, w5.cell? ((p7.add (Int.toNat s4.1 * 2)).add 1) = some (.int .u64 c9) ∧
        AL (.cells #[.int .u64 0, .int .u64 0] E.t_stretch_One) w5 fun b10 w11 =>
        stCells (Addr.mk b10 0 none) 0 [.int .u64 c8, .int .u64 c9] w11 fun w12 =>
        ∃ x13 : Int, w12.cell? ((Addr.mk b10 0 none).add 1) = some (.int .u64 x13) ∧
        ∃ x14 : Int, w12.cell? (Addr.mk b10 0 none) = some (.int .u64 x14) ∧
        CND (decide (((u64 (x13 - x14)) : Int) ≥ a1)) (
          ∃ x15 : Int, w12.cell? (Addr.mk b10 0 none) = some (.int .u64 x15) ∧
          K x15 true w12
        ) (
          next6 (i64 (s4.1 + 1), ()) w12
        )
      ) (
        K 0 false w5
      )
    ) w
  )

def F.radix_Tree_looked (E : Env) (a0 : (Option Addr)) (a1 : Int) (a2 : Int) (a3 : Bool) (a4 : Int) (K : Int → World → Prop) (w : World) : Prop :=
  JOIN (Int × Unit) (fun J1 =>
    CND (a3) (
      J1 (a2, ()) w
    ) (
      J1 (0, ()) w
    )
  ) fun s2 _ w3 =>
    JOIN (Bool × Unit) (fun J4 =>
      CND ((a2 : Int) == 0) (
        J4 (true, ()) w3
      ) (
        CND (decide ((a1 : Int) ≥ 34359738368)) (
          J4 (true, ()) w3
        ) (
          CND (decide ((a2 : Int) > (u64 (34359738368 - a1)))) (
            J4 (true, ()) w3
          ) (
            NC a0 fun p7 =>
            F.stretch_Set_Count E (some p7) a1 (u64 (a1 + a2)) (fun r8 w9 =>
            J4 ((r8 : Int) != a2, ()) w9
            ) w3
          )
        )
      )
    ) fun s5 _ w6 =>
      CND (s5.1) (
        K 10 w6
      ) (
        NC a0 fun p10 =>
        F.stretch_Set_Count E (some (p10.add 2)) a1 (u64 (a1 + a2)) (fun r11 w12 =>
        CND ((r11 : Int) != s2.1) (
          K a4 w12
        ) (
          K 0 w12
        )
        ) w6
      )

def F.radix_Tree_Take (E : Env) (a0 : (Option Addr)) (a1 : Int) (a2 : Int) (K : Int → Int → World → Prop) (w : World) : Prop :=
  F.radix_Tree_looked E a0 a1 a2 true 32 (fun r1 w2 =>
  CND ((r1 : Int) != 0) (
    K 0 r1 w2
  ) (
    NC a0 fun p3 =>
    F.stretch_Set_Count E (some (p3.add 4)) a1 (u64 (a1 + a2)) (fun r4 w5 =>
    NC a0 fun p6 =>
    F.stretch_Set_Cut E (some (p6.add 2)) a1 (u64 (a1 + a2)) (fun  w7 =>
    NC a0 fun p8 =>
    F.stretch_Set_Cut E (some (p8.add 4)) a1 (u64 (a1 + a2)) (fun  w9 =>
    NC a0 fun p10 =>
    F.stretch_Set_Cut E (some (p10.add 6)) a1 (u64 (a1 + a2)) (fun  w11 =>
    F.radix_Tree_changed E a0 (fun  w12 =>
    K r4 0 w12
    ) w11
    ) w9
    ) w7
    ) w5
    ) w2
  )
  ) w

def F.radix_Tree_Alloc (E : Env) (a0 : (Option Addr)) (a1 : Int) (K : Int → Int → Int → World → Prop) (w : World) : Prop :=
  CND ((a1 : Int) == 0) (
    K 0 0 1 w
  ) (
    F.radix_Tree_Find E a0 a1 (fun r1 r2 w3 =>
    CND (!r2) (
      K 0 0 30 w3
    ) (
      F.radix_Tree_Take E a0 r1 a1 (fun r4 r5 w6 =>
      K r1 r4 r5 w6
      ) w3
    )
    ) w
  )

def F.stretch_Set_Sum (E : Env) (a0 : (Option Addr)) (K : Int → World → Prop) (w : World) : Prop :=
  NC a0 fun p1 =>
  ∃ x2 : Int, w.cell? (p1.add 1) = some (.int .u64 x2) ∧
  K x2 w

def F.radix_Tree_Free (E : Env) (a0 : (Option Addr)) (K : Int → World → Prop) (w : World) : Prop :=
  NC a0 fun p1 =>
  F.stretch_Set_Sum E (some (p1.add 2)) (fun r2 w3 =>
  K r2 w3
  ) w

def F.radix_pages (E : Env) (a0 : Int) (K : Int → World → Prop) (w : World) : Prop :=
  LOOP (Int × Int × Unit) (512, 0, ()) w fun s1 _ w2 next3 =>
    CND (decide ((s1.2.1 : Int) < (i64 (3 - a0)))) (
      next3 (u64 (s1.1 * 8), i64 (s1.2.1 + 1), ()) w2
    ) (
      K s1.1 w2
    )

def F.stretch_Set_Within (E : Env) (a0 : (Option Addr)) (a1 : Int) (a2 : Int) (K : SlV → World → Prop) (w : World) : Prop :=
  F.stretch_Set_at E a0 a1 (fun r1 w2 =>
  LOOP (SlV × Int × Unit) (⟨none, 0, 0⟩, r1, ()) w2 fun s3 _ w4 next5 =>
    NC a0 fun p6 =>
    ∃ x7 : SlV, w4.cell? p6 = some (.slice x7.base x7.len x7.cap) ∧
    CND (decide ((s3.2.1 : Int) < ((x7.len : Nat) : Int))) (
      NC a0 fun p8 =>
      ∃ x9 : SlV, w4.cell? p8 = some (.slice x9.base x9.len x9.cap) ∧
      NC x9.base fun p10 =>
      ((0 : Int) ≤ s3.2.1 ∧ (s3.2.1 : Int) < (x9.len : Nat)) ∧
      ∃ x11 : Int, w4.cell? (p10.add (Int.toNat s3.2.1 * 2)) = some (.int .u64 x11) ∧
      CND (decide ((x11 : Int) < a2)) (
        NC a0 fun p12 =>
        ∃ x13 : SlV, w4.drew.cell? p12 = some (.slice x13.base x13.len x13.cap) ∧
        NC x13.base fun p14 =>
        ((0 : Int) ≤ s3.2.1 ∧ (s3.2.1 : Int) < (x13.len : Nat)) ∧
        ∃ x15 : Int, w4.drew.cell? (p14.add (Int.toNat s3.2.1 * 2)) = some (.int .u64 x15) ∧
        NC a0 fun p16 =>
        ∃ x17 : SlV, w4.drew.cell? p16 = some (.slice x17.base x17.len x17.cap) ∧
        NC x17.base fun p18 =>
        ((0 : Int) ≤ s3.2.1 ∧ (s3.2.1 : Int) < (x17.len : Nat)) ∧
        ∃ x19 : Int, w4.drew.cell? ((p18.add (Int.toNat s3.2.1 * 2)).add 1) = some (.int .u64 x19) ∧
        AL (.cells ⟨[.int .u64 (maxI x15 a1), .int .u64 (minI x19 a2)]⟩ E.t_stretch_One) w4.drew fun b20 w21 =>
        w21.cell? ((p18.add (Int.toNat s3.2.1 * 2)).add 1) = some (.int .u64 x19) ∧
        w21.cell? p16 = some (.slice x17.base x17.len x17.cap) ∧
        w21.cell? (p14.add (Int.toNat s3.2.1 * 2)) = some (.int .u64 x15) ∧
        w21.cell? p12 = some (.slice x13.base x13.len x13.cap) ∧
        APP E.t_stretch_One 2 16 #[.int .u64 0, .int .u64 0] s3.1 ⟨(some (Addr.mk b20 0 none)), 1, 1⟩ w21 fun s22 w23 =>
        w23.cell? ((p18.add (Int.toNat s3.2.1 * 2)).add 1) = some (.int .u64 x19) ∧
        w23.cell? p16 = some (.slice x17.base x17.len x17.cap) ∧
        w23.cell? (p14.add (Int.toNat s3.2.1 * 2)) = some (.int .u64 x15) ∧
        w23.cell? p12 = some (.slice x13.base x13.len x13.cap) ∧
        next5 (s22, i64 (s3.2.1 + 1), ()) w23
      ) (
        K s3.1 w4
      )
    ) (
      K s3.1 w4
    )
  ) w

def F.radix_Tree_Sum (E : Env) (a0 : (Option Addr)) (a1 : Int) (a2 : Int) (K : Int → Int → Int → Int → World → Prop) (w : World) : Prop :=
  AL (.cells #[.int .i64 0, .int .i64 0, .int .i64 0] E.t_api_Sum) w fun b1 w2 =>
  JOIN (Bool × Unit) (fun J3 =>
    CND (decide ((a1 : Int) < 0)) (
      J3 (true, ()) w2
    ) (
      CND (decide ((a1 : Int) ≥ 4)) (
        J3 (true, ()) w2
      ) (
        F.radix_pages E a1 (fun r6 w7 =>
        r6 ≠ (0 : Int) ∧
        J3 (decide ((a2 : Int) ≥ (u64 (Int.tdiv 34359738368 r6))), ()) w7
        ) w2
      )
    )
  ) fun s4 _ w5 =>
    CND (s4.1) (
      stCells (Addr.mk b1 0 none) 0 [.int .i64 0, .int .i64 0, .int .i64 0] w5 fun w8 =>
      ∃ c9 : Int, w8.cell? ((Addr.mk b1 0 none).add 0) = some (.int .i64 c9) ∧
      ∃ c10 : Int, w8.cell? ((Addr.mk b1 0 none).add 1) = some (.int .i64 c10) ∧
      ∃ c11 : Int, w8.cell? ((Addr.mk b1 0 none).add 2) = some (.int .i64 c11) ∧
      K c9 c10 c11 1 w8
    ) (
      NC a0 fun p12 =>
      ∃ x13 : SlV, w5.cell? (p12.add 8) = some (.slice x13.base x13.len x13.cap) ∧
      NC x13.base fun p14 =>
      ((0 : Int) ≤ a1 ∧ (a1 : Int) < (x13.len : Nat)) ∧
      ∃ x15 : (Option Nat), w5.cell? (p14.add (Int.toNat a1 * 1)) = some (.map x15) ∧
      LKP .u64 a2 x15 w5 (.agg ⟨[.int .i64 0, .int .i64 0, .int .i64 0]⟩) fun v16 ok17 es18 =>
      ∃ x19 : (Int × Int × Int × Unit), v16 = .agg ⟨[.int .i64 x19.1, .int .i64 x19.2.1, .int .i64 x19.2.2.1]⟩ ∧
      AL (.cells #[.int .i64 0, .int .i64 0, .int .i64 0] E.t_api_Sum) w5 fun b20 w21 =>
      stCells (Addr.mk b20 0 none) 0 [.int .i64 x19.1, .int .i64 x19.2.1, .int .i64 x19.2.2.1] w21 fun w22 =>
      CND (ok17) (
        ∃ c23 : Int, w22.cell? ((Addr.mk b20 0 none).add 0) = some (.int .i64 c23) ∧
        ∃ c24 : Int, w22.cell? ((Addr.mk b20 0 none).add 1) = some (.int .i64 c24) ∧
        ∃ c25 : Int, w22.cell? ((Addr.mk b20 0 none).add 2) = some (.int .i64 c25) ∧
        stCells (Addr.mk b1 0 none) 0 [.int .i64 c23, .int .i64 c24, .int .i64 c25] w22 fun w26 =>
        ∃ c27 : Int, w26.cell? ((Addr.mk b1 0 none).add 0) = some (.int .i64 c27) ∧
        ∃ c28 : Int, w26.cell? ((Addr.mk b1 0 none).add 1) = some (.int .i64 c28) ∧
        ∃ c29 : Int, w26.cell? ((Addr.mk b1 0 none).add 2) = some (.int .i64 c29) ∧
        K c27 c28 c29 0 w26
      ) (
        AL (.cells #[.int .i64 0, .int .i64 0, .int .i64 0] E.t_api_Sum) w22 fun b30 w31 =>
        F.radix_pages E a1 (fun r32 w33 =>
        F.radix_pages E a1 (fun r34 w35 =>
        LET (u64 ((u64 (a2 * r32)) + r34) : Int) fun to_36 =>
        NC a0 fun p37 =>
        F.stretch_Set_Within E (some (p37.add 2)) (u64 (a2 * r32)) to_36 (fun r38 w39 =>
        LOOP (Int × Unit) (0, ()) w39 fun s40 _ w41 next42 =>
          CND (decide ((s40.1 : Int) < ((r38.len : Nat) : Int))) (
            NC r38.base fun p43 =>
            ((0 : Int) ≤ s40.1 ∧ (s40.1 : Int) < (r38.len : Nat)) ∧
            ∃ c44 : Int, w41.cell? ((p43.add (Int.toNat s40.1 * 2)).add 0) = some (.int .u64 c44) ∧
            ∃ c45 : Int, w41.cell? ((p43.add (Int.toNat s40.1 * 2)).add 1) = some (.int .u64 c45) ∧
            AL (.cells #[.int .u64 0, .int .u64 0] E.t_stretch_One) w41 fun b46 w47 =>
            stCells (Addr.mk b46 0 none) 0 [.int .u64 c44, .int .u64 c45] w47 fun w48 =>
            ∃ x49 : Int, w48.cell? ((Addr.mk b46 0 none).add 1) = some (.int .u64 x49) ∧
            ∃ x50 : Int, w48.cell? (Addr.mk b46 0 none) = some (.int .u64 x50) ∧
            ∃ x51 : Int, w48.cell? ((Addr.mk b30 0 none).add 1) = some (.int .i64 x51) ∧
            stCells ((Addr.mk b30 0 none).add 1) 0 [.int .i64 (maxI x51 (i64 (u64 (x49 - x50))))] w48 fun w52 =>
            JOIN (Unit) (fun J53 =>
              ∃ x56 : Int, w52.cell? (Addr.mk b46 0 none) = some (.int .u64 x56) ∧
              CND ((x56 : Int) == (u64 (a2 * r32))) (
                stCells (Addr.mk b30 0 none) 0 [.int .i64 (i64 (u64 (x49 - x50)))] w52 fun w57 =>
                J53 (()) w57
              ) (
                J53 (()) w52
              )
            ) fun s54 _ w55 =>
              ∃ x58 : Int, w55.cell? ((Addr.mk b46 0 none).add 1) = some (.int .u64 x58) ∧
              CND ((x58 : Int) != to_36) (
                next42 (i64 (s40.1 + 1), ()) w55
              ) (
                stCells ((Addr.mk b30 0 none).add 2) 0 [.int .i64 (i64 (u64 (x49 - x50)))] w55 fun w59 =>
                next42 (i64 (s40.1 + 1), ()) w59
              )
          ) (
            NC a0 fun p60 =>
            ∃ x61 : SlV, w41.drew.cell? (p60.add 8) = some (.slice x61.base x61.len x61.cap) ∧
            NC x61.base fun p62 =>
            ((0 : Int) ≤ a1 ∧ (a1 : Int) < (x61.len : Nat)) ∧
            ∃ x63 : (Option Nat), w41.drew.cell? (p62.add (Int.toNat a1 * 1)) = some (.map x63) ∧
            ∃ c64 : Int, w41.drew.cell? ((Addr.mk b30 0 none).add 0) = some (.int .i64 c64) ∧
            ∃ c65 : Int, w41.drew.cell? ((Addr.mk b30 0 none).add 1) = some (.int .i64 c65) ∧
            ∃ c66 : Int, w41.drew.cell? ((Addr.mk b30 0 none).add 2) = some (.int .i64 c66) ∧
            MUPD .u64 a2 (.agg ⟨[.int .i64 c64, .int .i64 c65, .int .i64 c66]⟩) x63 w41.drew fun w67 =>
            ∃ c68 : Int, w67.cell? ((Addr.mk b30 0 none).add 0) = some (.int .i64 c68) ∧
            ∃ c69 : Int, w67.cell? ((Addr.mk b30 0 none).add 1) = some (.int .i64 c69) ∧
            ∃ c70 : Int, w67.cell? ((Addr.mk b30 0 none).add 2) = some (.int .i64 c70) ∧
            stCells (Addr.mk b1 0 none) 0 [.int .i64 c68, .int .i64 c69, .int .i64 c70] w67 fun w71 =>
            ∃ c72 : Int, w71.cell? ((Addr.mk b1 0 none).add 0) = some (.int .i64 c72) ∧
            ∃ c73 : Int, w71.cell? ((Addr.mk b1 0 none).add 1) = some (.int .i64 c73) ∧
            ∃ c74 : Int, w71.cell? ((Addr.mk b1 0 none).add 2) = some (.int .i64 c74) ∧
            K c72 c73 c74 0 w71
          )
        ) w35
        ) w33
        ) w31
      )
    )

def F.mallowlaw9_awake (E : Env)  (K : Bool → World → Prop) (w : World) : Prop :=
  F.radix_New E  (fun r1 w2 =>
  CND (r1.isNone) (
    K false w2
  ) (
    F.radix_Tree_Grow E r1 1 2 (fun r3 w4 =>
    F.radix_Tree_Alloc E r1 600 (fun r5 r6 r7 w8 =>
    F.radix_Tree_Find E r1 1 (fun r9 r10 w11 =>
    F.radix_Tree_Sum E r1 3 1 (fun r12 r13 r14 r15 w16 =>
    AL (.cells #[.int .i64 0, .int .i64 0, .int .i64 0] E.t_api_Sum) w16 fun b17 w18 =>
    stCells (Addr.mk b17 0 none) 0 [.int .i64 r12, .int .i64 r13, .int .i64 r14] w18 fun w19 =>
    CND ((r3 : Int) == 0) (
      CND ((r5 : Int) == 512) (
        CND ((r6 : Int) == 600) (
          CND ((r7 : Int) == 0) (
            CND ((r9 : Int) == 1112) (
              CND (r10) (
                ∃ c20 : Int, w19.cell? ((Addr.mk b17 0 none).add 0) = some (.int .i64 c20) ∧
                ∃ c21 : Int, w19.cell? ((Addr.mk b17 0 none).add 1) = some (.int .i64 c21) ∧
                ∃ c22 : Int, w19.cell? ((Addr.mk b17 0 none).add 2) = some (.int .i64 c22) ∧
                CND ((((c20 : Int) == 0) && (((c21 : Int) == 0) && (((c22 : Int) == 0) && true)))) (
                  CND ((r15 : Int) == 0) (
                    F.radix_Tree_Free E r1 (fun r23 w24 =>
                    K ((r23 : Int) == 424) w24
                    ) w19
                  ) (
                    K false w19
                  )
                ) (
                  K false w19
                )
              ) (
                K false w19
              )
            ) (
              K false w19
            )
          ) (
            K false w19
          )
        ) (
          K false w19
        )
      ) (
        K false w19
      )
    ) (
      K false w19
    )
    ) w11
    ) w8
    ) w4
    ) w2
  )
  ) w

def F.mallowlaw9_RadixGaps (E : Env) (a0 : Int) (a1 : Bool) (a2 : Int) (K : Bool → World → Prop) (w : World) : Prop :=
  JOIN (Bool × Unit) (fun J1 =>
    CND (decide ((a0 : Int) < 1)) (
      J1 (true, ()) w
    ) (
      CND (decide ((a0 : Int) > 33554432)) (
        J1 (true, ()) w
      ) (
        CND (decide ((a2 : Int) < 513)) (
          J1 (true, ()) w
        ) (
          J1 (decide ((a2 : Int) > 1024), ()) w
        )
      )
    )
  ) fun s2 _ w3 =>
    CND (s2.1) (
      K true w3
    ) (
      F.radix_New E  (fun r4 w5 =>
      CND (r4.isNone) (
        K false w5
      ) (
        JOIN (Int × Unit) (fun J6 =>
          CND (a1) (
            J6 (u64 ((u64 (a0 + 1)) + 1), ()) w5
          ) (
            J6 (u64 (a0 + 1), ()) w5
          )
        ) fun s7 _ w8 =>
          JOIN (Bool × Unit) (fun J9 =>
            F.radix_Tree_Grow E r4 s7.1 1 (fun r12 w13 =>
            CND ((r12 : Int) != 0) (
              J9 (true, ()) w13
            ) (
              F.radix_Tree_Grow E r4 a0 1 (fun r14 w15 =>
              J9 ((r14 : Int) != 0, ()) w15
              ) w13
            )
            ) w8
          ) fun s10 _ w11 =>
            CND (s10.1) (
              K false w11
            ) (
              F.radix_Tree_Find E r4 a2 (fun r16 r17 w18 =>
              F.radix_Tree_Alloc E r4 a2 (fun r19 r20 r21 w22 =>
              CND (a1) (
                F.radix_Tree_Take E r4 (u64 ((u64 (a0 * 512)) + 511)) 2 (fun r23 r24 w25 =>
                CND (!r17) (
                  CND ((r21 : Int) == 30) (
                    CND ((r24 : Int) == 10) (
                      F.radix_Tree_Free E r4 (fun r26 w27 =>
                      CND ((r26 : Int) == 1024) (
                        F.mallowlaw9_awake E  (fun r28 w29 =>
                        K r28 w29
                        ) w27
                      ) (
                        K false w27
                      )
                      ) w25
                    ) (
                      K false w25
                    )
                  ) (
                    K false w25
                  )
                ) (
                  K false w25
                )
                ) w22
              ) (
                CND (r17) (
                  CND ((r16 : Int) == (u64 (a0 * 512))) (
                    CND ((r21 : Int) == 0) (
                      F.radix_Tree_Free E r4 (fun r30 w31 =>
                      CND ((r30 : Int) == (u64 (1024 - a2))) (
                        F.mallowlaw9_awake E  (fun r32 w33 =>
                        K r32 w33
                        ) w31
                      ) (
                        K false w31
                      )
                      ) w22
                    ) (
                      K false w22
                    )
                  ) (
                    K false w22
                  )
                ) (
                  K false w22
                )
              )
              ) w18
              ) w11
            )
      )
      ) w3
    )

def F.mallowlaw9_RadixEdges (E : Env) (a0 : Int) (a1 : Int) (K : Bool → World → Prop) (w : World) : Prop :=
  JOIN (Bool × Unit) (fun J1 =>
    CND (decide ((a0 : Int) < 1)) (
      J1 (true, ()) w
    ) (
      CND (decide ((a0 : Int) > 20)) (
        J1 (true, ()) w
      ) (
        CND (decide ((a1 : Int) < 1)) (
          J1 (true, ()) w
        ) (
          J1 (decide ((a1 : Int) > (u64 (a0 * 512))), ()) w
        )
      )
    )
  ) fun s2 _ w3 =>
    CND (s2.1) (
      K true w3
    ) (
      F.radix_New E  (fun r4 w5 =>
      CND (r4.isNone) (
        K false w5
      ) (
        JOIN (Bool × Unit) (fun J6 =>
          F.radix_Tree_Grow E r4 (u64 (67108864 - a0)) (u64 (a0 + 1)) (fun r9 w10 =>
          CND ((r9 : Int) != 1) (
            J6 (true, ()) w10
          ) (
            F.radix_Tree_Grow E r4 (u64 (67108864 - a0)) a0 (fun r11 w12 =>
            CND ((r11 : Int) != 0) (
              J6 (true, ()) w12
            ) (
              F.radix_Tree_Grow E r4 67108863 1 (fun r13 w14 =>
              J6 ((r13 : Int) != 34, ()) w14
              ) w12
            )
            ) w10
          )
          ) w5
        ) fun s7 _ w8 =>
          CND (s7.1) (
            K false w8
          ) (
            LET (u64 (34359738368 - (u64 (512 * a0))) : Int) fun first_15 =>
            F.radix_Tree_Alloc E r4 a1 (fun r16 r17 r18 w19 =>
            JOIN (Bool × Unit) (fun J20 =>
              CND ((r16 : Int) != first_15) (
                J20 (true, ()) w19
              ) (
                J20 ((r18 : Int) != 0, ()) w19
              )
            ) fun s21 _ w22 =>
              CND (s21.1) (
                K false w22
              ) (
                F.radix_Tree_Take E r4 34359738367 2 (fun r23 r24 w25 =>
                F.radix_Tree_Find E r4 (u64 ((u64 ((u64 (512 * a0)) - a1)) + 1)) (fun r26 r27 w28 =>
                F.radix_Tree_Find E r4 (u64 ((u64 (512 * a0)) - a1)) (fun r29 r30 w31 =>
                CND ((r24 : Int) == 10) (
                  CND (!r27) (
                    CND ((a1 : Int) == (u64 (512 * a0))) (
                      F.mallowlaw9_awake E  (fun r32 w33 =>
                      K r32 w33
                      ) w31
                    ) (
                      CND (r30) (
                        CND ((r29 : Int) == (u64 (first_15 + a1))) (
                          F.mallowlaw9_awake E  (fun r34 w35 =>
                          K r34 w35
                          ) w31
                        ) (
                          K false w31
                        )
                      ) (
                        K false w31
                      )
                    )
                  ) (
                    K false w31
                  )
                ) (
                  K false w31
                )
                ) w28
                ) w25
                ) w22
              )
            ) w8
          )
      )
      ) w3
    )

def F.radix_Tree_Released (E : Env) (a0 : (Option Addr)) (K : Int → World → Prop) (w : World) : Prop :=
  NC a0 fun p1 =>
  F.stretch_Set_Sum E (some (p1.add 4)) (fun r2 w3 =>
  K r2 w3
  ) w

def F.stretch_Set_Has (E : Env) (a0 : (Option Addr)) (a1 : Int) (K : Bool → World → Prop) (w : World) : Prop :=
  F.stretch_Set_at E a0 a1 (fun r1 w2 =>
  NC a0 fun p3 =>
  ∃ x4 : SlV, w2.cell? p3 = some (.slice x4.base x4.len x4.cap) ∧
  CND (decide ((r1 : Int) < ((x4.len : Nat) : Int))) (
    NC a0 fun p5 =>
    ∃ x6 : SlV, w2.cell? p5 = some (.slice x6.base x6.len x6.cap) ∧
    NC x6.base fun p7 =>
    ((0 : Int) ≤ r1 ∧ (r1 : Int) < (x6.len : Nat)) ∧
    ∃ x8 : Int, w2.cell? (p7.add (Int.toNat r1 * 2)) = some (.int .u64 x8) ∧
    K (decide ((x8 : Int) ≤ a1)) w2
  ) (
    K false w2
  )
  ) w

def F.radix_Tree_State (E : Env) (a0 : (Option Addr)) (a1 : Int) (K : Bool → Bool → Bool → World → Prop) (w : World) : Prop :=
  NC a0 fun p1 =>
  NC a0 fun p2 =>
  NC a0 fun p3 =>
  F.stretch_Set_Has E (some p1) a1 (fun r4 w5 =>
  F.stretch_Set_Has E (some (p2.add 2)) a1 (fun r6 w7 =>
  F.stretch_Set_Has E (some (p3.add 4)) a1 (fun r8 w9 =>
  K r4 r6 r8 w9
  ) w7
  ) w5
  ) w.drew

def F.mallowlaw9_RadixTakes (E : Env) (a0 : SlV) (a1 : SlV) (K : Bool → World → Prop) (w : World) : Prop :=
  JOIN (Bool × Unit) (fun J1 =>
    CND (decide ((((a0.len : Nat) : Int) : Int) > 60)) (
      J1 (true, ()) w
    ) (
      J1 (decide ((((a1.len : Nat) : Int) : Int) > 60), ()) w
    )
  ) fun s2 _ w3 =>
    CND (s2.1) (
      K true w3
    ) (
      F.radix_New E  (fun r4 w5 =>
      JOIN (Bool × Unit) (fun J6 =>
        CND (r4.isNone) (
          J6 (true, ()) w5
        ) (
          F.radix_Tree_Grow E r4 2 2 (fun r9 w10 =>
          J6 ((r9 : Int) != 0, ()) w10
          ) w5
        )
      ) fun s7 _ w8 =>
        CND (s7.1) (
          K false w8
        ) (
          ((0 : Int) ≤ 1024 ∧ (1024 : Int) ≤ 1024 ∧ (1024 : Int) < 9223372036854775808 ∧ ((1 : Nat) : Int) * 1024 ≤ 140737488355328) ∧
          AL (.cells (mkZero #[.bool false] (Int.toNat 1024 * 1)) E.t_bool) w8 fun b11 w12 =>
          JOIN (Unit) (fun J13 =>
            LOOP (Int × Int × Unit) (1024, 0, ()) w12 fun s16 _ w17 next18 =>
              CND (decide ((s16.2.1 : Int) < ((a0.len : Nat) : Int))) (
                CND (decide ((s16.2.1 : Int) < ((a1.len : Nat) : Int))) (
                  JOIN (Bool × Unit) (fun J19 =>
                    NC a0.base fun p22 =>
                    ((0 : Int) ≤ s16.2.1 ∧ (s16.2.1 : Int) < (a0.len : Nat)) ∧
                    ∃ x23 : Int, w17.cell? (p22.add (Int.toNat s16.2.1 * 1)) = some (.int .u64 x23) ∧
                    CND (decide ((x23 : Int) > 1100)) (
                      J19 (true, ()) w17
                    ) (
                      NC a1.base fun p24 =>
                      ((0 : Int) ≤ s16.2.1 ∧ (s16.2.1 : Int) < (a1.len : Nat)) ∧
                      ∃ x25 : Int, w17.cell? (p24.add (Int.toNat s16.2.1 * 1)) = some (.int .u64 x25) ∧
                      J19 (decide ((x25 : Int) > 1100), ()) w17
                    )
                  ) fun s20 _ w21 =>
                    CND (s20.1) (
                      K true w21
                    ) (
                      NC a0.base fun p26 =>
                      ((0 : Int) ≤ s16.2.1 ∧ (s16.2.1 : Int) < (a0.len : Nat)) ∧
                      ∃ x27 : Int, w21.drew.cell? (p26.add (Int.toNat s16.2.1 * 1)) = some (.int .u64 x27) ∧
                      NC a1.base fun p28 =>
                      ((0 : Int) ≤ s16.2.1 ∧ (s16.2.1 : Int) < (a1.len : Nat)) ∧
                      ∃ x29 : Int, w21.drew.cell? (p28.add (Int.toNat s16.2.1 * 1)) = some (.int .u64 x29) ∧
                      F.radix_Tree_Take E r4 (u64 (1024 + x27)) x29 (fun r30 r31 w32 =>
                      w32.cell? (p26.add (Int.toNat s16.2.1 * 1)) = some (.int .u64 x27) ∧
                      JOIN (Int × Unit) (fun J33 =>
                        JOIN (Bool × Unit) (fun J36 =>
                          NC a1.base fun p39 =>
                          ((0 : Int) ≤ s16.2.1 ∧ (s16.2.1 : Int) < (a1.len : Nat)) ∧
                          ∃ x40 : Int, w32.drew.cell? (p39.add (Int.toNat s16.2.1 * 1)) = some (.int .u64 x40) ∧
                          CND ((x40 : Int) == 0) (
                            J36 (true, ()) w32.drew
                          ) (
                            NC a0.base fun p41 =>
                            ((0 : Int) ≤ s16.2.1 ∧ (s16.2.1 : Int) < (a0.len : Nat)) ∧
                            ∃ x42 : Int, w32.drew.cell? (p41.add (Int.toNat s16.2.1 * 1)) = some (.int .u64 x42) ∧
                            NC a1.base fun p43 =>
                            ((0 : Int) ≤ s16.2.1 ∧ (s16.2.1 : Int) < (a1.len : Nat)) ∧
                            ∃ x44 : Int, w32.drew.cell? (p43.add (Int.toNat s16.2.1 * 1)) = some (.int .u64 x44) ∧
                            J36 (decide (((u64 (x42 + x44)) : Int) > 1024), ()) w32.drew
                          )
                        ) fun s37 _ w38 =>
                          CND (s37.1) (
                            J33 (10, ()) w38
                          ) (
                            NC a0.base fun p45 =>
                            ((0 : Int) ≤ s16.2.1 ∧ (s16.2.1 : Int) < (a0.len : Nat)) ∧
                            ∃ x46 : Int, w38.cell? (p45.add (Int.toNat s16.2.1 * 1)) = some (.int .u64 x46) ∧
                            LOOP (Int × Int × Unit) (0, x46, ()) w38 fun s47 _ w48 next49 =>
                              NC a0.base fun p50 =>
                              ((0 : Int) ≤ s16.2.1 ∧ (s16.2.1 : Int) < (a0.len : Nat)) ∧
                              ∃ x51 : Int, w48.drew.cell? (p50.add (Int.toNat s16.2.1 * 1)) = some (.int .u64 x51) ∧
                              NC a1.base fun p52 =>
                              ((0 : Int) ≤ s16.2.1 ∧ (s16.2.1 : Int) < (a1.len : Nat)) ∧
                              ∃ x53 : Int, w48.drew.cell? (p52.add (Int.toNat s16.2.1 * 1)) = some (.int .u64 x53) ∧
                              CND (decide ((s47.2.1 : Int) < (u64 (x51 + x53)))) (
                                ((0 : Int) ≤ s47.2.1 ∧ (s47.2.1 : Int) < ((Int.toNat 1024) : Nat)) ∧
                                ∃ x54 : Bool, w48.drew.cell? ((Addr.mk b11 0 none).add (Int.toNat s47.2.1 * 1)) = some (.bool x54) ∧
                                CND (x54) (
                                  next49 (32, u64 (s47.2.1 + 1), ()) w48.drew
                                ) (
                                  next49 (s47.1, u64 (s47.2.1 + 1), ()) w48.drew
                                )
                              ) (
                                J33 (s47.1, ()) w48.drew
                              )
                          )
                      ) fun s34 _ w35 =>
                        JOIN (Bool × Unit) (fun J55 =>
                          CND ((r31 : Int) != s34.1) (
                            J55 (true, ()) w35
                          ) (
                            CND ((r31 : Int) != 0) (
                              CND ((r30 : Int) != 0) (
                                J55 (true, ()) w35
                              ) (
                                CND ((r31 : Int) == 0) (
                                  NC a1.base fun p58 =>
                                  ((0 : Int) ≤ s16.2.1 ∧ (s16.2.1 : Int) < (a1.len : Nat)) ∧
                                  ∃ x59 : Int, w35.cell? (p58.add (Int.toNat s16.2.1 * 1)) = some (.int .u64 x59) ∧
                                  J55 ((r30 : Int) != x59, ()) w35
                                ) (
                                  J55 (false, ()) w35
                                )
                              )
                            ) (
                              CND ((r31 : Int) == 0) (
                                NC a1.base fun p60 =>
                                ((0 : Int) ≤ s16.2.1 ∧ (s16.2.1 : Int) < (a1.len : Nat)) ∧
                                ∃ x61 : Int, w35.cell? (p60.add (Int.toNat s16.2.1 * 1)) = some (.int .u64 x61) ∧
                                J55 ((r30 : Int) != x61, ()) w35
                              ) (
                                J55 (false, ()) w35
                              )
                            )
                          )
                        ) fun s56 _ w57 =>
                          CND (s56.1) (
                            K false w57
                          ) (
                            JOIN (Int × Unit) (fun J62 =>
                              CND ((r31 : Int) == 0) (
                                NC a0.base fun p65 =>
                                ((0 : Int) ≤ s16.2.1 ∧ (s16.2.1 : Int) < (a0.len : Nat)) ∧
                                ∃ x66 : Int, w57.cell? (p65.add (Int.toNat s16.2.1 * 1)) = some (.int .u64 x66) ∧
                                LOOP (Int × Unit) (x66, ()) w57 fun s67 _ w68 next69 =>
                                  NC a0.base fun p70 =>
                                  ((0 : Int) ≤ s16.2.1 ∧ (s16.2.1 : Int) < (a0.len : Nat)) ∧
                                  ∃ x71 : Int, w68.drew.cell? (p70.add (Int.toNat s16.2.1 * 1)) = some (.int .u64 x71) ∧
                                  NC a1.base fun p72 =>
                                  ((0 : Int) ≤ s16.2.1 ∧ (s16.2.1 : Int) < (a1.len : Nat)) ∧
                                  ∃ x73 : Int, w68.drew.cell? (p72.add (Int.toNat s16.2.1 * 1)) = some (.int .u64 x73) ∧
                                  CND (decide ((s67.1 : Int) < (u64 (x71 + x73)))) (
                                    ((0 : Int) ≤ s67.1 ∧ (s67.1 : Int) < ((Int.toNat 1024) : Nat)) ∧
                                    stCells ((Addr.mk b11 0 none).add (Int.toNat s67.1 * 1)) 0 [.bool true] w68.drew fun w74 =>
                                    next69 (u64 (s67.1 + 1), ()) w74
                                  ) (
                                    NC a1.base fun p75 =>
                                    ((0 : Int) ≤ s16.2.1 ∧ (s16.2.1 : Int) < (a1.len : Nat)) ∧
                                    ∃ x76 : Int, w68.drew.cell? (p75.add (Int.toNat s16.2.1 * 1)) = some (.int .u64 x76) ∧
                                    J62 (u64 (s16.1 - x76), ()) w68.drew
                                  )
                              ) (
                                J62 (s16.1, ()) w57
                              )
                            ) fun s63 _ w64 =>
                              JOIN (Bool × Unit) (fun J77 =>
                                F.radix_Tree_Free E r4 (fun r80 w81 =>
                                CND ((r80 : Int) != s63.1) (
                                  J77 (true, ()) w81
                                ) (
                                  F.radix_Tree_Released E r4 (fun r82 w83 =>
                                  J77 ((r82 : Int) != s63.1, ()) w83
                                  ) w81
                                )
                                ) w64
                              ) fun s78 _ w79 =>
                                CND (s78.1) (
                                  K false w79
                                ) (
                                  next18 (s63.1, i64 (s16.2.1 + 1), ()) w79
                                )
                          )
                      ) w21.drew
                    )
                ) (
                  J13 (()) w17
                )
              ) (
                J13 (()) w17
              )
          ) fun s14 _ w15 =>
            LOOP (Int × Unit) (0, ()) w15 fun s84 _ w85 next86 =>
              CND (decide ((s84.1 : Int) < 1024)) (
                F.radix_Tree_State E r4 (u64 (1024 + s84.1)) (fun r87 r88 r89 w90 =>
                JOIN (Bool × Unit) (fun J91 =>
                  CND (!r87) (
                    J91 (true, ()) w90
                  ) (
                    ((0 : Int) ≤ s84.1 ∧ (s84.1 : Int) < ((Int.toNat 1024) : Nat)) ∧
                    ∃ x94 : Bool, w90.cell? ((Addr.mk b11 0 none).add (Int.toNat s84.1 * 1)) = some (.bool x94) ∧
                    J91 (r88 == x94, ()) w90
                  )
                ) fun s92 _ w93 =>
                  CND (s92.1) (
                    K false w93
                  ) (
                    next86 (u64 (s84.1 + 1), ()) w93
                  )
                ) w85
              ) (
                F.mallowlaw9_awake E  (fun r95 w96 =>
                K r95 w96
                ) w85
              )
        )
      ) w3
    )

def F.radix_Tree_freed (E : Env) (a0 : (Option Addr)) (a1 : Int) (a2 : Int) (a3 : (Option Addr)) (K : Int → World → Prop) (w : World) : Prop :=
  F.radix_Tree_looked E a0 a1 a2 false 31 (fun r1 w2 =>
  CND ((r1 : Int) != 0) (
    K r1 w2
  ) (
    NC a0 fun p3 =>
    F.stretch_Set_Add E (some (p3.add 2)) a1 (u64 (a1 + a2)) (fun  w4 =>
    F.stretch_Set_Add E a3 a1 (u64 (a1 + a2)) (fun  w5 =>
    F.radix_Tree_changed E a0 (fun  w6 =>
    K 0 w6
    ) w5
    ) w4
    ) w2
  )
  ) w

def F.radix_Tree_Give (E : Env) (a0 : (Option Addr)) (a1 : Int) (a2 : Int) (K : Int → World → Prop) (w : World) : Prop :=
  NC a0 fun p1 =>
  F.radix_Tree_freed E a0 a1 a2 (some (p1.add 6)) (fun r2 w3 =>
  K r2 w3
  ) w

def F.mallowlaw9_RadixFirst (E : Env) (a0 : SlV) (a1 : SlV) (K : Bool → World → Prop) (w : World) : Prop :=
  JOIN (Bool × Unit) (fun J1 =>
    CND (decide ((((a0.len : Nat) : Int) : Int) > 60)) (
      J1 (true, ()) w
    ) (
      J1 (decide ((((a1.len : Nat) : Int) : Int) > 60), ()) w
    )
  ) fun s2 _ w3 =>
    CND (s2.1) (
      K true w3
    ) (
      F.radix_New E  (fun r4 w5 =>
      JOIN (Bool × Unit) (fun J6 =>
        CND (r4.isNone) (
          J6 (true, ()) w5
        ) (
          F.radix_Tree_Grow E r4 3 3 (fun r9 w10 =>
          J6 ((r9 : Int) != 0, ()) w10
          ) w5
        )
      ) fun s7 _ w8 =>
        CND (s7.1) (
          K false w8
        ) (
          ((0 : Int) ≤ 1536 ∧ (1536 : Int) ≤ 1536 ∧ (1536 : Int) < 9223372036854775808 ∧ ((1 : Nat) : Int) * 1536 ≤ 140737488355328) ∧
          AL (.cells (mkZero #[.bool false] (Int.toNat 1536 * 1)) E.t_bool) w8 fun b11 w12 =>
          LOOP (SlV × SlV × Int × Unit) (⟨none, 0, 0⟩, ⟨none, 0, 0⟩, 0, ()) w12 fun s13 _ w14 next15 =>
            CND (decide ((s13.2.2.1 : Int) < ((a0.len : Nat) : Int))) (
              JOIN (Bool × Unit) (fun J16 =>
                NC a0.base fun p19 =>
                ((0 : Int) ≤ s13.2.2.1 ∧ (s13.2.2.1 : Int) < (a0.len : Nat)) ∧
                ∃ x20 : Int, w14.cell? (p19.add (Int.toNat s13.2.2.1 * 1)) = some (.int .u64 x20) ∧
                CND (decide ((x20 : Int) < 1)) (
                  J16 (true, ()) w14
                ) (
                  NC a0.base fun p21 =>
                  ((0 : Int) ≤ s13.2.2.1 ∧ (s13.2.2.1 : Int) < (a0.len : Nat)) ∧
                  ∃ x22 : Int, w14.cell? (p21.add (Int.toNat s13.2.2.1 * 1)) = some (.int .u64 x22) ∧
                  J16 (decide ((x22 : Int) > 1600), ()) w14
                )
              ) fun s17 _ w18 =>
                CND (s17.1) (
                  K true w18
                ) (
                  JOIN (Int × Unit) (fun J23 =>
                    LOOP (Int × Int × Int × Unit) (0, (-1), 0, ()) w18 fun s26 _ w27 next28 =>
                      CND (decide ((s26.2.2.1 : Int) < (((Int.toNat 1536) : Nat) : Int))) (
                        CND (decide ((s26.2.1 : Int) < 0)) (
                          JOIN (Int × Unit) (fun J29 =>
                            ((0 : Int) ≤ s26.2.2.1 ∧ (s26.2.2.1 : Int) < ((Int.toNat 1536) : Nat)) ∧
                            ∃ x32 : Bool, w27.cell? ((Addr.mk b11 0 none).add (Int.toNat s26.2.2.1 * 1)) = some (.bool x32) ∧
                            CND (x32) (
                              J29 (0, ()) w27
                            ) (
                              J29 (u64 (s26.1 + 1), ()) w27
                            )
                          ) fun s30 _ w31 =>
                            NC a0.base fun p33 =>
                            ((0 : Int) ≤ s13.2.2.1 ∧ (s13.2.2.1 : Int) < (a0.len : Nat)) ∧
                            ∃ x34 : Int, w31.cell? (p33.add (Int.toNat s13.2.2.1 * 1)) = some (.int .u64 x34) ∧
                            CND ((s30.1 : Int) == x34) (
                              LET (i64 ((i64 (s26.2.2.1 + 1)) - (i64 (s30.1))) : Int) fun want_35 =>
                              next28 (s30.1, want_35, i64 (s26.2.2.1 + 1), ()) w31
                            ) (
                              next28 (s30.1, s26.2.1, i64 (s26.2.2.1 + 1), ()) w31
                            )
                        ) (
                          J23 (s26.2.1, ()) w27
                        )
                      ) (
                        J23 (s26.2.1, ()) w27
                      )
                  ) fun s24 _ w25 =>
                    NC a0.base fun p36 =>
                    ((0 : Int) ≤ s13.2.2.1 ∧ (s13.2.2.1 : Int) < (a0.len : Nat)) ∧
                    ∃ x37 : Int, w25.cell? (p36.add (Int.toNat s13.2.2.1 * 1)) = some (.int .u64 x37) ∧
                    F.radix_Tree_Alloc E r4 x37 (fun r38 r39 r40 w41 =>
                    JOIN (Bool × Unit) (fun J42 =>
                      CND (!(((r40 : Int) == 0) == (decide ((s24.1 : Int) ≥ 0)))) (
                        J42 (true, ()) w41
                      ) (
                        CND ((r40 : Int) == 0) (
                          CND ((r38 : Int) != (u64 (1536 + (u64 (s24.1))))) (
                            J42 (true, ()) w41
                          ) (
                            CND ((r40 : Int) != 0) (
                              J42 ((r40 : Int) != 30, ()) w41
                            ) (
                              J42 (false, ()) w41
                            )
                          )
                        ) (
                          CND ((r40 : Int) != 0) (
                            J42 ((r40 : Int) != 30, ()) w41
                          ) (
                            J42 (false, ()) w41
                          )
                        )
                      )
                    ) fun s43 _ w44 =>
                      CND (s43.1) (
                        K false w44
                      ) (
                        JOIN (SlV × SlV × Unit) (fun J45 =>
                          CND ((r40 : Int) == 0) (
                            LOOP (Int × Unit) (s24.1, ()) w44 fun s48 _ w49 next50 =>
                              NC a0.base fun p51 =>
                              ((0 : Int) ≤ s13.2.2.1 ∧ (s13.2.2.1 : Int) < (a0.len : Nat)) ∧
                              ∃ x52 : Int, w49.cell? (p51.add (Int.toNat s13.2.2.1 * 1)) = some (.int .u64 x52) ∧
                              CND (decide ((s48.1 : Int) < (i64 (s24.1 + (i64 (x52)))))) (
                                ((0 : Int) ≤ s48.1 ∧ (s48.1 : Int) < ((Int.toNat 1536) : Nat)) ∧
                                stCells ((Addr.mk b11 0 none).add (Int.toNat s48.1 * 1)) 0 [.bool true] w49 fun w53 =>
                                next50 (i64 (s48.1 + 1), ()) w53
                              ) (
                                AL (.cells ⟨[.int .u64 r38]⟩ E.t_uint64) w49 fun b54 w55 =>
                                APP E.t_uint64 1 8 #[.int .u64 0] s13.1 ⟨(some (Addr.mk b54 0 none)), 1, 1⟩ w55 fun s56 w57 =>
                                NC a0.base fun p58 =>
                                ((0 : Int) ≤ s13.2.2.1 ∧ (s13.2.2.1 : Int) < (a0.len : Nat)) ∧
                                ∃ x59 : Int, w57.cell? (p58.add (Int.toNat s13.2.2.1 * 1)) = some (.int .u64 x59) ∧
                                AL (.cells ⟨[.int .u64 x59]⟩ E.t_uint64) w57 fun b60 w61 =>
                                APP E.t_uint64 1 8 #[.int .u64 0] s13.2.1 ⟨(some (Addr.mk b60 0 none)), 1, 1⟩ w61 fun s62 w63 =>
                                J45 (s56, s62, ()) w63
                              )
                          ) (
                            J45 (s13.1, s13.2.1, ()) w44
                          )
                        ) fun s46 _ w47 =>
                          JOIN (Bool × Unit) (fun J64 =>
                            CND (decide ((s13.2.2.1 : Int) < ((a1.len : Nat) : Int))) (
                              NC a1.base fun p67 =>
                              ((0 : Int) ≤ s13.2.2.1 ∧ (s13.2.2.1 : Int) < (a1.len : Nat)) ∧
                              ∃ x68 : Int, w47.cell? (p67.add (Int.toNat s13.2.2.1 * 1)) = some (.int .i64 x68) ∧
                              CND (decide ((x68 : Int) ≥ 0)) (
                                NC a1.base fun p69 =>
                                ((0 : Int) ≤ s13.2.2.1 ∧ (s13.2.2.1 : Int) < (a1.len : Nat)) ∧
                                ∃ x70 : Int, w47.cell? (p69.add (Int.toNat s13.2.2.1 * 1)) = some (.int .i64 x70) ∧
                                CND (decide ((x70 : Int) < ((s46.1.len : Nat) : Int))) (
                                  NC a1.base fun p71 =>
                                  ((0 : Int) ≤ s13.2.2.1 ∧ (s13.2.2.1 : Int) < (a1.len : Nat)) ∧
                                  ∃ x72 : Int, w47.cell? (p71.add (Int.toNat s13.2.2.1 * 1)) = some (.int .i64 x72) ∧
                                  NC s46.2.1.base fun p73 =>
                                  ((0 : Int) ≤ x72 ∧ (x72 : Int) < (s46.2.1.len : Nat)) ∧
                                  ∃ x74 : Int, w47.cell? (p73.add (Int.toNat x72 * 1)) = some (.int .u64 x74) ∧
                                  J64 (decide ((x74 : Int) > 0), ()) w47
                                ) (
                                  J64 (false, ()) w47
                                )
                              ) (
                                J64 (false, ()) w47
                              )
                            ) (
                              J64 (false, ()) w47
                            )
                          ) fun s65 _ w66 =>
                            CND (s65.1) (
                              NC a1.base fun p75 =>
                              ((0 : Int) ≤ s13.2.2.1 ∧ (s13.2.2.1 : Int) < (a1.len : Nat)) ∧
                              ∃ x76 : Int, w66.cell? (p75.add (Int.toNat s13.2.2.1 * 1)) = some (.int .i64 x76) ∧
                              NC s46.1.base fun p77 =>
                              ((0 : Int) ≤ x76 ∧ (x76 : Int) < (s46.1.len : Nat)) ∧
                              ∃ x78 : Int, w66.drew.cell? (p77.add (Int.toNat x76 * 1)) = some (.int .u64 x78) ∧
                              NC s46.2.1.base fun p79 =>
                              ((0 : Int) ≤ x76 ∧ (x76 : Int) < (s46.2.1.len : Nat)) ∧
                              ∃ x80 : Int, w66.drew.cell? (p79.add (Int.toNat x76 * 1)) = some (.int .u64 x80) ∧
                              F.radix_Tree_Give E r4 x78 x80 (fun r81 w82 =>
                              CND ((r81 : Int) != 0) (
                                K false w82
                              ) (
                                NC s46.1.base fun p83 =>
                                ((0 : Int) ≤ x76 ∧ (x76 : Int) < (s46.1.len : Nat)) ∧
                                ∃ x84 : Int, w82.cell? (p83.add (Int.toNat x76 * 1)) = some (.int .u64 x84) ∧
                                LOOP (Int × Unit) (x84, ()) w82 fun s85 _ w86 next87 =>
                                  NC s46.1.base fun p88 =>
                                  ((0 : Int) ≤ x76 ∧ (x76 : Int) < (s46.1.len : Nat)) ∧
                                  ∃ x89 : Int, w86.drew.cell? (p88.add (Int.toNat x76 * 1)) = some (.int .u64 x89) ∧
                                  NC s46.2.1.base fun p90 =>
                                  ((0 : Int) ≤ x76 ∧ (x76 : Int) < (s46.2.1.len : Nat)) ∧
                                  ∃ x91 : Int, w86.drew.cell? (p90.add (Int.toNat x76 * 1)) = some (.int .u64 x91) ∧
                                  CND (decide ((s85.1 : Int) < (u64 (x89 + x91)))) (
                                    ((0 : Int) ≤ (u64 (s85.1 - 1536)) ∧ ((u64 (s85.1 - 1536)) : Int) < ((Int.toNat 1536) : Nat)) ∧
                                    stCells ((Addr.mk b11 0 none).add (Int.toNat (u64 (s85.1 - 1536)) * 1)) 0 [.bool false] w86.drew fun w92 =>
                                    next87 (u64 (s85.1 + 1), ()) w92
                                  ) (
                                    NC s46.2.1.base fun p93 =>
                                    ((0 : Int) ≤ x76 ∧ (x76 : Int) < (s46.2.1.len : Nat)) ∧
                                    stCells (p93.add (Int.toNat x76 * 1)) 0 [.int .u64 0] w86.drew fun w94 =>
                                    next15 (s46.1, s46.2.1, i64 (s13.2.2.1 + 1), ()) w94
                                  )
                              )
                              ) w66.drew
                            ) (
                              next15 (s46.1, s46.2.1, i64 (s13.2.2.1 + 1), ()) w66
                            )
                      )
                    ) w25
                )
            ) (
              LOOP (Int × Int × Unit) (0, 0, ()) w14 fun s95 _ w96 next97 =>
                CND (decide ((s95.2.1 : Int) < (((Int.toNat 1536) : Nat) : Int))) (
                  ((0 : Int) ≤ s95.2.1 ∧ (s95.2.1 : Int) < ((Int.toNat 1536) : Nat)) ∧
                  ∃ x98 : Bool, w96.cell? ((Addr.mk b11 0 none).add (Int.toNat s95.2.1 * 1)) = some (.bool x98) ∧
                  CND (!x98) (
                    next97 (u64 (s95.1 + 1), i64 (s95.2.1 + 1), ()) w96
                  ) (
                    next97 (s95.1, i64 (s95.2.1 + 1), ()) w96
                  )
                ) (
                  F.radix_Tree_Free E r4 (fun r99 w100 =>
                  CND ((r99 : Int) == s95.1) (
                    F.mallowlaw9_awake E  (fun r101 w102 =>
                    K r101 w102
                    ) w100
                  ) (
                    K false w100
                  )
                  ) w96
                )
            )
        )
      ) w3
    )

def F.radix_Tree_Back (E : Env) (a0 : (Option Addr)) (a1 : Int) (a2 : Int) (K : Int → World → Prop) (w : World) : Prop :=
  NC a0 fun p1 =>
  F.radix_Tree_freed E a0 a1 a2 (some (p1.add 4)) (fun r2 w3 =>
  K r2 w3
  ) w

def F.mallowlaw9_RadixUndo (E : Env) (a0 : SlV) (a1 : Int) (K : Bool → World → Prop) (w : World) : Prop :=
  JOIN (Bool × Unit) (fun J1 =>
    CND (decide ((((a0.len : Nat) : Int) : Int) > 30)) (
      J1 (true, ()) w
    ) (
      CND (decide ((a1 : Int) < 1)) (
        J1 (true, ()) w
      ) (
        J1 (decide ((a1 : Int) > 2000), ()) w
      )
    )
  ) fun s2 _ w3 =>
    CND (s2.1) (
      K true w3
    ) (
      F.radix_New E  (fun r4 w5 =>
      JOIN (Bool × Unit) (fun J6 =>
        CND (r4.isNone) (
          J6 (true, ()) w5
        ) (
          F.radix_Tree_Grow E r4 4 3 (fun r9 w10 =>
          J6 ((r9 : Int) != 0, ()) w10
          ) w5
        )
      ) fun s7 _ w8 =>
        CND (s7.1) (
          K false w8
        ) (
          LOOP (Int × Unit) (0, ()) w8 fun s11 _ w12 next13 =>
            CND (decide ((s11.1 : Int) < ((a0.len : Nat) : Int))) (
              JOIN (Bool × Unit) (fun J14 =>
                NC a0.base fun p17 =>
                ((0 : Int) ≤ s11.1 ∧ (s11.1 : Int) < (a0.len : Nat)) ∧
                ∃ x18 : Int, w12.cell? (p17.add (Int.toNat s11.1 * 1)) = some (.int .u64 x18) ∧
                CND (decide ((x18 : Int) < 1)) (
                  J14 (true, ()) w12
                ) (
                  NC a0.base fun p19 =>
                  ((0 : Int) ≤ s11.1 ∧ (s11.1 : Int) < (a0.len : Nat)) ∧
                  ∃ x20 : Int, w12.cell? (p19.add (Int.toNat s11.1 * 1)) = some (.int .u64 x20) ∧
                  J14 (decide ((x20 : Int) > 200), ()) w12
                )
              ) fun s15 _ w16 =>
                CND (s15.1) (
                  K true w16
                ) (
                  NC a0.base fun p21 =>
                  ((0 : Int) ≤ s11.1 ∧ (s11.1 : Int) < (a0.len : Nat)) ∧
                  ∃ x22 : Int, w16.cell? (p21.add (Int.toNat s11.1 * 1)) = some (.int .u64 x22) ∧
                  F.radix_Tree_Alloc E r4 x22 (fun r23 r24 r25 w26 =>
                  JOIN (Bool × Unit) (fun J27 =>
                    CND ((r25 : Int) == 0) (
                      3 ≠ (0 : Int) ∧
                      CND (((Int.tmod s11.1 3) : Int) == 0) (
                        NC a0.base fun p30 =>
                        ((0 : Int) ≤ s11.1 ∧ (s11.1 : Int) < (a0.len : Nat)) ∧
                        ∃ x31 : Int, w26.cell? (p30.add (Int.toNat s11.1 * 1)) = some (.int .u64 x31) ∧
                        F.radix_Tree_Back E r4 r23 x31 (fun r32 w33 =>
                        J27 ((r32 : Int) != 0, ()) w33
                        ) w26
                      ) (
                        J27 (false, ()) w26
                      )
                    ) (
                      J27 (false, ()) w26
                    )
                  ) fun s28 _ w29 =>
                    CND (s28.1) (
                      K false w29
                    ) (
                      next13 (i64 (s11.1 + 1), ()) w29
                    )
                  ) w16
                )
            ) (
              F.radix_Tree_Free E r4 (fun r34 w35 =>
              F.radix_Tree_Released E r4 (fun r36 w37 =>
              F.radix_Tree_Sum E r4 0 0 (fun r38 r39 r40 r41 w42 =>
              AL (.cells #[.int .i64 0, .int .i64 0, .int .i64 0] E.t_api_Sum) w42 fun b43 w44 =>
              stCells (Addr.mk b43 0 none) 0 [.int .i64 r38, .int .i64 r39, .int .i64 r40] w44 fun w45 =>
              F.radix_Tree_Find E r4 a1 (fun r46 r47 w48 =>
              F.radix_Tree_Alloc E r4 a1 (fun r49 r50 r51 w52 =>
              CND (!(((r51 : Int) == 0) == r47)) (
                K false w52
              ) (
                CND (!r47) (
                  CND ((r51 : Int) == 30) (
                    F.mallowlaw9_awake E  (fun r53 w54 =>
                    K r53 w54
                    ) w52
                  ) (
                    K false w52
                  )
                ) (
                  JOIN (Bool × Unit) (fun J55 =>
                    CND ((r49 : Int) != r46) (
                      J55 (true, ()) w52
                    ) (
                      CND ((r50 : Int) != a1) (
                        J55 (true, ()) w52
                      ) (
                        F.radix_Tree_Back E r4 r49 a1 (fun r58 w59 =>
                        J55 ((r58 : Int) != 0, ()) w59
                        ) w52
                      )
                    )
                  ) fun s56 _ w57 =>
                    CND (s56.1) (
                      K false w57
                    ) (
                      F.radix_Tree_Sum E r4 0 0 (fun r60 r61 r62 r63 w64 =>
                      AL (.cells #[.int .i64 0, .int .i64 0, .int .i64 0] E.t_api_Sum) w64 fun b65 w66 =>
                      stCells (Addr.mk b65 0 none) 0 [.int .i64 r60, .int .i64 r61, .int .i64 r62] w66 fun w67 =>
                      F.radix_Tree_Find E r4 a1 (fun r68 r69 w70 =>
                      ∃ c71 : Int, w70.cell? ((Addr.mk b43 0 none).add 0) = some (.int .i64 c71) ∧
                      ∃ c72 : Int, w70.cell? ((Addr.mk b43 0 none).add 1) = some (.int .i64 c72) ∧
                      ∃ c73 : Int, w70.cell? ((Addr.mk b43 0 none).add 2) = some (.int .i64 c73) ∧
                      ∃ c74 : Int, w70.cell? ((Addr.mk b65 0 none).add 0) = some (.int .i64 c74) ∧
                      ∃ c75 : Int, w70.cell? ((Addr.mk b65 0 none).add 1) = some (.int .i64 c75) ∧
                      ∃ c76 : Int, w70.cell? ((Addr.mk b65 0 none).add 2) = some (.int .i64 c76) ∧
                      CND ((((c71 : Int) == c74) && (((c72 : Int) == c75) && (((c73 : Int) == c76) && true)))) (
                        CND ((r68 : Int) == r46) (
                          CND (r69) (
                            F.radix_Tree_Free E r4 (fun r77 w78 =>
                            CND ((r77 : Int) == r34) (
                              F.radix_Tree_Released E r4 (fun r79 w80 =>
                              CND ((r79 : Int) == r36) (
                                F.radix_Tree_Back E r4 r49 a1 (fun r81 w82 =>
                                CND ((r81 : Int) == 31) (
                                  F.mallowlaw9_awake E  (fun r83 w84 =>
                                  K r83 w84
                                  ) w82
                                ) (
                                  K false w82
                                )
                                ) w80
                              ) (
                                K false w80
                              )
                              ) w78
                            ) (
                              K false w78
                            )
                            ) w70
                          ) (
                            K false w70
                          )
                        ) (
                          K false w70
                        )
                      ) (
                        K false w70
                      )
                      ) w67
                      ) w57
                    )
                )
              )
              ) w48
              ) w45
              ) w37
              ) w35
              ) w12
            )
        )
      ) w3
    )

def F.radix_Tree_Scavenge (E : Env) (a0 : (Option Addr)) (a1 : Int) (K : Int → Int → World → Prop) (w : World) : Prop :=
  NC a0 fun p1 =>
  F.stretch_Set_All E (some (p1.add 6)) (fun r2 w3 =>
  JOIN (Bool × Unit) (fun J4 =>
    CND ((((r2.len : Nat) : Int) : Int) == 0) (
      J4 (true, ()) w3
    ) (
      J4 ((a1 : Int) == 0, ()) w3
    )
  ) fun s5 _ w6 =>
    CND (s5.1) (
      K 0 0 w6
    ) (
      NC r2.base fun p7 =>
      ((0 : Int) ≤ (i64 (((r2.len : Nat) : Int) - 1)) ∧ ((i64 (((r2.len : Nat) : Int) - 1)) : Int) < (r2.len : Nat)) ∧
      ∃ c8 : Int, w6.cell? ((p7.add (Int.toNat (i64 (((r2.len : Nat) : Int) - 1)) * 2)).add 0) = some (.int .u64 c8) ∧
      ∃ c9 : Int, w6.cell? ((p7.add (Int.toNat (i64 (((r2.len : Nat) : Int) - 1)) * 2)).add 1) = some (.int .u64 c9) ∧
      AL (.cells #[.int .u64 0, .int .u64 0] E.t_stretch_One) w6 fun b10 w11 =>
      stCells (Addr.mk b10 0 none) 0 [.int .u64 c8, .int .u64 c9] w11 fun w12 =>
      ∃ x13 : Int, w12.cell? (Addr.mk b10 0 none) = some (.int .u64 x13) ∧
      ∃ x14 : Int, w12.cell? ((Addr.mk b10 0 none).add 1) = some (.int .u64 x14) ∧
      512 ≠ (0 : Int) ∧
      LET (maxI x13 (u64 ((u64 (Int.tdiv (u64 (x14 - 1)) 512)) * 512)) : Int) fun from_15 =>
      ∃ x16 : Int, w12.cell? ((Addr.mk b10 0 none).add 1) = some (.int .u64 x16) ∧
      LET (minI (u64 (x16 - from_15)) a1 : Int) fun n_17 =>
      ∃ x18 : Int, w12.cell? ((Addr.mk b10 0 none).add 1) = some (.int .u64 x18) ∧
      NC a0 fun p19 =>
      F.stretch_Set_Cut E (some (p19.add 6)) (u64 (x18 - n_17)) (u64 ((u64 (x18 - n_17)) + n_17)) (fun  w20 =>
      NC a0 fun p21 =>
      F.stretch_Set_Add E (some (p21.add 4)) (u64 (x18 - n_17)) (u64 ((u64 (x18 - n_17)) + n_17)) (fun  w22 =>
      K (u64 (x18 - n_17)) n_17 w22
      ) w20
      ) w12
    )
  ) w

def F.mallowlaw9_RadixReleases (E : Env) (a0 : SlV) (a1 : Int) (a2 : Int) (K : Bool → World → Prop) (w : World) : Prop :=
  JOIN (Bool × Unit) (fun J1 =>
    CND (decide ((((a0.len : Nat) : Int) : Int) > 40)) (
      J1 (true, ()) w
    ) (
      CND (decide ((a1 : Int) < 1)) (
        J1 (true, ()) w
      ) (
        CND (decide ((a1 : Int) > 600)) (
          J1 (true, ()) w
        ) (
          CND (decide ((a2 : Int) < 1)) (
            J1 (true, ()) w
          ) (
            J1 (decide ((a2 : Int) > 1000), ()) w
          )
        )
      )
    )
  ) fun s2 _ w3 =>
    CND (s2.1) (
      K true w3
    ) (
      F.radix_New E  (fun r4 w5 =>
      JOIN (Bool × Unit) (fun J6 =>
        CND (r4.isNone) (
          J6 (true, ()) w5
        ) (
          F.radix_Tree_Grow E r4 9 2 (fun r9 w10 =>
          J6 ((r9 : Int) != 0, ()) w10
          ) w5
        )
      ) fun s7 _ w8 =>
        CND (s7.1) (
          K false w8
        ) (
          LOOP (SlV × Int × Unit) (⟨none, 0, 0⟩, 0, ()) w8 fun s11 _ w12 next13 =>
            CND (decide ((s11.2.1 : Int) < ((a0.len : Nat) : Int))) (
              JOIN (Bool × Unit) (fun J14 =>
                NC a0.base fun p17 =>
                ((0 : Int) ≤ s11.2.1 ∧ (s11.2.1 : Int) < (a0.len : Nat)) ∧
                ∃ x18 : Int, w12.cell? (p17.add (Int.toNat s11.2.1 * 1)) = some (.int .u64 x18) ∧
                CND (decide ((x18 : Int) < 1)) (
                  J14 (true, ()) w12
                ) (
                  NC a0.base fun p19 =>
                  ((0 : Int) ≤ s11.2.1 ∧ (s11.2.1 : Int) < (a0.len : Nat)) ∧
                  ∃ x20 : Int, w12.cell? (p19.add (Int.toNat s11.2.1 * 1)) = some (.int .u64 x20) ∧
                  J14 (decide ((x20 : Int) > 300), ()) w12
                )
              ) fun s15 _ w16 =>
                CND (s15.1) (
                  K true w16
                ) (
                  NC a0.base fun p21 =>
                  ((0 : Int) ≤ s11.2.1 ∧ (s11.2.1 : Int) < (a0.len : Nat)) ∧
                  ∃ x22 : Int, w16.cell? (p21.add (Int.toNat s11.2.1 * 1)) = some (.int .u64 x22) ∧
                  F.radix_Tree_Alloc E r4 x22 (fun r23 r24 r25 w26 =>
                  CND ((r25 : Int) == 0) (
                    AL (.cells ⟨[.int .u64 r23]⟩ E.t_uint64) w26 fun b27 w28 =>
                    APP E.t_uint64 1 8 #[.int .u64 0] s11.1 ⟨(some (Addr.mk b27 0 none)), 1, 1⟩ w28 fun s29 w30 =>
                    JOIN (Bool × Unit) (fun J31 =>
                      2 ≠ (0 : Int) ∧
                      CND (((Int.tmod s11.2.1 2) : Int) == 1) (
                        NC a0.base fun p34 =>
                        ((0 : Int) ≤ s11.2.1 ∧ (s11.2.1 : Int) < (a0.len : Nat)) ∧
                        ∃ x35 : Int, w30.cell? (p34.add (Int.toNat s11.2.1 * 1)) = some (.int .u64 x35) ∧
                        F.radix_Tree_Give E r4 r23 x35 (fun r36 w37 =>
                        J31 ((r36 : Int) != 0, ()) w37
                        ) w30
                      ) (
                        J31 (false, ()) w30
                      )
                    ) fun s32 _ w33 =>
                      CND (s32.1) (
                        K false w33
                      ) (
                        next13 (s29, i64 (s11.2.1 + 1), ()) w33
                      )
                  ) (
                    next13 (s11.1, i64 (s11.2.1 + 1), ()) w26
                  )
                  ) w16
                )
            ) (
              LOOP (Int × Unit) (1099511627776, ()) w12 fun s38 _ w39 next40 =>
                F.radix_Tree_Released E r4 (fun r41 w42 =>
                F.radix_Tree_Scavenge E r4 a1 (fun r43 r44 w45 =>
                CND ((r44 : Int) == 0) (
                  F.radix_Tree_Released E r4 (fun r46 w47 =>
                  F.radix_Tree_Free E r4 (fun r48 w49 =>
                  CND ((r46 : Int) != r48) (
                    K false w49
                  ) (
                    F.radix_Tree_Alloc E r4 a2 (fun r50 r51 r52 w53 =>
                    JOIN (Bool × Unit) (fun J54 =>
                      CND ((r52 : Int) == 0) (
                        CND ((r51 : Int) != a2) (
                          J54 (true, ()) w53
                        ) (
                          F.radix_Tree_Back E r4 r50 a2 (fun r57 w58 =>
                          CND ((r57 : Int) != 0) (
                            J54 (true, ()) w58
                          ) (
                            F.radix_Tree_Released E r4 (fun r59 w60 =>
                            F.radix_Tree_Free E r4 (fun r61 w62 =>
                            J54 ((r59 : Int) != r61, ()) w62
                            ) w60
                            ) w58
                          )
                          ) w53
                        )
                      ) (
                        J54 (false, ()) w53
                      )
                    ) fun s55 _ w56 =>
                      CND (s55.1) (
                        K false w56
                      ) (
                        F.mallowlaw9_awake E  (fun r63 w64 =>
                        K r63 w64
                        ) w56
                      )
                    ) w49
                  )
                  ) w47
                  ) w45
                ) (
                  JOIN (Bool × Unit) (fun J65 =>
                    CND (decide ((r44 : Int) > a1)) (
                      J65 (true, ()) w45
                    ) (
                      CND (decide (((u64 (r43 + r44)) : Int) > s38.1)) (
                        J65 (true, ()) w45
                      ) (
                        F.radix_Tree_Released E r4 (fun r68 w69 =>
                        J65 ((r68 : Int) != (u64 (r41 + r44)), ()) w69
                        ) w45
                      )
                    )
                  ) fun s66 _ w67 =>
                    CND (s66.1) (
                      K false w67
                    ) (
                      LOOP (Int × Unit) (r43, ()) w67 fun s70 _ w71 next72 =>
                        CND (decide ((s70.1 : Int) < (u64 (r43 + r44)))) (
                          F.radix_Tree_State E r4 s70.1 (fun r73 r74 r75 w76 =>
                          JOIN (Bool × Unit) (fun J77 =>
                            CND (!r73) (
                              J77 (true, ()) w76
                            ) (
                              CND (!r74) (
                                J77 (true, ()) w76
                              ) (
                                J77 (!r75, ()) w76
                              )
                            )
                          ) fun s78 _ w79 =>
                            CND (s78.1) (
                              K false w79
                            ) (
                              next72 (u64 (s70.1 + 1), ()) w79
                            )
                          ) w71
                        ) (
                          next40 (r43, ()) w71
                        )
                    )
                )
                ) w42
                ) w39
            )
        )
      ) w3
    )

def F.stretch_Set_at_1 (E : Env) (a0 : Int) (a1 : (Option Addr)) (a2 : (Option Addr)) (K : Bool → World → Prop) (w : World) : Prop :=
  NC a1 fun p1 =>
  ∃ x2 : (Option Addr), w.drew.cell? p1 = some (.pointer x2) ∧
  NC x2 fun p3 =>
  ∃ x4 : SlV, w.drew.cell? p3 = some (.slice x4.base x4.len x4.cap) ∧
  NC x4.base fun p5 =>
  ((0 : Int) ≤ a0 ∧ (a0 : Int) < (x4.len : Nat)) ∧
  ∃ x6 : Int, w.drew.cell? ((p5.add (Int.toNat a0 * 2)).add 1) = some (.int .u64 x6) ∧
  NC a2 fun p7 =>
  ∃ x8 : Int, w.drew.cell? p7 = some (.int .u64 x8) ∧
  K (decide ((x6 : Int) > x8)) w.drew

end Go.Sh
