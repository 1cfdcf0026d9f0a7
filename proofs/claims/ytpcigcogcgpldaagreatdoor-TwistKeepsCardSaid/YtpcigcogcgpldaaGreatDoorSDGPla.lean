/- A text of this claim's own: SD.GPla. -/
import Derived.Test.YtpcigcogcgpldaaGreatDoorSDNames
set_option linter.unusedVariables false
set_option linter.unusedSimpArgs false
set_option linter.unusedVariables false
set_option maxRecDepth 100000
set_option maxHeartbeats 4000000
namespace Go.Proofs.YtpcigcogcgpldaaGreatDoor
open Go Go.Dx
-- dowel/motion.Check
theorem E_motion_Check (p0_0 : Int) (p0_1 : Int) (p0_2 : Int) (p0_3 : Int) (p0_4 : ByteArray) (p0_5 : ByteArray) (p0_6 : ByteArray) (V0 : VH) (R : Value → VH → Prop)
    (h : ∀ m0 : Nat, ((((p0_0 == (0 : Int)) && ((p0_1 == (0 : Int)) && ((p0_2 == (0 : Int)) && (p0_3 == (0 : Int))))) = true → R (.int .i64 (19 : Int)) V0) ∧
    (((p0_0 == (0 : Int)) && ((p0_1 == (0 : Int)) && ((p0_2 == (0 : Int)) && (p0_3 == (0 : Int))))) = false → (((decide (p0_0 < (-12 : Int))) = true → R (.int .i64 (2 : Int)) V0) ∧
     ((decide (p0_0 < (-12 : Int))) = false → (((decide ((12 : Int) < p0_0)) = true → R (.int .i64 (2 : Int)) V0) ∧
      ((decide ((12 : Int) < p0_0)) = false → (((decide (p0_1 < (-12 : Int))) = true → R (.int .i64 (2 : Int)) V0) ∧
       ((decide (p0_1 < (-12 : Int))) = false → (((decide ((12 : Int) < p0_1)) = true → R (.int .i64 (2 : Int)) V0) ∧
        ((decide ((12 : Int) < p0_1)) = false → (((decide (p0_2 < (-12 : Int))) = true → R (.int .i64 (2 : Int)) V0) ∧
         ((decide (p0_2 < (-12 : Int))) = false → (((decide ((12 : Int) < p0_2)) = true → R (.int .i64 (2 : Int)) V0) ∧
          ((decide ((12 : Int) < p0_2)) = false → (((decide (p0_3 < (-12 : Int))) = true → R (.int .i64 (2 : Int)) V0) ∧
           ((decide (p0_3 < (-12 : Int))) = false → (((decide ((12 : Int) < p0_3)) = true → R (.int .i64 (2 : Int)) V0) ∧
            ((decide ((12 : Int) < p0_3)) = false → ∃ (I1 : List OV → VH → Prop) (μ1 : List OV → Nat), I1 [(OV.int .i64 (0 : Int)), (OV.int .i64 (if p0_0 < (IntKind.wrap .i64 ((0 : Int) - p0_0)) then (IntKind.wrap .i64 ((0 : Int) - p0_0)) else p0_0))] V0 ∧
             ∀ V1 : VH, V0.le V1 → ∀ n2 : Int, ∀ n3 : Int, (I1 [(OV.int .i64 n2), (OV.int .i64 n3)] V1 →
              (((!(n3 == (0 : Int))) = true → (!(n3 == (0 : Int))) = true ∧
               (I1 [(OV.int .i64 n3), (OV.int .i64 (Int.tmod n2 n3))] V1 ∧ μ1 [(OV.int .i64 n3), (OV.int .i64 (Int.tmod n2 n3))] < μ1 [(OV.int .i64 n2), (OV.int .i64 n3)])) ∧
              ((!(n3 == (0 : Int))) = false → ∃ (I4 : List OV → VH → Prop) (μ4 : List OV → Nat), I4 [(OV.int .i64 n3), (OV.bool false), (OV.int .i64 n2), (OV.int .i64 (if p0_1 < (IntKind.wrap .i64 ((0 : Int) - p0_1)) then (IntKind.wrap .i64 ((0 : Int) - p0_1)) else p0_1))] V1 ∧
               ∀ V2 : VH, V1.le V2 → ∀ n5 : Int, ∀ b6 : Bool, ∀ n7 : Int, ∀ n8 : Int, (I4 [(OV.int .i64 n5), (OV.bool b6), (OV.int .i64 n7), (OV.int .i64 n8)] V2 →
                (((!(n8 == (0 : Int))) = true → (!(n8 == (0 : Int))) = true ∧
                 (I4 [(OV.int .i64 n8), (OV.bool true), (OV.int .i64 n8), (OV.int .i64 (Int.tmod n7 n8))] V2 ∧ μ4 [(OV.int .i64 n8), (OV.bool true), (OV.int .i64 n8), (OV.int .i64 (Int.tmod n7 n8))] < μ4 [(OV.int .i64 n5), (OV.bool b6), (OV.int .i64 n7), (OV.int .i64 n8)])) ∧
                ((!(n8 == (0 : Int))) = false → ∃ (I9 : List OV → VH → Prop) (μ9 : List OV → Nat), I9 [(OV.int .i64 n8), (OV.bool false), (OV.int .i64 n7), (OV.int .i64 (if p0_2 < (IntKind.wrap .i64 ((0 : Int) - p0_2)) then (IntKind.wrap .i64 ((0 : Int) - p0_2)) else p0_2))] V2 ∧
                 ∀ V3 : VH, V2.le V3 → ∀ n10 : Int, ∀ b11 : Bool, ∀ n12 : Int, ∀ n13 : Int, (I9 [(OV.int .i64 n10), (OV.bool b11), (OV.int .i64 n12), (OV.int .i64 n13)] V3 →
                  (((!(n13 == (0 : Int))) = true → (!(n13 == (0 : Int))) = true ∧
                   (I9 [(OV.int .i64 n13), (OV.bool true), (OV.int .i64 n13), (OV.int .i64 (Int.tmod n12 n13))] V3 ∧ μ9 [(OV.int .i64 n13), (OV.bool true), (OV.int .i64 n13), (OV.int .i64 (Int.tmod n12 n13))] < μ9 [(OV.int .i64 n10), (OV.bool b11), (OV.int .i64 n12), (OV.int .i64 n13)])) ∧
                  ((!(n13 == (0 : Int))) = false → ∃ (I14 : List OV → VH → Prop) (μ14 : List OV → Nat), I14 [(OV.int .i64 n13), (OV.bool false), (OV.int .i64 n12), (OV.int .i64 (if p0_3 < (IntKind.wrap .i64 ((0 : Int) - p0_3)) then (IntKind.wrap .i64 ((0 : Int) - p0_3)) else p0_3))] V3 ∧
                   ∀ V4 : VH, V3.le V4 → ∀ n15 : Int, ∀ b16 : Bool, ∀ n17 : Int, ∀ n18 : Int, (I14 [(OV.int .i64 n15), (OV.bool b16), (OV.int .i64 n17), (OV.int .i64 n18)] V4 →
                    (((!(n18 == (0 : Int))) = true → (!(n18 == (0 : Int))) = true ∧
                     (I14 [(OV.int .i64 n18), (OV.bool true), (OV.int .i64 n18), (OV.int .i64 (Int.tmod n17 n18))] V4 ∧ μ14 [(OV.int .i64 n18), (OV.bool true), (OV.int .i64 n18), (OV.int .i64 (Int.tmod n17 n18))] < μ14 [(OV.int .i64 n15), (OV.bool b16), (OV.int .i64 n17), (OV.int .i64 n18)])) ∧
                    ((!(n18 == (0 : Int))) = false → (((!(n17 == (1 : Int))) = true → R (.int .i64 (3 : Int)) V4) ∧
                     ((!(n17 == (1 : Int))) = false → (((decide ((if (if (if p0_0 = (0 : Int) then p0_1 else p0_0) = (0 : Int) then p0_2 else (if p0_0 = (0 : Int) then p0_1 else p0_0)) = (0 : Int) then p0_3 else (if (if p0_0 = (0 : Int) then p0_1 else p0_0) = (0 : Int) then p0_2 else (if p0_0 = (0 : Int) then p0_1 else p0_0))) < (0 : Int))) = true → R (.int .i64 (3 : Int)) V4) ∧
                      ((decide ((if (if (if p0_0 = (0 : Int) then p0_1 else p0_0) = (0 : Int) then p0_2 else (if p0_0 = (0 : Int) then p0_1 else p0_0)) = (0 : Int) then p0_3 else (if (if p0_0 = (0 : Int) then p0_1 else p0_0) = (0 : Int) then p0_2 else (if p0_0 = (0 : Int) then p0_1 else p0_0))) < (0 : Int))) = false → CSpec Tryz.prog n_vector_Parse #[(.agg #[(.string p0_4), (.string p0_5), (.string p0_6)])] V4 fun v4 V5 =>
                       ∃ r19 : R4, ∃ r20 : R4, ∃ r21 : R4, ∃ n22 : Int, v4 = (.tuple #[(w3 r19 r20 r21), (.int .i64 n22)]) ∧
                       ∀ m23 : Nat, R (.int .i64 n22) V5))))))))))))))))))))))))))))))))))) :
    CSpec Tryz.prog n_motion_Check #[(.agg #[(.int .i64 p0_0), (.int .i64 p0_1), (.int .i64 p0_2), (.int .i64 p0_3), (.string p0_4), (.string p0_5), (.string p0_6)])] V0 R :=
  enter (l := calTryz) (bor := borTryz) (own := ownTryz) (giv := givTryz) (grw := false) calOkTryz mixTryz Tryz.func42 (args := [.agg [.int .i64 (.var (OV.int .i64 p0_0)), .int .i64 (.var (OV.int .i64 p0_1)), .int .i64 (.var (OV.int .i64 p0_2)), .int .i64 (.var (OV.int .i64 p0_3)), .str (.var (OV.str p0_4)), .str (.var (OV.str p0_5)), .str (.var (OV.str p0_6))]]) (fuel := 3000) (hh := [.roll, .roll, .roll, .roll, .roll, .roll, .auto, .roll, .mrg, .auto, .roll, .mrg, .auto, .roll, .mrg, .auto, .roll]) (by kernel_rfl) (Eq.mpr (by kernel_rfl) h)
-- dowel/motion.Of
theorem E_motion_Of (p0_0 : Int) (p0_1 : Int) (p0_2 : Int) (p0_3 : Int) (p0_4 : ByteArray) (p0_5 : ByteArray) (p0_6 : ByteArray) (V0 : VH) (R : Value → VH → Prop)
    (h : ∀ m0 : Nat, ∀ m1 : Nat, CSpec Tryz.prog n_motion_Check #[(.agg #[(.int .i64 p0_0), (.int .i64 p0_1), (.int .i64 p0_2), (.int .i64 p0_3), (.string p0_4), (.string p0_5), (.string p0_6)])] V0 fun v0 V1 =>
    ∃ n2 : Int, v0 = (.int .i64 n2) ∧
    (((!(n2 == (0 : Int))) = true → R (.tuple #[(w12 zr zr zr zr zr zr zr zr zr zr zr zr), (.int .i64 n2)]) V1) ∧
    ((!(n2 == (0 : Int))) = false → CSpec Tryz.prog n_vector_Parse #[(.agg #[(.string p0_4), (.string p0_5), (.string p0_6)])] V1 fun v1 V2 =>
     ∃ r3 : R4, ∃ r4 : R4, ∃ r5 : R4, ∃ n6 : Int, v1 = (.tuple #[(w3 r3 r4 r5), (.int .i64 n6)]) ∧
     ∀ m7 : Nat, ∀ m8 : Nat, CSpec Tryz.prog n_rational_From #[(.int .i64 (1 : Int))] V2 fun v2 V3 =>
     ∃ r9 : R4, v2 = (R4.v r9) ∧
     CSpec Tryz.prog n_rational_From #[(.int .i64 (IntKind.wrap .i64 ((IntKind.wrap .i64 ((IntKind.wrap .i64 ((IntKind.wrap .i64 (p0_0 * p0_0)) + (IntKind.wrap .i64 (p0_1 * p0_1)))) + (IntKind.wrap .i64 (p0_2 * p0_2)))) + (IntKind.wrap .i64 (p0_3 * p0_3)))))] V3 fun v3 V4 =>
     ∃ r10 : R4, v3 = (R4.v r10) ∧
     CSpec Tryz.prog n_rational_Div #[(R4.v r9), (R4.v r10)] V4 fun v4 V5 =>
     ∃ r11 : R4, ∃ n12 : Int, v4 = (.tuple #[(R4.v r11), (.int .i64 n12)]) ∧
     ∀ m13 : Nat, ∀ m14 : Nat, ∀ m15 : Nat, CSpec Tryz.prog n_vector_Of #[(.agg #[(.int .i64 (IntKind.wrap .i64 ((IntKind.wrap .i64 ((IntKind.wrap .i64 ((IntKind.wrap .i64 (p0_0 * p0_0)) + (IntKind.wrap .i64 (p0_1 * p0_1)))) - (IntKind.wrap .i64 (p0_2 * p0_2)))) - (IntKind.wrap .i64 (p0_3 * p0_3))))), (.int .i64 (IntKind.wrap .i64 ((2 : Int) * (IntKind.wrap .i64 ((IntKind.wrap .i64 (p0_1 * p0_2)) - (IntKind.wrap .i64 (p0_0 * p0_3))))))), (.int .i64 (IntKind.wrap .i64 ((2 : Int) * (IntKind.wrap .i64 ((IntKind.wrap .i64 (p0_1 * p0_3)) + (IntKind.wrap .i64 (p0_0 * p0_2)))))))])] V5 fun v5 V6 =>
     ∃ r16 : R4, ∃ r17 : R4, ∃ r18 : R4, v5 = (w3 r16 r17 r18) ∧
     CSpec Tryz.prog n_vector_Scale #[(w3 r16 r17 r18), (R4.v r11)] V6 fun v6 V7 =>
     ∃ r19 : R4, ∃ r20 : R4, ∃ r21 : R4, v6 = (w3 r19 r20 r21) ∧
     ∀ m22 : Nat, CSpec Tryz.prog n_vector_Of #[(.agg #[(.int .i64 (IntKind.wrap .i64 ((2 : Int) * (IntKind.wrap .i64 ((IntKind.wrap .i64 (p0_1 * p0_2)) + (IntKind.wrap .i64 (p0_0 * p0_3))))))), (.int .i64 (IntKind.wrap .i64 ((IntKind.wrap .i64 ((IntKind.wrap .i64 ((IntKind.wrap .i64 (p0_0 * p0_0)) - (IntKind.wrap .i64 (p0_1 * p0_1)))) + (IntKind.wrap .i64 (p0_2 * p0_2)))) - (IntKind.wrap .i64 (p0_3 * p0_3))))), (.int .i64 (IntKind.wrap .i64 ((2 : Int) * (IntKind.wrap .i64 ((IntKind.wrap .i64 (p0_2 * p0_3)) - (IntKind.wrap .i64 (p0_0 * p0_1)))))))])] V7 fun v7 V8 =>
     ∃ r23 : R4, ∃ r24 : R4, ∃ r25 : R4, v7 = (w3 r23 r24 r25) ∧
     CSpec Tryz.prog n_vector_Scale #[(w3 r23 r24 r25), (R4.v r11)] V8 fun v8 V9 =>
     ∃ r26 : R4, ∃ r27 : R4, ∃ r28 : R4, v8 = (w3 r26 r27 r28) ∧
     ∀ m29 : Nat, CSpec Tryz.prog n_vector_Of #[(.agg #[(.int .i64 (IntKind.wrap .i64 ((2 : Int) * (IntKind.wrap .i64 ((IntKind.wrap .i64 (p0_1 * p0_3)) - (IntKind.wrap .i64 (p0_0 * p0_2))))))), (.int .i64 (IntKind.wrap .i64 ((2 : Int) * (IntKind.wrap .i64 ((IntKind.wrap .i64 (p0_2 * p0_3)) + (IntKind.wrap .i64 (p0_0 * p0_1))))))), (.int .i64 (IntKind.wrap .i64 ((IntKind.wrap .i64 ((IntKind.wrap .i64 ((IntKind.wrap .i64 (p0_0 * p0_0)) - (IntKind.wrap .i64 (p0_1 * p0_1)))) - (IntKind.wrap .i64 (p0_2 * p0_2)))) + (IntKind.wrap .i64 (p0_3 * p0_3)))))])] V9 fun v9 V10 =>
     ∃ r30 : R4, ∃ r31 : R4, ∃ r32 : R4, v9 = (w3 r30 r31 r32) ∧
     CSpec Tryz.prog n_vector_Scale #[(w3 r30 r31 r32), (R4.v r11)] V10 fun v10 V11 =>
     ∃ r33 : R4, ∃ r34 : R4, ∃ r35 : R4, v10 = (w3 r33 r34 r35) ∧
     R (.tuple #[(w12 r19 r20 r21 r26 r27 r28 r33 r34 r35 r3 r4 r5), (.int .i64 (0 : Int))]) V11))) :
    CSpec Tryz.prog n_motion_Of #[(.agg #[(.int .i64 p0_0), (.int .i64 p0_1), (.int .i64 p0_2), (.int .i64 p0_3), (.string p0_4), (.string p0_5), (.string p0_6)])] V0 R :=
  enter (l := calTryz) (bor := borTryz) (own := ownTryz) (giv := givTryz) (grw := false) calOkTryz mixTryz Tryz.func41 (args := [.agg [.int .i64 (.var (OV.int .i64 p0_0)), .int .i64 (.var (OV.int .i64 p0_1)), .int .i64 (.var (OV.int .i64 p0_2)), .int .i64 (.var (OV.int .i64 p0_3)), .str (.var (OV.str p0_4)), .str (.var (OV.str p0_5)), .str (.var (OV.str p0_6))]]) (fuel := 3000) (hh := []) (by kernel_rfl) (Eq.mpr (by kernel_rfl) h)
-- dowel/vector.read
theorem E_vector_read1funcrational_Parse (p0_0 : ByteArray) (p0_1 : ByteArray) (p0_2 : ByteArray) (V0 : VH) (R : Value → VH → Prop)
    (h : ∀ m0 : Nat, ∀ m1 : Nat, ∀ m2 : Nat, CSpec Tryz.prog n_rational_Parse #[(.string p0_0)] V0 fun v0 V1 =>
    ∃ r3 : R4, ∃ n4 : Int, v0 = (.tuple #[(R4.v r3), (.int .i64 n4)]) ∧
    ∀ m5 : Nat, (((!(n4 == (0 : Int))) = true → R (.tuple #[(w3 zr zr zr), (.int .i64 n4)]) V1) ∧
    ((!(n4 == (0 : Int))) = false → CSpec Tryz.prog n_rational_Parse #[(.string p0_1)] V1 fun v1 V2 =>
     ∃ r6 : R4, ∃ n7 : Int, v1 = (.tuple #[(R4.v r6), (.int .i64 n7)]) ∧
     ∀ m8 : Nat, (((!(n7 == (0 : Int))) = true → R (.tuple #[(w3 zr zr zr), (.int .i64 n7)]) V2) ∧
     ((!(n7 == (0 : Int))) = false → CSpec Tryz.prog n_rational_Parse #[(.string p0_2)] V2 fun v2 V3 =>
      ∃ r9 : R4, ∃ n10 : Int, v2 = (.tuple #[(R4.v r9), (.int .i64 n10)]) ∧
      ∀ m11 : Nat, (((!(n10 == (0 : Int))) = true → R (.tuple #[(w3 zr zr zr), (.int .i64 n10)]) V3) ∧
      ((!(n10 == (0 : Int))) = false → R (.tuple #[(w3 r3 r6 r9), (.int .i64 (0 : Int))]) V3))))))) :
    CSpec Tryz.prog n_vector_read #[(.agg #[(.string p0_0), (.string p0_1), (.string p0_2)]), (.func (.func 140) #[] #[])] V0 R :=
  enter (l := calTryz) (bor := borTryz) (own := ownTryz) (giv := givTryz) (grw := false) calOkTryz mixTryz Tryz.func139 (args := [.agg [.str (.var (OV.str p0_0)), .str (.var (OV.str p0_1)), .str (.var (OV.str p0_2))], .one (.const (.func (.func 140) #[] #[]))]) (fuel := 3000) (hh := [.roll]) (by kernel_rfl) (Eq.mpr (by kernel_rfl) h)
-- dowel/vector.Parse
theorem E_vector_Parse (p0_0 : ByteArray) (p0_1 : ByteArray) (p0_2 : ByteArray) (V0 : VH) (R : Value → VH → Prop)
    (h : ∀ m0 : Nat, ∀ m1 : Nat, CSpec Tryz.prog n_vector_read #[(.agg #[(.string p0_0), (.string p0_1), (.string p0_2)]), (.func (.func 140) #[] #[])] V0 fun v0 V1 =>
    ∃ r2 : R4, ∃ r3 : R4, ∃ r4 : R4, ∃ n5 : Int, v0 = (.tuple #[(w3 r2 r3 r4), (.int .i64 n5)]) ∧
    R (.tuple #[(w3 r2 r3 r4), (.int .i64 n5)]) V1) :
    CSpec Tryz.prog n_vector_Parse #[(.agg #[(.string p0_0), (.string p0_1), (.string p0_2)])] V0 R :=
  enter (l := calTryz) (bor := borTryz) (own := ownTryz) (giv := givTryz) (grw := false) calOkTryz mixTryz Tryz.func95 (args := [.agg [.str (.var (OV.str p0_0)), .str (.var (OV.str p0_1)), .str (.var (OV.str p0_2))]]) (fuel := 3000) (hh := []) (by kernel_rfl) (Eq.mpr (by kernel_rfl) h)
-- dowel/dowellaw09.moved
theorem E_dowellaw09_moved (p0_0 : Int) (p0_1 : Int) (p0_2 : Int) (p0_3 : Int) (p0_4 : Int) (V0 : VH) (R : Value → VH → Prop)
    (h : ∀ m0 : Nat, ∀ m1 : Nat, CSpec Tryz.prog n_motion_Quarters #[] V0 fun v0 V1 =>
    ∃ x2 : OV, v0 = x2.v ∧
    (isSlV x2.v) = true ∧
    (((!((lenV x2.v) == (24 : Int))) = true → R (.tuple #[(w12 zr zr zr zr zr zr zr zr zr zr zr zr), (.bool false)]) V1) ∧
    ((!((lenV x2.v) == (24 : Int))) = false → ∀ m3 : Nat, (decide ((0 : Int) < (lenV x2.v))) = true ∧
     (decide ((lenV x2.v) ≤ (1099511627776 : Int))) = true ∧
     ∃ ys1g : List Value, SlV V1 4 x2.v ys1g ∧
     ∀ (m1g : Nat) (tl1g : List Value), GOk 4 ([] ++ ys1g) tl1g →
     ∀ m4 : Nat, ((glen 4 ([] ++ ys1g)) == (glen 4 ([] ++ ys1g))) = true ∧
     ((gtot 4 ([] ++ ys1g) tl1g) == (gtot 4 ([] ++ ys1g) tl1g)) = true ∧
     (decide (GOk 4 ([] ++ ys1g) tl1g)) = true ∧
     (decide ((0 : Int) < ((glen 4 ([] ++ ys1g)) + (4 : Int)))) = true ∧
     (decide (((glen 4 ([] ++ ys1g)) + (4 : Int)) ≤ (1099511627776 : Int))) = true ∧
     ∀ (m2g : Nat) (tl2g : List Value), GOk 4 (([] ++ ys1g) ++ [(.int .i64 (2 : Int)), (.int .i64 (1 : Int)), (.int .i64 (0 : Int)), (.int .i64 (0 : Int)), (.int .i64 (1 : Int)), (.int .i64 (1 : Int)), (.int .i64 (1 : Int)), (.int .i64 (0 : Int)), (.int .i64 (1 : Int)), (.int .i64 (0 : Int)), (.int .i64 (2 : Int)), (.int .i64 (0 : Int)), (.int .i64 (3 : Int)), (.int .i64 (1 : Int)), (.int .i64 (1 : Int)), (.int .i64 (1 : Int))]) tl2g →
     (decide ((0 : Int) ≤ (glen 4 (([] ++ ys1g) ++ [(.int .i64 (2 : Int)), (.int .i64 (1 : Int)), (.int .i64 (0 : Int)), (.int .i64 (0 : Int)), (.int .i64 (1 : Int)), (.int .i64 (1 : Int)), (.int .i64 (1 : Int)), (.int .i64 (0 : Int)), (.int .i64 (1 : Int)), (.int .i64 (0 : Int)), (.int .i64 (2 : Int)), (.int .i64 (0 : Int)), (.int .i64 (3 : Int)), (.int .i64 (1 : Int)), (.int .i64 (1 : Int)), (.int .i64 (1 : Int))])))) = true ∧
     (!((glen 4 (([] ++ ys1g) ++ [(.int .i64 (2 : Int)), (.int .i64 (1 : Int)), (.int .i64 (0 : Int)), (.int .i64 (0 : Int)), (.int .i64 (1 : Int)), (.int .i64 (1 : Int)), (.int .i64 (1 : Int)), (.int .i64 (0 : Int)), (.int .i64 (1 : Int)), (.int .i64 (0 : Int)), (.int .i64 (2 : Int)), (.int .i64 (0 : Int)), (.int .i64 (3 : Int)), (.int .i64 (1 : Int)), (.int .i64 (1 : Int)), (.int .i64 (1 : Int))])) == (0 : Int))) = true ∧
     (decide ((0 : Int) ≤ (Int.tmod (IntKind.wrap .i64 p0_0) (glen 4 (([] ++ ys1g) ++ [(.int .i64 (2 : Int)), (.int .i64 (1 : Int)), (.int .i64 (0 : Int)), (.int .i64 (0 : Int)), (.int .i64 (1 : Int)), (.int .i64 (1 : Int)), (.int .i64 (1 : Int)), (.int .i64 (0 : Int)), (.int .i64 (1 : Int)), (.int .i64 (0 : Int)), (.int .i64 (2 : Int)), (.int .i64 (0 : Int)), (.int .i64 (3 : Int)), (.int .i64 (1 : Int)), (.int .i64 (1 : Int)), (.int .i64 (1 : Int))]))))) = true ∧
     (decide ((Int.tmod (IntKind.wrap .i64 p0_0) (glen 4 (([] ++ ys1g) ++ [(.int .i64 (2 : Int)), (.int .i64 (1 : Int)), (.int .i64 (0 : Int)), (.int .i64 (0 : Int)), (.int .i64 (1 : Int)), (.int .i64 (1 : Int)), (.int .i64 (1 : Int)), (.int .i64 (0 : Int)), (.int .i64 (1 : Int)), (.int .i64 (0 : Int)), (.int .i64 (2 : Int)), (.int .i64 (0 : Int)), (.int .i64 (3 : Int)), (.int .i64 (1 : Int)), (.int .i64 (1 : Int)), (.int .i64 (1 : Int))]))) < (glen 4 (([] ++ ys1g) ++ [(.int .i64 (2 : Int)), (.int .i64 (1 : Int)), (.int .i64 (0 : Int)), (.int .i64 (0 : Int)), (.int .i64 (1 : Int)), (.int .i64 (1 : Int)), (.int .i64 (1 : Int)), (.int .i64 (0 : Int)), (.int .i64 (1 : Int)), (.int .i64 (0 : Int)), (.int .i64 (2 : Int)), (.int .i64 (0 : Int)), (.int .i64 (3 : Int)), (.int .i64 (1 : Int)), (.int .i64 (1 : Int)), (.int .i64 (1 : Int))])))) = true ∧
     ∃ n5 : Int, ∃ n6 : Int, ∃ n7 : Int, ∃ n8 : Int, AtG (([] ++ ys1g) ++ [(.int .i64 (2 : Int)), (.int .i64 (1 : Int)), (.int .i64 (0 : Int)), (.int .i64 (0 : Int)), (.int .i64 (1 : Int)), (.int .i64 (1 : Int)), (.int .i64 (1 : Int)), (.int .i64 (0 : Int)), (.int .i64 (1 : Int)), (.int .i64 (0 : Int)), (.int .i64 (2 : Int)), (.int .i64 (0 : Int)), (.int .i64 (3 : Int)), (.int .i64 (1 : Int)), (.int .i64 (1 : Int)), (.int .i64 (1 : Int))]) (Int.toNat ((Int.tmod (IntKind.wrap .i64 p0_0) (glen 4 (([] ++ ys1g) ++ [(.int .i64 (2 : Int)), (.int .i64 (1 : Int)), (.int .i64 (0 : Int)), (.int .i64 (0 : Int)), (.int .i64 (1 : Int)), (.int .i64 (1 : Int)), (.int .i64 (1 : Int)), (.int .i64 (0 : Int)), (.int .i64 (1 : Int)), (.int .i64 (0 : Int)), (.int .i64 (2 : Int)), (.int .i64 (0 : Int)), (.int .i64 (3 : Int)), (.int .i64 (1 : Int)), (.int .i64 (1 : Int)), (.int .i64 (1 : Int))]))) * (4 : Int))) [(.int .i64 n5), (.int .i64 n6), (.int .i64 n7), (.int .i64 n8)] ∧
     ∀ m9 : Nat, CSpec Tryz.prog n_dowellaw09_quotient #[(.int .i64 (IntKind.wrap .i64 ((IntKind.wrap .i64 p0_1) - (100 : Int)))), (.int .i64 (IntKind.wrap .i64 ((1 : Int) + (IntKind.wrap .i64 (Int.tmod p0_4 (2 : Int))))))] V1 fun v3 V4 =>
     ∃ r10 : R4, v3 = (R4.v r10) ∧
     CSpec Tryz.prog n_rational_Rat_Number #[(R4.v r10)] V4 fun v4 V5 =>
     ∃ s11 : ByteArray, v4 = (.string s11) ∧
     CSpec Tryz.prog n_dowellaw09_quotient #[(.int .i64 (IntKind.wrap .i64 ((IntKind.wrap .i64 p0_2) - (100 : Int)))), (.int .i64 (IntKind.wrap .i64 ((1 : Int) + (IntKind.wrap .i64 (Int.tmod p0_4 (2 : Int))))))] V5 fun v5 V6 =>
     ∃ r12 : R4, v5 = (R4.v r12) ∧
     CSpec Tryz.prog n_rational_Rat_Number #[(R4.v r12)] V6 fun v6 V7 =>
     ∃ s13 : ByteArray, v6 = (.string s13) ∧
     CSpec Tryz.prog n_dowellaw09_quotient #[(.int .i64 (IntKind.wrap .i64 ((IntKind.wrap .i64 p0_3) - (100 : Int)))), (.int .i64 (IntKind.wrap .i64 ((1 : Int) + (IntKind.wrap .i64 (Int.tmod p0_4 (2 : Int))))))] V7 fun v7 V8 =>
     ∃ r14 : R4, v7 = (R4.v r14) ∧
     CSpec Tryz.prog n_rational_Rat_Number #[(R4.v r14)] V8 fun v8 V9 =>
     ∃ s15 : ByteArray, v8 = (.string s15) ∧
     CSpec Tryz.prog n_motion_Of #[(.agg #[(.int .i64 n5), (.int .i64 n6), (.int .i64 n7), (.int .i64 n8), (.string s11), (.string s13), (.string s15)])] V9 fun v9 V10 =>
     ∃ r16 : R4, ∃ r17 : R4, ∃ r18 : R4, ∃ r19 : R4, ∃ r20 : R4, ∃ r21 : R4, ∃ r22 : R4, ∃ r23 : R4, ∃ r24 : R4, ∃ r25 : R4, ∃ r26 : R4, ∃ r27 : R4, ∃ n28 : Int, v9 = (.tuple #[(w12 r16 r17 r18 r19 r20 r21 r22 r23 r24 r25 r26 r27), (.int .i64 n28)]) ∧
     ∀ m29 : Nat, R (.tuple #[(w12 r16 r17 r18 r19 r20 r21 r22 r23 r24 r25 r26 r27), (.bool (n28 == (0 : Int)))]) V10))) :
    CSpec Tryz.prog n_dowellaw09_moved #[(.agg #[(.int .u8 p0_0), (.int .u8 p0_1), (.int .u8 p0_2), (.int .u8 p0_3), (.int .u8 p0_4)])] V0 R :=
  enter (l := calTryz) (bor := borTryz) (own := ownTryz) (giv := givTryz) (grw := true) calOkTryz mixTryz Tryz.func86 (args := [.agg [.int .u8 (.var (OV.int .u8 p0_0)), .int .u8 (.var (OV.int .u8 p0_1)), .int .u8 (.var (OV.int .u8 p0_2)), .int .u8 (.var (OV.int .u8 p0_3)), .int .u8 (.var (OV.int .u8 p0_4))]]) (fuel := 3000) (hh := []) (by kernel_rfl) (Eq.mpr (by kernel_rfl) h)
-- dowel/dowellaw09.Moved
theorem E_dowellaw09_Moved (p0_0 : Int) (p0_1 : Int) (p0_2 : Int) (p0_3 : Int) (p0_4 : Int) (V0 : VH) (R : Value → VH → Prop)
    (h : ∀ m0 : Nat, ∀ m1 : Nat, CSpec Tryz.prog n_dowellaw09_moved #[(.agg #[(.int .u8 p0_0), (.int .u8 p0_1), (.int .u8 p0_2), (.int .u8 p0_3), (.int .u8 p0_4)])] V0 fun v0 V1 =>
    ∃ r2 : R4, ∃ r3 : R4, ∃ r4 : R4, ∃ r5 : R4, ∃ r6 : R4, ∃ r7 : R4, ∃ r8 : R4, ∃ r9 : R4, ∃ r10 : R4, ∃ r11 : R4, ∃ r12 : R4, ∃ r13 : R4, ∃ b14 : Bool, v0 = (.tuple #[(w12 r2 r3 r4 r5 r6 r7 r8 r9 r10 r11 r12 r13), (.bool b14)]) ∧
    R (.tuple #[(w12 r2 r3 r4 r5 r6 r7 r8 r9 r10 r11 r12 r13), (.bool b14)]) V1) :
    CSpec Tryz.prog n_dowellaw09_Moved #[(.agg #[(.int .u8 p0_0), (.int .u8 p0_1), (.int .u8 p0_2), (.int .u8 p0_3), (.int .u8 p0_4)])] V0 R :=
  enter (l := calTryz) (bor := borTryz) (own := ownTryz) (giv := givTryz) (grw := false) calOkTryz mixTryz Tryz.func22 (args := [.agg [.int .u8 (.var (OV.int .u8 p0_0)), .int .u8 (.var (OV.int .u8 p0_1)), .int .u8 (.var (OV.int .u8 p0_2)), .int .u8 (.var (OV.int .u8 p0_3)), .int .u8 (.var (OV.int .u8 p0_4))]]) (fuel := 3000) (hh := []) (by kernel_rfl) (Eq.mpr (by kernel_rfl) h)
end Go.Proofs.YtpcigcogcgpldaaGreatDoor
