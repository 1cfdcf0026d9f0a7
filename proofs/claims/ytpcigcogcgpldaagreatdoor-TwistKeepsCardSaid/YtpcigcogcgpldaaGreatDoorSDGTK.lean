/- A text of this claim's own: SD.GTK. -/
import Derived.Test.YtpcigcogcgpldaaGreatDoorSDNames
set_option linter.unusedVariables false
set_option linter.unusedSimpArgs false
set_option linter.unusedVariables false
set_option maxRecDepth 100000
set_option maxHeartbeats 4000000
namespace Go.Proofs.YtpcigcogcgpldaaGreatDoor
open Go Go.Dx
-- dowel/dowellaw17.TwistKeeps
theorem E_dowellaw17_TwistKeeps (p0_0 : Int) (p0_1 : Int) (p0_2 : Int) (p0_3 : Int) (p0_4 : Int) (p0_5 : Int) (p0_6 : Int) (p1_0 : Int) (p1_1 : Int) (p1_2 : Int) (p1_3 : Int) (p1_4 : Int) (p1_5 : Int) (p1_6 : Int) (p2_0 : Int) (p2_1 : Int) (p2_2 : Int) (p2_3 : Int) (p2_4 : Int) (V0 : VH) (R : Value → VH → Prop)
    (h : ∀ m0 : Nat, ∀ m1 : Nat, ∀ m2 : Nat, CSpec Tryz.prog n_dowellaw17_known #[] V0 fun v0 V1 =>
    ∃ b3 : Bool, v0 = (.bool b3) ∧
    (((!b3) = true → R (.bool false) V1) ∧
    ((!b3) = false → CSpec Tryz.prog n_dowellaw09_Moved #[(.agg #[(.int .u8 p2_0), (.int .u8 p2_1), (.int .u8 p2_2), (.int .u8 p2_3), (.int .u8 p2_4)])] V1 fun v1 V2 =>
     ∃ r4 : R4, ∃ r5 : R4, ∃ r6 : R4, ∃ r7 : R4, ∃ r8 : R4, ∃ r9 : R4, ∃ r10 : R4, ∃ r11 : R4, ∃ r12 : R4, ∃ r13 : R4, ∃ r14 : R4, ∃ r15 : R4, ∃ b16 : Bool, v1 = (.tuple #[(w12 r4 r5 r6 r7 r8 r9 r10 r11 r12 r13 r14 r15), (.bool b16)]) ∧
     ∀ m17 : Nat, (((!b16) = true → R (.bool false) V2) ∧
     ((!b16) = false → CSpec Tryz.prog n_dowellaw17_Of #[(.agg #[(.int .i8 p0_0), (.int .i8 p0_1), (.int .i8 p0_2), (.int .i8 p0_3), (.int .i8 p0_4), (.int .i8 p0_5), (.int .u8 p0_6)])] V2 fun v2 V3 =>
      ∃ r18 : R4, ∃ r19 : R4, ∃ r20 : R4, ∃ r21 : R4, ∃ r22 : R4, ∃ r23 : R4, v2 = (w6 r18 r19 r20 r21 r22 r23) ∧
      CSpec Tryz.prog n_dowellaw17_wrench #[(.agg #[(.int .i8 p1_0), (.int .i8 p1_1), (.int .i8 p1_2), (.int .i8 p1_3), (.int .i8 p1_4), (.int .i8 p1_5), (.int .u8 p1_6)])] V3 fun v3 V4 =>
      ∃ r24 : R4, ∃ r25 : R4, ∃ r26 : R4, ∃ r27 : R4, ∃ r28 : R4, ∃ r29 : R4, v3 = (w6 r24 r25 r26 r27 r28 r29) ∧
      ∀ m30 : Nat, ∀ m31 : Nat, CSpec Tryz.prog n_twist_MoveWrench #[(w6 r24 r25 r26 r27 r28 r29), (w12 r4 r5 r6 r7 r8 r9 r10 r11 r12 r13 r14 r15)] V4 fun v4 V5 =>
      ∃ r32 : R4, ∃ r33 : R4, ∃ r34 : R4, ∃ r35 : R4, ∃ r36 : R4, ∃ r37 : R4, v4 = (w6 r32 r33 r34 r35 r36 r37) ∧
      ∀ m38 : Nat, CSpec Tryz.prog n_dowellaw17_vec #[(.agg #[(.int .i8 p0_0), (.int .i8 p0_1), (.int .i8 p0_2), (.int .i8 p0_3), (.int .i8 p0_4), (.int .i8 p0_5), (.int .u8 p0_6)]), (.int .i64 (0 : Int))] V5 fun v5 V6 =>
      ∃ r39 : R4, ∃ r40 : R4, ∃ r41 : R4, v5 = (w3 r39 r40 r41) ∧
      CSpec Tryz.prog n_dowellaw17_vec #[(.agg #[(.int .i8 p1_0), (.int .i8 p1_1), (.int .i8 p1_2), (.int .i8 p1_3), (.int .i8 p1_4), (.int .i8 p1_5), (.int .u8 p1_6)]), (.int .i64 (0 : Int))] V6 fun v6 V7 =>
      ∃ r42 : R4, ∃ r43 : R4, ∃ r44 : R4, v6 = (w3 r42 r43 r44) ∧
      CSpec Tryz.prog n_twist_Force #[(w3 r39 r40 r41), (w3 r42 r43 r44)] V7 fun v7 V8 =>
      ∃ r45 : R4, ∃ r46 : R4, ∃ r47 : R4, ∃ r48 : R4, ∃ r49 : R4, ∃ r50 : R4, v7 = (w6 r45 r46 r47 r48 r49 r50) ∧
      CSpec Tryz.prog n_twist_MoveWrench #[(w6 r45 r46 r47 r48 r49 r50), (w12 r4 r5 r6 r7 r8 r9 r10 r11 r12 r13 r14 r15)] V8 fun v8 V9 =>
      ∃ r51 : R4, ∃ r52 : R4, ∃ r53 : R4, ∃ r54 : R4, ∃ r55 : R4, ∃ r56 : R4, v8 = (w6 r51 r52 r53 r54 r55 r56) ∧
      ∀ m57 : Nat, CSpec Tryz.prog n_dowellaw17_vec #[(.agg #[(.int .i8 p0_0), (.int .i8 p0_1), (.int .i8 p0_2), (.int .i8 p0_3), (.int .i8 p0_4), (.int .i8 p0_5), (.int .u8 p0_6)]), (.int .i64 (0 : Int))] V9 fun v9 V10 =>
      ∃ r58 : R4, ∃ r59 : R4, ∃ r60 : R4, v9 = (w3 r58 r59 r60) ∧
      CSpec Tryz.prog n_motion_Apply #[(w12 r4 r5 r6 r7 r8 r9 r10 r11 r12 r13 r14 r15), (w3 r58 r59 r60)] V10 fun v10 V11 =>
      ∃ r61 : R4, ∃ r62 : R4, ∃ r63 : R4, v10 = (w3 r61 r62 r63) ∧
      CSpec Tryz.prog n_dowellaw17_vec #[(.agg #[(.int .i8 p1_0), (.int .i8 p1_1), (.int .i8 p1_2), (.int .i8 p1_3), (.int .i8 p1_4), (.int .i8 p1_5), (.int .u8 p1_6)]), (.int .i64 (0 : Int))] V11 fun v11 V12 =>
      ∃ r64 : R4, ∃ r65 : R4, ∃ r66 : R4, v11 = (w3 r64 r65 r66) ∧
      CSpec Tryz.prog n_motion_Turn #[(w12 r4 r5 r6 r7 r8 r9 r10 r11 r12 r13 r14 r15), (w3 r64 r65 r66)] V12 fun v12 V13 =>
      ∃ r67 : R4, ∃ r68 : R4, ∃ r69 : R4, v12 = (w3 r67 r68 r69) ∧
      CSpec Tryz.prog n_twist_Force #[(w3 r61 r62 r63), (w3 r67 r68 r69)] V13 fun v13 V14 =>
      ∃ r70 : R4, ∃ r71 : R4, ∃ r72 : R4, ∃ r73 : R4, ∃ r74 : R4, ∃ r75 : R4, v13 = (w6 r70 r71 r72 r73 r74 r75) ∧
      ∀ m76 : Nat, CSpec Tryz.prog n_twist_Move #[(w6 r18 r19 r20 r21 r22 r23), (w12 r4 r5 r6 r7 r8 r9 r10 r11 r12 r13 r14 r15)] V14 fun v14 V15 =>
      ∃ r77 : R4, ∃ r78 : R4, ∃ r79 : R4, ∃ r80 : R4, ∃ r81 : R4, ∃ r82 : R4, v14 = (w6 r77 r78 r79 r80 r81 r82) ∧
      CSpec Tryz.prog n_motion_Invert #[(w12 r4 r5 r6 r7 r8 r9 r10 r11 r12 r13 r14 r15)] V15 fun v15 V16 =>
      ∃ r83 : R4, ∃ r84 : R4, ∃ r85 : R4, ∃ r86 : R4, ∃ r87 : R4, ∃ r88 : R4, ∃ r89 : R4, ∃ r90 : R4, ∃ r91 : R4, ∃ r92 : R4, ∃ r93 : R4, ∃ r94 : R4, v15 = (w12 r83 r84 r85 r86 r87 r88 r89 r90 r91 r92 r93 r94) ∧
      CSpec Tryz.prog n_twist_Move #[(w6 r77 r78 r79 r80 r81 r82), (w12 r83 r84 r85 r86 r87 r88 r89 r90 r91 r92 r93 r94)] V16 fun v16 V17 =>
      ∃ r95 : R4, ∃ r96 : R4, ∃ r97 : R4, ∃ r98 : R4, ∃ r99 : R4, ∃ r100 : R4, v16 = (w6 r95 r96 r97 r98 r99 r100) ∧
      ∀ m101 : Nat, CSpec Tryz.prog n_twist_Move #[(w6 r18 r19 r20 r21 r22 r23), (w12 r4 r5 r6 r7 r8 r9 r10 r11 r12 r13 r14 r15)] V17 fun v17 V18 =>
      ∃ r102 : R4, ∃ r103 : R4, ∃ r104 : R4, ∃ r105 : R4, ∃ r106 : R4, ∃ r107 : R4, v17 = (w6 r102 r103 r104 r105 r106 r107) ∧
      CSpec Tryz.prog n_twist_Power #[(w6 r102 r103 r104 r105 r106 r107), (w6 r32 r33 r34 r35 r36 r37)] V18 fun v18 V19 =>
      ∃ r108 : R4, v18 = (R4.v r108) ∧
      CSpec Tryz.prog n_twist_Power #[(w6 r18 r19 r20 r21 r22 r23), (w6 r24 r25 r26 r27 r28 r29)] V19 fun v19 V20 =>
      ∃ r109 : R4, v19 = (R4.v r109) ∧
      CSpec Tryz.prog n_dowellaw17_equal #[(R4.v r108), (R4.v r109)] V20 fun v20 V21 =>
      ∃ b110 : Bool, v20 = (.bool b110) ∧
      ((b110 = true → CSpec Tryz.prog n_motion_Turn #[(w12 r4 r5 r6 r7 r8 r9 r10 r11 r12 r13 r14 r15), (w3 r27 r28 r29)] V21 fun v21 V22 =>
       ∃ r111 : R4, ∃ r112 : R4, ∃ r113 : R4, v21 = (w3 r111 r112 r113) ∧
       CSpec Tryz.prog n_vector_Equal #[(w3 r35 r36 r37), (w3 r111 r112 r113)] V22 fun v22 V23 =>
       ∃ b114 : Bool, v22 = (.bool b114) ∧
       ((b114 = true → CSpec Tryz.prog n_vector_Equal #[(w3 r51 r52 r53), (w3 r70 r71 r72)] V23 fun v23 V24 =>
        ∃ b115 : Bool, v23 = (.bool b115) ∧
        ((b115 = true → CSpec Tryz.prog n_vector_Equal #[(w3 r54 r55 r56), (w3 r73 r74 r75)] V24 fun v24 V25 =>
         ∃ b116 : Bool, v24 = (.bool b116) ∧
         ((b116 = true → CSpec Tryz.prog n_twist_Equal #[(w6 r95 r96 r97 r98 r99 r100), (w6 r18 r19 r20 r21 r22 r23)] V25 fun v25 V26 =>
          ∃ b117 : Bool, v25 = (.bool b117) ∧
          R (.bool b117) V26) ∧
         (b116 = false → R (.bool false) V25))) ∧
        (b115 = false → R (.bool false) V24))) ∧
       (b114 = false → R (.bool false) V23))) ∧
      (b110 = false → R (.bool false) V21))))))) :
    CSpec Tryz.prog n_dowellaw17_TwistKeeps #[(.agg #[(.int .i8 p0_0), (.int .i8 p0_1), (.int .i8 p0_2), (.int .i8 p0_3), (.int .i8 p0_4), (.int .i8 p0_5), (.int .u8 p0_6)]), (.agg #[(.int .i8 p1_0), (.int .i8 p1_1), (.int .i8 p1_2), (.int .i8 p1_3), (.int .i8 p1_4), (.int .i8 p1_5), (.int .u8 p1_6)]), (.agg #[(.int .u8 p2_0), (.int .u8 p2_1), (.int .u8 p2_2), (.int .u8 p2_3), (.int .u8 p2_4)])] V0 R :=
  enter (l := calTryz) (bor := borTryz) (own := ownTryz) (giv := givTryz) (grw := false) calOkTryz mixTryz Tryz.func5 (args := [.agg [.int .i8 (.var (OV.int .i8 p0_0)), .int .i8 (.var (OV.int .i8 p0_1)), .int .i8 (.var (OV.int .i8 p0_2)), .int .i8 (.var (OV.int .i8 p0_3)), .int .i8 (.var (OV.int .i8 p0_4)), .int .i8 (.var (OV.int .i8 p0_5)), .int .u8 (.var (OV.int .u8 p0_6))], .agg [.int .i8 (.var (OV.int .i8 p1_0)), .int .i8 (.var (OV.int .i8 p1_1)), .int .i8 (.var (OV.int .i8 p1_2)), .int .i8 (.var (OV.int .i8 p1_3)), .int .i8 (.var (OV.int .i8 p1_4)), .int .i8 (.var (OV.int .i8 p1_5)), .int .u8 (.var (OV.int .u8 p1_6))], .agg [.int .u8 (.var (OV.int .u8 p2_0)), .int .u8 (.var (OV.int .u8 p2_1)), .int .u8 (.var (OV.int .u8 p2_2)), .int .u8 (.var (OV.int .u8 p2_3)), .int .u8 (.var (OV.int .u8 p2_4))]]) (fuel := 3000) (hh := []) (by kernel_rfl) (Eq.mpr (by kernel_rfl) h)
end Go.Proofs.YtpcigcogcgpldaaGreatDoor
