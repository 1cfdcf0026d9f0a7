/- A text of this claim's own: SD.GTM. -/
import Derived.Test.YtpcigcogcgpldaaGreatDoorSDNames
set_option linter.unusedVariables false
set_option linter.unusedSimpArgs false
set_option linter.unusedVariables false
set_option maxRecDepth 100000
set_option maxHeartbeats 4000000
namespace Go.Proofs.YtpcigcogcgpldaaGreatDoor
open Go Go.Dx
-- dowel/dowellaw17.TwistMoves
theorem E_dowellaw17_TwistMoves (p0_0 : Int) (p0_1 : Int) (p0_2 : Int) (p0_3 : Int) (p0_4 : Int) (p0_5 : Int) (p0_6 : Int) (p1_0 : Int) (p1_1 : Int) (p1_2 : Int) (p2_0 : Int) (p2_1 : Int) (p2_2 : Int) (p2_3 : Int) (p2_4 : Int) (V0 : VH) (R : Value → VH → Prop)
    (h : ∀ m0 : Nat, ∀ m1 : Nat, ∀ m2 : Nat, CSpec Tryz.prog n_dowellaw17_known #[] V0 fun v0 V1 =>
    ∃ b3 : Bool, v0 = (.bool b3) ∧
    (((!b3) = true → R (.bool false) V1) ∧
    ((!b3) = false → CSpec Tryz.prog n_dowellaw09_Moved #[(.agg #[(.int .u8 p2_0), (.int .u8 p2_1), (.int .u8 p2_2), (.int .u8 p2_3), (.int .u8 p2_4)])] V1 fun v1 V2 =>
     ∃ r4 : R4, ∃ r5 : R4, ∃ r6 : R4, ∃ r7 : R4, ∃ r8 : R4, ∃ r9 : R4, ∃ r10 : R4, ∃ r11 : R4, ∃ r12 : R4, ∃ r13 : R4, ∃ r14 : R4, ∃ r15 : R4, ∃ b16 : Bool, v1 = (.tuple #[(w12 r4 r5 r6 r7 r8 r9 r10 r11 r12 r13 r14 r15), (.bool b16)]) ∧
     ∀ m17 : Nat, (((!b16) = true → R (.bool false) V2) ∧
     ((!b16) = false → CSpec Tryz.prog n_dowellaw17_Of #[(.agg #[(.int .i8 p0_0), (.int .i8 p0_1), (.int .i8 p0_2), (.int .i8 p0_3), (.int .i8 p0_4), (.int .i8 p0_5), (.int .u8 p0_6)])] V2 fun v2 V3 =>
      ∃ r18 : R4, ∃ r19 : R4, ∃ r20 : R4, ∃ r21 : R4, ∃ r22 : R4, ∃ r23 : R4, v2 = (w6 r18 r19 r20 r21 r22 r23) ∧
      ∀ m24 : Nat, CSpec Tryz.prog n_twist_Move #[(w6 r18 r19 r20 r21 r22 r23), (w12 r4 r5 r6 r7 r8 r9 r10 r11 r12 r13 r14 r15)] V3 fun v3 V4 =>
      ∃ r25 : R4, ∃ r26 : R4, ∃ r27 : R4, ∃ r28 : R4, ∃ r29 : R4, ∃ r30 : R4, v3 = (w6 r25 r26 r27 r28 r29 r30) ∧
      ∀ m31 : Nat, CSpec Tryz.prog n_motion_Turn #[(w12 r4 r5 r6 r7 r8 r9 r10 r11 r12 r13 r14 r15), (w3 r18 r19 r20)] V4 fun v4 V5 =>
      ∃ r32 : R4, ∃ r33 : R4, ∃ r34 : R4, v4 = (w3 r32 r33 r34) ∧
      CSpec Tryz.prog n_vector_Equal #[(w3 r25 r26 r27), (w3 r32 r33 r34)] V5 fun v5 V6 =>
      ∃ b35 : Bool, v5 = (.bool b35) ∧
      ((b35 = true → CSpec Tryz.prog n_dowellaw17_point #[(.agg #[(.int .i8 p1_0), (.int .i8 p1_1), (.int .i8 p1_2)])] V6 fun v6 V7 =>
       ∃ r36 : R4, ∃ r37 : R4, ∃ r38 : R4, v6 = (w3 r36 r37 r38) ∧
       CSpec Tryz.prog n_motion_Apply #[(w12 r4 r5 r6 r7 r8 r9 r10 r11 r12 r13 r14 r15), (w3 r36 r37 r38)] V7 fun v7 V8 =>
       ∃ r39 : R4, ∃ r40 : R4, ∃ r41 : R4, v7 = (w3 r39 r40 r41) ∧
       CSpec Tryz.prog n_dowellaw17_velocity #[(w6 r25 r26 r27 r28 r29 r30), (w3 r39 r40 r41)] V8 fun v8 V9 =>
       ∃ r42 : R4, ∃ r43 : R4, ∃ r44 : R4, v8 = (w3 r42 r43 r44) ∧
       CSpec Tryz.prog n_dowellaw17_point #[(.agg #[(.int .i8 p1_0), (.int .i8 p1_1), (.int .i8 p1_2)])] V9 fun v9 V10 =>
       ∃ r45 : R4, ∃ r46 : R4, ∃ r47 : R4, v9 = (w3 r45 r46 r47) ∧
       CSpec Tryz.prog n_dowellaw17_velocity #[(w6 r18 r19 r20 r21 r22 r23), (w3 r45 r46 r47)] V10 fun v10 V11 =>
       ∃ r48 : R4, ∃ r49 : R4, ∃ r50 : R4, v10 = (w3 r48 r49 r50) ∧
       CSpec Tryz.prog n_motion_Turn #[(w12 r4 r5 r6 r7 r8 r9 r10 r11 r12 r13 r14 r15), (w3 r48 r49 r50)] V11 fun v11 V12 =>
       ∃ r51 : R4, ∃ r52 : R4, ∃ r53 : R4, v11 = (w3 r51 r52 r53) ∧
       CSpec Tryz.prog n_vector_Equal #[(w3 r42 r43 r44), (w3 r51 r52 r53)] V12 fun v12 V13 =>
       ∃ b54 : Bool, v12 = (.bool b54) ∧
       R (.bool b54) V13) ∧
      (b35 = false → R (.bool false) V6))))))) :
    CSpec Tryz.prog n_dowellaw17_TwistMoves #[(.agg #[(.int .i8 p0_0), (.int .i8 p0_1), (.int .i8 p0_2), (.int .i8 p0_3), (.int .i8 p0_4), (.int .i8 p0_5), (.int .u8 p0_6)]), (.agg #[(.int .i8 p1_0), (.int .i8 p1_1), (.int .i8 p1_2)]), (.agg #[(.int .u8 p2_0), (.int .u8 p2_1), (.int .u8 p2_2), (.int .u8 p2_3), (.int .u8 p2_4)])] V0 R :=
  enter (l := calTryz) (bor := borTryz) (own := ownTryz) (giv := givTryz) (grw := false) calOkTryz mixTryz Tryz.func4 (args := [.agg [.int .i8 (.var (OV.int .i8 p0_0)), .int .i8 (.var (OV.int .i8 p0_1)), .int .i8 (.var (OV.int .i8 p0_2)), .int .i8 (.var (OV.int .i8 p0_3)), .int .i8 (.var (OV.int .i8 p0_4)), .int .i8 (.var (OV.int .i8 p0_5)), .int .u8 (.var (OV.int .u8 p0_6))], .agg [.int .i8 (.var (OV.int .i8 p1_0)), .int .i8 (.var (OV.int .i8 p1_1)), .int .i8 (.var (OV.int .i8 p1_2))], .agg [.int .u8 (.var (OV.int .u8 p2_0)), .int .u8 (.var (OV.int .u8 p2_1)), .int .u8 (.var (OV.int .u8 p2_2)), .int .u8 (.var (OV.int .u8 p2_3)), .int .u8 (.var (OV.int .u8 p2_4))]]) (fuel := 3000) (hh := []) (by kernel_rfl) (Eq.mpr (by kernel_rfl) h)
end Go.Proofs.YtpcigcogcgpldaaGreatDoor
