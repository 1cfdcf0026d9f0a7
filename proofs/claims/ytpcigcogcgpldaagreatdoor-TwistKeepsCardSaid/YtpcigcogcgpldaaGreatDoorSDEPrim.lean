/- A text of this claim's own: SD.EPrim. -/
import Derived.Test.YtpcigcogcgpldaaGreatDoorSDNames
set_option linter.unusedVariables false
set_option linter.unusedSimpArgs false
set_option linter.unusedVariables false
set_option maxRecDepth 100000
namespace Go.Proofs.YtpcigcogcgpldaaGreatDoor
open Go Go.Dx
-- dowel/vector.Primitive
theorem E_vector_Primitive (p0_0 : R4) (p0_1 : R4) (p0_2 : R4) (V0 : VH) (R : Value → VH → Prop)
    (h : ∀ m0 : Nat, ∀ m1 : Nat, CSpec Tryz.prog n_vector_IsZero #[(.agg #[(.bool p0_0.x.n), (.slice p0_0.x.A p0_0.x.l.length p0_0.x.c), (.bool p0_0.y.n), (.slice p0_0.y.A p0_0.y.l.length p0_0.y.c), (.bool p0_1.x.n), (.slice p0_1.x.A p0_1.x.l.length p0_1.x.c), (.bool p0_1.y.n), (.slice p0_1.y.A p0_1.y.l.length p0_1.y.c), (.bool p0_2.x.n), (.slice p0_2.x.A p0_2.x.l.length p0_2.x.c), (.bool p0_2.y.n), (.slice p0_2.y.A p0_2.y.l.length p0_2.y.c)])] V0 fun v0 V1 =>
    ∃ b2 : Bool, v0 = (.bool b2) ∧
    ((b2 = true → R (.tuple #[(.agg #[(.bool false), (.slice none 0 0), (.bool false), (.slice none 0 0), (.bool false), (.slice none 0 0), (.bool false), (.slice none 0 0), (.bool false), (.slice none 0 0), (.bool false), (.slice none 0 0)]), (.int .i64 (19 : Int))]) V1) ∧
    (b2 = false → CSpec Tryz.prog n_integer_From #[(.int .i64 (1 : Int))] V1 fun v1 V2 =>
     ∃ i3 : R2, v1 = (.agg #[(.bool i3.n), (.slice i3.A i3.l.length i3.c)]) ∧
     ∀ m4 : Nat, ∀ m5 : Nat, CSpec Tryz.prog n_rational_Rat_Den #[(.agg #[(.bool p0_0.x.n), (.slice p0_0.x.A p0_0.x.l.length p0_0.x.c), (.bool p0_0.y.n), (.slice p0_0.y.A p0_0.y.l.length p0_0.y.c)])] V2 fun v2 V3 =>
     ∃ i6 : R2, v2 = (.agg #[(.bool i6.n), (.slice i6.A i6.l.length i6.c)]) ∧
     CSpec Tryz.prog n_integer_Gcd #[(.agg #[(.bool i3.n), (.slice i3.A i3.l.length i3.c)]), (.agg #[(.bool i6.n), (.slice i6.A i6.l.length i6.c)])] V3 fun v3 V4 =>
     ∃ i7 : R2, v3 = (.agg #[(.bool i7.n), (.slice i7.A i7.l.length i7.c)]) ∧
     CSpec Tryz.prog n_integer_DivMod #[(.agg #[(.bool i3.n), (.slice i3.A i3.l.length i3.c)]), (.agg #[(.bool i7.n), (.slice i7.A i7.l.length i7.c)])] V4 fun v4 V5 =>
     ∃ i8 : R2, ∃ i9 : R2, ∃ n10 : Int, v4 = (.tuple #[(.agg #[(.bool i8.n), (.slice i8.A i8.l.length i8.c)]), (.agg #[(.bool i9.n), (.slice i9.A i9.l.length i9.c)]), (.int .i64 n10)]) ∧
     ∀ m11 : Nat, ∀ m12 : Nat, CSpec Tryz.prog n_rational_Rat_Den #[(.agg #[(.bool p0_0.x.n), (.slice p0_0.x.A p0_0.x.l.length p0_0.x.c), (.bool p0_0.y.n), (.slice p0_0.y.A p0_0.y.l.length p0_0.y.c)])] V5 fun v5 V6 =>
     ∃ i13 : R2, v5 = (.agg #[(.bool i13.n), (.slice i13.A i13.l.length i13.c)]) ∧
     CSpec Tryz.prog n_integer_Mul #[(.agg #[(.bool i8.n), (.slice i8.A i8.l.length i8.c)]), (.agg #[(.bool i13.n), (.slice i13.A i13.l.length i13.c)])] V6 fun v6 V7 =>
     ∃ i14 : R2, v6 = (.agg #[(.bool i14.n), (.slice i14.A i14.l.length i14.c)]) ∧
     ∀ m15 : Nat, CSpec Tryz.prog n_rational_Rat_Den #[(.agg #[(.bool p0_1.x.n), (.slice p0_1.x.A p0_1.x.l.length p0_1.x.c), (.bool p0_1.y.n), (.slice p0_1.y.A p0_1.y.l.length p0_1.y.c)])] V7 fun v7 V8 =>
     ∃ i16 : R2, v7 = (.agg #[(.bool i16.n), (.slice i16.A i16.l.length i16.c)]) ∧
     CSpec Tryz.prog n_integer_Gcd #[(.agg #[(.bool i14.n), (.slice i14.A i14.l.length i14.c)]), (.agg #[(.bool i16.n), (.slice i16.A i16.l.length i16.c)])] V8 fun v8 V9 =>
     ∃ i17 : R2, v8 = (.agg #[(.bool i17.n), (.slice i17.A i17.l.length i17.c)]) ∧
     CSpec Tryz.prog n_integer_DivMod #[(.agg #[(.bool i14.n), (.slice i14.A i14.l.length i14.c)]), (.agg #[(.bool i17.n), (.slice i17.A i17.l.length i17.c)])] V9 fun v9 V10 =>
     ∃ i18 : R2, ∃ i19 : R2, ∃ n20 : Int, v9 = (.tuple #[(.agg #[(.bool i18.n), (.slice i18.A i18.l.length i18.c)]), (.agg #[(.bool i19.n), (.slice i19.A i19.l.length i19.c)]), (.int .i64 n20)]) ∧
     ∀ m21 : Nat, ∀ m22 : Nat, CSpec Tryz.prog n_rational_Rat_Den #[(.agg #[(.bool p0_1.x.n), (.slice p0_1.x.A p0_1.x.l.length p0_1.x.c), (.bool p0_1.y.n), (.slice p0_1.y.A p0_1.y.l.length p0_1.y.c)])] V10 fun v10 V11 =>
     ∃ i23 : R2, v10 = (.agg #[(.bool i23.n), (.slice i23.A i23.l.length i23.c)]) ∧
     CSpec Tryz.prog n_integer_Mul #[(.agg #[(.bool i18.n), (.slice i18.A i18.l.length i18.c)]), (.agg #[(.bool i23.n), (.slice i23.A i23.l.length i23.c)])] V11 fun v11 V12 =>
     ∃ i24 : R2, v11 = (.agg #[(.bool i24.n), (.slice i24.A i24.l.length i24.c)]) ∧
     ∀ m25 : Nat, CSpec Tryz.prog n_rational_Rat_Den #[(.agg #[(.bool p0_2.x.n), (.slice p0_2.x.A p0_2.x.l.length p0_2.x.c), (.bool p0_2.y.n), (.slice p0_2.y.A p0_2.y.l.length p0_2.y.c)])] V12 fun v12 V13 =>
     ∃ i26 : R2, v12 = (.agg #[(.bool i26.n), (.slice i26.A i26.l.length i26.c)]) ∧
     CSpec Tryz.prog n_integer_Gcd #[(.agg #[(.bool i24.n), (.slice i24.A i24.l.length i24.c)]), (.agg #[(.bool i26.n), (.slice i26.A i26.l.length i26.c)])] V13 fun v13 V14 =>
     ∃ i27 : R2, v13 = (.agg #[(.bool i27.n), (.slice i27.A i27.l.length i27.c)]) ∧
     CSpec Tryz.prog n_integer_DivMod #[(.agg #[(.bool i24.n), (.slice i24.A i24.l.length i24.c)]), (.agg #[(.bool i27.n), (.slice i27.A i27.l.length i27.c)])] V14 fun v14 V15 =>
     ∃ i28 : R2, ∃ i29 : R2, ∃ n30 : Int, v14 = (.tuple #[(.agg #[(.bool i28.n), (.slice i28.A i28.l.length i28.c)]), (.agg #[(.bool i29.n), (.slice i29.A i29.l.length i29.c)]), (.int .i64 n30)]) ∧
     ∀ m31 : Nat, ∀ m32 : Nat, CSpec Tryz.prog n_rational_Rat_Den #[(.agg #[(.bool p0_2.x.n), (.slice p0_2.x.A p0_2.x.l.length p0_2.x.c), (.bool p0_2.y.n), (.slice p0_2.y.A p0_2.y.l.length p0_2.y.c)])] V15 fun v15 V16 =>
     ∃ i33 : R2, v15 = (.agg #[(.bool i33.n), (.slice i33.A i33.l.length i33.c)]) ∧
     CSpec Tryz.prog n_integer_Mul #[(.agg #[(.bool i28.n), (.slice i28.A i28.l.length i28.c)]), (.agg #[(.bool i33.n), (.slice i33.A i33.l.length i33.c)])] V16 fun v16 V17 =>
     ∃ i34 : R2, v16 = (.agg #[(.bool i34.n), (.slice i34.A i34.l.length i34.c)]) ∧
     CSpec Tryz.prog n_integer_From #[(.int .i64 (1 : Int))] V17 fun v17 V18 =>
     ∃ i35 : R2, v17 = (.agg #[(.bool i35.n), (.slice i35.A i35.l.length i35.c)]) ∧
     CSpec Tryz.prog n_rational_Make #[(.agg #[(.bool i34.n), (.slice i34.A i34.l.length i34.c)]), (.agg #[(.bool i35.n), (.slice i35.A i35.l.length i35.c)])] V18 fun v18 V19 =>
     ∃ r36 : R4, ∃ n37 : Int, v18 = (.tuple #[(.agg #[(.bool r36.x.n), (.slice r36.x.A r36.x.l.length r36.x.c), (.bool r36.y.n), (.slice r36.y.A r36.y.l.length r36.y.c)]), (.int .i64 n37)]) ∧
     ∀ m38 : Nat, CSpec Tryz.prog n_vector_Scale #[(.agg #[(.bool p0_0.x.n), (.slice p0_0.x.A p0_0.x.l.length p0_0.x.c), (.bool p0_0.y.n), (.slice p0_0.y.A p0_0.y.l.length p0_0.y.c), (.bool p0_1.x.n), (.slice p0_1.x.A p0_1.x.l.length p0_1.x.c), (.bool p0_1.y.n), (.slice p0_1.y.A p0_1.y.l.length p0_1.y.c), (.bool p0_2.x.n), (.slice p0_2.x.A p0_2.x.l.length p0_2.x.c), (.bool p0_2.y.n), (.slice p0_2.y.A p0_2.y.l.length p0_2.y.c)]), (.agg #[(.bool r36.x.n), (.slice r36.x.A r36.x.l.length r36.x.c), (.bool r36.y.n), (.slice r36.y.A r36.y.l.length r36.y.c)])] V19 fun v19 V20 =>
     ∃ r39 : R4, ∃ r40 : R4, ∃ r41 : R4, v19 = (.agg #[(.bool r39.x.n), (.slice r39.x.A r39.x.l.length r39.x.c), (.bool r39.y.n), (.slice r39.y.A r39.y.l.length r39.y.c), (.bool r40.x.n), (.slice r40.x.A r40.x.l.length r40.x.c), (.bool r40.y.n), (.slice r40.y.A r40.y.l.length r40.y.c), (.bool r41.x.n), (.slice r41.x.A r41.x.l.length r41.x.c), (.bool r41.y.n), (.slice r41.y.A r41.y.l.length r41.y.c)]) ∧
     ∀ m42 : Nat, ∀ m43 : Nat, ((CSpec Tryz.prog n_rational_Rat_Num #[(.agg #[(.bool r39.x.n), (.slice r39.x.A r39.x.l.length r39.x.c), (.bool r39.y.n), (.slice r39.y.A r39.y.l.length r39.y.c)])] V20 fun v20 V21 =>
      ∃ i44 : R2, v20 = (.agg #[(.bool i44.n), (.slice i44.A i44.l.length i44.c)]) ∧
      CSpec Tryz.prog n_integer_Gcd #[(.agg #[(.bool false), (.slice none 0 0)]), (.agg #[(.bool i44.n), (.slice i44.A i44.l.length i44.c)])] V21 fun v21 V22 =>
      ∃ i45 : R2, v21 = (.agg #[(.bool i45.n), (.slice i45.A i45.l.length i45.c)]) ∧
      ∀ m46 : Nat, ((CSpec Tryz.prog n_rational_Rat_Num #[(.agg #[(.bool r40.x.n), (.slice r40.x.A r40.x.l.length r40.x.c), (.bool r40.y.n), (.slice r40.y.A r40.y.l.length r40.y.c)])] V22 fun v22 V23 =>
       ∃ i47 : R2, v22 = (.agg #[(.bool i47.n), (.slice i47.A i47.l.length i47.c)]) ∧
       CSpec Tryz.prog n_integer_Gcd #[(.agg #[(.bool i45.n), (.slice i45.A i45.l.length i45.c)]), (.agg #[(.bool i47.n), (.slice i47.A i47.l.length i47.c)])] V23 fun v23 V24 =>
       ∃ i48 : R2, v23 = (.agg #[(.bool i48.n), (.slice i48.A i48.l.length i48.c)]) ∧
       ∀ m49 : Nat, ((CSpec Tryz.prog n_rational_Rat_Num #[(.agg #[(.bool r41.x.n), (.slice r41.x.A r41.x.l.length r41.x.c), (.bool r41.y.n), (.slice r41.y.A r41.y.l.length r41.y.c)])] V24 fun v24 V25 =>
        ∃ i50 : R2, v24 = (.agg #[(.bool i50.n), (.slice i50.A i50.l.length i50.c)]) ∧
        CSpec Tryz.prog n_integer_Gcd #[(.agg #[(.bool i48.n), (.slice i48.A i48.l.length i48.c)]), (.agg #[(.bool i50.n), (.slice i50.A i50.l.length i50.c)])] V25 fun v25 V26 =>
        ∃ i51 : R2, v25 = (.agg #[(.bool i51.n), (.slice i51.A i51.l.length i51.c)]) ∧
        CSpec Tryz.prog n_integer_From #[(.int .i64 (1 : Int))] V26 fun v26 V27 =>
        ∃ i52 : R2, v26 = (.agg #[(.bool i52.n), (.slice i52.A i52.l.length i52.c)]) ∧
        CSpec Tryz.prog n_rational_Make #[(.agg #[(.bool i52.n), (.slice i52.A i52.l.length i52.c)]), (.agg #[(.bool i51.n), (.slice i51.A i51.l.length i51.c)])] V27 fun v27 V28 =>
        ∃ r53 : R4, ∃ n54 : Int, v27 = (.tuple #[(.agg #[(.bool r53.x.n), (.slice r53.x.A r53.x.l.length r53.x.c), (.bool r53.y.n), (.slice r53.y.A r53.y.l.length r53.y.c)]), (.int .i64 n54)]) ∧
        ∀ m55 : Nat, CSpec Tryz.prog n_vector_Scale #[(.agg #[(.bool r39.x.n), (.slice r39.x.A r39.x.l.length r39.x.c), (.bool r39.y.n), (.slice r39.y.A r39.y.l.length r39.y.c), (.bool r40.x.n), (.slice r40.x.A r40.x.l.length r40.x.c), (.bool r40.y.n), (.slice r40.y.A r40.y.l.length r40.y.c), (.bool r41.x.n), (.slice r41.x.A r41.x.l.length r41.x.c), (.bool r41.y.n), (.slice r41.y.A r41.y.l.length r41.y.c)]), (.agg #[(.bool r53.x.n), (.slice r53.x.A r53.x.l.length r53.x.c), (.bool r53.y.n), (.slice r53.y.A r53.y.l.length r53.y.c)])] V28 fun v28 V29 =>
        ∃ r56 : R4, ∃ r57 : R4, ∃ r58 : R4, v28 = (.agg #[(.bool r56.x.n), (.slice r56.x.A r56.x.l.length r56.x.c), (.bool r56.y.n), (.slice r56.y.A r56.y.l.length r56.y.c), (.bool r57.x.n), (.slice r57.x.A r57.x.l.length r57.x.c), (.bool r57.y.n), (.slice r57.y.A r57.y.l.length r57.y.c), (.bool r58.x.n), (.slice r58.x.A r58.x.l.length r58.x.c), (.bool r58.y.n), (.slice r58.y.A r58.y.l.length r58.y.c)]) ∧
        R (.tuple #[(.agg #[(.bool r56.x.n), (.slice r56.x.A r56.x.l.length r56.x.c), (.bool r56.y.n), (.slice r56.y.A r56.y.l.length r56.y.c), (.bool r57.x.n), (.slice r57.x.A r57.x.l.length r57.x.c), (.bool r57.y.n), (.slice r57.y.A r57.y.l.length r57.y.c), (.bool r58.x.n), (.slice r58.x.A r58.x.l.length r58.x.c), (.bool r58.y.n), (.slice r58.y.A r58.y.l.length r58.y.c)]), (.int .i64 (0 : Int))]) V29) ∧
       (CSpec Tryz.prog n_rational_Rat_Num #[(.agg #[(.bool r41.x.n), (.slice r41.x.A r41.x.l.length r41.x.c), (.bool r41.y.n), (.slice r41.y.A r41.y.l.length r41.y.c)])] V24 fun v29 V30 =>
        ∃ i59 : R2, v29 = (.agg #[(.bool i59.n), (.slice i59.A i59.l.length i59.c)]) ∧
        CSpec Tryz.prog n_integer_Gcd #[(.agg #[(.bool i48.n), (.slice i48.A i48.l.length i48.c)]), (.agg #[(.bool i59.n), (.slice i59.A i59.l.length i59.c)])] V30 fun v30 V31 =>
        ∃ i60 : R2, v30 = (.agg #[(.bool i60.n), (.slice i60.A i60.l.length i60.c)]) ∧
        CSpec Tryz.prog n_integer_From #[(.int .i64 (1 : Int))] V31 fun v31 V32 =>
        ∃ i61 : R2, v31 = (.agg #[(.bool i61.n), (.slice i61.A i61.l.length i61.c)]) ∧
        CSpec Tryz.prog n_rational_Make #[(.agg #[(.bool i61.n), (.slice i61.A i61.l.length i61.c)]), (.agg #[(.bool i60.n), (.slice i60.A i60.l.length i60.c)])] V32 fun v32 V33 =>
        ∃ r62 : R4, ∃ n63 : Int, v32 = (.tuple #[(.agg #[(.bool r62.x.n), (.slice r62.x.A r62.x.l.length r62.x.c), (.bool r62.y.n), (.slice r62.y.A r62.y.l.length r62.y.c)]), (.int .i64 n63)]) ∧
        ∀ m64 : Nat, CSpec Tryz.prog n_vector_Scale #[(.agg #[(.bool r39.x.n), (.slice r39.x.A r39.x.l.length r39.x.c), (.bool r39.y.n), (.slice r39.y.A r39.y.l.length r39.y.c), (.bool r40.x.n), (.slice r40.x.A r40.x.l.length r40.x.c), (.bool r40.y.n), (.slice r40.y.A r40.y.l.length r40.y.c), (.bool r41.x.n), (.slice r41.x.A r41.x.l.length r41.x.c), (.bool r41.y.n), (.slice r41.y.A r41.y.l.length r41.y.c)]), (.agg #[(.bool r62.x.n), (.slice r62.x.A r62.x.l.length r62.x.c), (.bool r62.y.n), (.slice r62.y.A r62.y.l.length r62.y.c)])] V33 fun v33 V34 =>
        ∃ r65 : R4, ∃ r66 : R4, ∃ r67 : R4, v33 = (.agg #[(.bool r65.x.n), (.slice r65.x.A r65.x.l.length r65.x.c), (.bool r65.y.n), (.slice r65.y.A r65.y.l.length r65.y.c), (.bool r66.x.n), (.slice r66.x.A r66.x.l.length r66.x.c), (.bool r66.y.n), (.slice r66.y.A r66.y.l.length r66.y.c), (.bool r67.x.n), (.slice r67.x.A r67.x.l.length r67.x.c), (.bool r67.y.n), (.slice r67.y.A r67.y.l.length r67.y.c)]) ∧
        R (.tuple #[(.agg #[(.bool r65.x.n), (.slice r65.x.A r65.x.l.length r65.x.c), (.bool r65.y.n), (.slice r65.y.A r65.y.l.length r65.y.c), (.bool r66.x.n), (.slice r66.x.A r66.x.l.length r66.x.c), (.bool r66.y.n), (.slice r66.y.A r66.y.l.length r66.y.c), (.bool r67.x.n), (.slice r67.x.A r67.x.l.length r67.x.c), (.bool r67.y.n), (.slice r67.y.A r67.y.l.length r67.y.c)]), (.int .i64 (0 : Int))]) V34))) ∧
      (CSpec Tryz.prog n_rational_Rat_Num #[(.agg #[(.bool r40.x.n), (.slice r40.x.A r40.x.l.length r40.x.c), (.bool r40.y.n), (.slice r40.y.A r40.y.l.length r40.y.c)])] V22 fun v34 V35 =>
       ∃ i68 : R2, v34 = (.agg #[(.bool i68.n), (.slice i68.A i68.l.length i68.c)]) ∧
       CSpec Tryz.prog n_integer_Gcd #[(.agg #[(.bool i45.n), (.slice i45.A i45.l.length i45.c)]), (.agg #[(.bool i68.n), (.slice i68.A i68.l.length i68.c)])] V35 fun v35 V36 =>
       ∃ i69 : R2, v35 = (.agg #[(.bool i69.n), (.slice i69.A i69.l.length i69.c)]) ∧
       ∀ m70 : Nat, ((CSpec Tryz.prog n_rational_Rat_Num #[(.agg #[(.bool r41.x.n), (.slice r41.x.A r41.x.l.length r41.x.c), (.bool r41.y.n), (.slice r41.y.A r41.y.l.length r41.y.c)])] V36 fun v36 V37 =>
        ∃ i71 : R2, v36 = (.agg #[(.bool i71.n), (.slice i71.A i71.l.length i71.c)]) ∧
        CSpec Tryz.prog n_integer_Gcd #[(.agg #[(.bool i69.n), (.slice i69.A i69.l.length i69.c)]), (.agg #[(.bool i71.n), (.slice i71.A i71.l.length i71.c)])] V37 fun v37 V38 =>
        ∃ i72 : R2, v37 = (.agg #[(.bool i72.n), (.slice i72.A i72.l.length i72.c)]) ∧
        CSpec Tryz.prog n_integer_From #[(.int .i64 (1 : Int))] V38 fun v38 V39 =>
        ∃ i73 : R2, v38 = (.agg #[(.bool i73.n), (.slice i73.A i73.l.length i73.c)]) ∧
        CSpec Tryz.prog n_rational_Make #[(.agg #[(.bool i73.n), (.slice i73.A i73.l.length i73.c)]), (.agg #[(.bool i72.n), (.slice i72.A i72.l.length i72.c)])] V39 fun v39 V40 =>
        ∃ r74 : R4, ∃ n75 : Int, v39 = (.tuple #[(.agg #[(.bool r74.x.n), (.slice r74.x.A r74.x.l.length r74.x.c), (.bool r74.y.n), (.slice r74.y.A r74.y.l.length r74.y.c)]), (.int .i64 n75)]) ∧
        ∀ m76 : Nat, CSpec Tryz.prog n_vector_Scale #[(.agg #[(.bool r39.x.n), (.slice r39.x.A r39.x.l.length r39.x.c), (.bool r39.y.n), (.slice r39.y.A r39.y.l.length r39.y.c), (.bool r40.x.n), (.slice r40.x.A r40.x.l.length r40.x.c), (.bool r40.y.n), (.slice r40.y.A r40.y.l.length r40.y.c), (.bool r41.x.n), (.slice r41.x.A r41.x.l.length r41.x.c), (.bool r41.y.n), (.slice r41.y.A r41.y.l.length r41.y.c)]), (.agg #[(.bool r74.x.n), (.slice r74.x.A r74.x.l.length r74.x.c), (.bool r74.y.n), (.slice r74.y.A r74.y.l.length r74.y.c)])] V40 fun v40 V41 =>
        ∃ r77 : R4, ∃ r78 : R4, ∃ r79 : R4, v40 = (.agg #[(.bool r77.x.n), (.slice r77.x.A r77.x.l.length r77.x.c), (.bool r77.y.n), (.slice r77.y.A r77.y.l.length r77.y.c), (.bool r78.x.n), (.slice r78.x.A r78.x.l.length r78.x.c), (.bool r78.y.n), (.slice r78.y.A r78.y.l.length r78.y.c), (.bool r79.x.n), (.slice r79.x.A r79.x.l.length r79.x.c), (.bool r79.y.n), (.slice r79.y.A r79.y.l.length r79.y.c)]) ∧
        R (.tuple #[(.agg #[(.bool r77.x.n), (.slice r77.x.A r77.x.l.length r77.x.c), (.bool r77.y.n), (.slice r77.y.A r77.y.l.length r77.y.c), (.bool r78.x.n), (.slice r78.x.A r78.x.l.length r78.x.c), (.bool r78.y.n), (.slice r78.y.A r78.y.l.length r78.y.c), (.bool r79.x.n), (.slice r79.x.A r79.x.l.length r79.x.c), (.bool r79.y.n), (.slice r79.y.A r79.y.l.length r79.y.c)]), (.int .i64 (0 : Int))]) V41) ∧
       (CSpec Tryz.prog n_rational_Rat_Num #[(.agg #[(.bool r41.x.n), (.slice r41.x.A r41.x.l.length r41.x.c), (.bool r41.y.n), (.slice r41.y.A r41.y.l.length r41.y.c)])] V36 fun v41 V42 =>
        ∃ i80 : R2, v41 = (.agg #[(.bool i80.n), (.slice i80.A i80.l.length i80.c)]) ∧
        CSpec Tryz.prog n_integer_Gcd #[(.agg #[(.bool i69.n), (.slice i69.A i69.l.length i69.c)]), (.agg #[(.bool i80.n), (.slice i80.A i80.l.length i80.c)])] V42 fun v42 V43 =>
        ∃ i81 : R2, v42 = (.agg #[(.bool i81.n), (.slice i81.A i81.l.length i81.c)]) ∧
        CSpec Tryz.prog n_integer_From #[(.int .i64 (1 : Int))] V43 fun v43 V44 =>
        ∃ i82 : R2, v43 = (.agg #[(.bool i82.n), (.slice i82.A i82.l.length i82.c)]) ∧
        CSpec Tryz.prog n_rational_Make #[(.agg #[(.bool i82.n), (.slice i82.A i82.l.length i82.c)]), (.agg #[(.bool i81.n), (.slice i81.A i81.l.length i81.c)])] V44 fun v44 V45 =>
        ∃ r83 : R4, ∃ n84 : Int, v44 = (.tuple #[(.agg #[(.bool r83.x.n), (.slice r83.x.A r83.x.l.length r83.x.c), (.bool r83.y.n), (.slice r83.y.A r83.y.l.length r83.y.c)]), (.int .i64 n84)]) ∧
        ∀ m85 : Nat, CSpec Tryz.prog n_vector_Scale #[(.agg #[(.bool r39.x.n), (.slice r39.x.A r39.x.l.length r39.x.c), (.bool r39.y.n), (.slice r39.y.A r39.y.l.length r39.y.c), (.bool r40.x.n), (.slice r40.x.A r40.x.l.length r40.x.c), (.bool r40.y.n), (.slice r40.y.A r40.y.l.length r40.y.c), (.bool r41.x.n), (.slice r41.x.A r41.x.l.length r41.x.c), (.bool r41.y.n), (.slice r41.y.A r41.y.l.length r41.y.c)]), (.agg #[(.bool r83.x.n), (.slice r83.x.A r83.x.l.length r83.x.c), (.bool r83.y.n), (.slice r83.y.A r83.y.l.length r83.y.c)])] V45 fun v45 V46 =>
        ∃ r86 : R4, ∃ r87 : R4, ∃ r88 : R4, v45 = (.agg #[(.bool r86.x.n), (.slice r86.x.A r86.x.l.length r86.x.c), (.bool r86.y.n), (.slice r86.y.A r86.y.l.length r86.y.c), (.bool r87.x.n), (.slice r87.x.A r87.x.l.length r87.x.c), (.bool r87.y.n), (.slice r87.y.A r87.y.l.length r87.y.c), (.bool r88.x.n), (.slice r88.x.A r88.x.l.length r88.x.c), (.bool r88.y.n), (.slice r88.y.A r88.y.l.length r88.y.c)]) ∧
        R (.tuple #[(.agg #[(.bool r86.x.n), (.slice r86.x.A r86.x.l.length r86.x.c), (.bool r86.y.n), (.slice r86.y.A r86.y.l.length r86.y.c), (.bool r87.x.n), (.slice r87.x.A r87.x.l.length r87.x.c), (.bool r87.y.n), (.slice r87.y.A r87.y.l.length r87.y.c), (.bool r88.x.n), (.slice r88.x.A r88.x.l.length r88.x.c), (.bool r88.y.n), (.slice r88.y.A r88.y.l.length r88.y.c)]), (.int .i64 (0 : Int))]) V46))))) ∧
     (CSpec Tryz.prog n_rational_Rat_Num #[(.agg #[(.bool r39.x.n), (.slice r39.x.A r39.x.l.length r39.x.c), (.bool r39.y.n), (.slice r39.y.A r39.y.l.length r39.y.c)])] V20 fun v46 V47 =>
      ∃ i89 : R2, v46 = (.agg #[(.bool i89.n), (.slice i89.A i89.l.length i89.c)]) ∧
      CSpec Tryz.prog n_integer_Gcd #[(.agg #[(.bool false), (.slice none 0 0)]), (.agg #[(.bool i89.n), (.slice i89.A i89.l.length i89.c)])] V47 fun v47 V48 =>
      ∃ i90 : R2, v47 = (.agg #[(.bool i90.n), (.slice i90.A i90.l.length i90.c)]) ∧
      ∀ m91 : Nat, ((CSpec Tryz.prog n_rational_Rat_Num #[(.agg #[(.bool r40.x.n), (.slice r40.x.A r40.x.l.length r40.x.c), (.bool r40.y.n), (.slice r40.y.A r40.y.l.length r40.y.c)])] V48 fun v48 V49 =>
       ∃ i92 : R2, v48 = (.agg #[(.bool i92.n), (.slice i92.A i92.l.length i92.c)]) ∧
       CSpec Tryz.prog n_integer_Gcd #[(.agg #[(.bool i90.n), (.slice i90.A i90.l.length i90.c)]), (.agg #[(.bool i92.n), (.slice i92.A i92.l.length i92.c)])] V49 fun v49 V50 =>
       ∃ i93 : R2, v49 = (.agg #[(.bool i93.n), (.slice i93.A i93.l.length i93.c)]) ∧
       ∀ m94 : Nat, ((CSpec Tryz.prog n_rational_Rat_Num #[(.agg #[(.bool r41.x.n), (.slice r41.x.A r41.x.l.length r41.x.c), (.bool r41.y.n), (.slice r41.y.A r41.y.l.length r41.y.c)])] V50 fun v50 V51 =>
        ∃ i95 : R2, v50 = (.agg #[(.bool i95.n), (.slice i95.A i95.l.length i95.c)]) ∧
        CSpec Tryz.prog n_integer_Gcd #[(.agg #[(.bool i93.n), (.slice i93.A i93.l.length i93.c)]), (.agg #[(.bool i95.n), (.slice i95.A i95.l.length i95.c)])] V51 fun v51 V52 =>
        ∃ i96 : R2, v51 = (.agg #[(.bool i96.n), (.slice i96.A i96.l.length i96.c)]) ∧
        CSpec Tryz.prog n_integer_From #[(.int .i64 (1 : Int))] V52 fun v52 V53 =>
        ∃ i97 : R2, v52 = (.agg #[(.bool i97.n), (.slice i97.A i97.l.length i97.c)]) ∧
        CSpec Tryz.prog n_rational_Make #[(.agg #[(.bool i97.n), (.slice i97.A i97.l.length i97.c)]), (.agg #[(.bool i96.n), (.slice i96.A i96.l.length i96.c)])] V53 fun v53 V54 =>
        ∃ r98 : R4, ∃ n99 : Int, v53 = (.tuple #[(.agg #[(.bool r98.x.n), (.slice r98.x.A r98.x.l.length r98.x.c), (.bool r98.y.n), (.slice r98.y.A r98.y.l.length r98.y.c)]), (.int .i64 n99)]) ∧
        ∀ m100 : Nat, CSpec Tryz.prog n_vector_Scale #[(.agg #[(.bool r39.x.n), (.slice r39.x.A r39.x.l.length r39.x.c), (.bool r39.y.n), (.slice r39.y.A r39.y.l.length r39.y.c), (.bool r40.x.n), (.slice r40.x.A r40.x.l.length r40.x.c), (.bool r40.y.n), (.slice r40.y.A r40.y.l.length r40.y.c), (.bool r41.x.n), (.slice r41.x.A r41.x.l.length r41.x.c), (.bool r41.y.n), (.slice r41.y.A r41.y.l.length r41.y.c)]), (.agg #[(.bool r98.x.n), (.slice r98.x.A r98.x.l.length r98.x.c), (.bool r98.y.n), (.slice r98.y.A r98.y.l.length r98.y.c)])] V54 fun v54 V55 =>
        ∃ r101 : R4, ∃ r102 : R4, ∃ r103 : R4, v54 = (.agg #[(.bool r101.x.n), (.slice r101.x.A r101.x.l.length r101.x.c), (.bool r101.y.n), (.slice r101.y.A r101.y.l.length r101.y.c), (.bool r102.x.n), (.slice r102.x.A r102.x.l.length r102.x.c), (.bool r102.y.n), (.slice r102.y.A r102.y.l.length r102.y.c), (.bool r103.x.n), (.slice r103.x.A r103.x.l.length r103.x.c), (.bool r103.y.n), (.slice r103.y.A r103.y.l.length r103.y.c)]) ∧
        R (.tuple #[(.agg #[(.bool r101.x.n), (.slice r101.x.A r101.x.l.length r101.x.c), (.bool r101.y.n), (.slice r101.y.A r101.y.l.length r101.y.c), (.bool r102.x.n), (.slice r102.x.A r102.x.l.length r102.x.c), (.bool r102.y.n), (.slice r102.y.A r102.y.l.length r102.y.c), (.bool r103.x.n), (.slice r103.x.A r103.x.l.length r103.x.c), (.bool r103.y.n), (.slice r103.y.A r103.y.l.length r103.y.c)]), (.int .i64 (0 : Int))]) V55) ∧
       (CSpec Tryz.prog n_rational_Rat_Num #[(.agg #[(.bool r41.x.n), (.slice r41.x.A r41.x.l.length r41.x.c), (.bool r41.y.n), (.slice r41.y.A r41.y.l.length r41.y.c)])] V50 fun v55 V56 =>
        ∃ i104 : R2, v55 = (.agg #[(.bool i104.n), (.slice i104.A i104.l.length i104.c)]) ∧
        CSpec Tryz.prog n_integer_Gcd #[(.agg #[(.bool i93.n), (.slice i93.A i93.l.length i93.c)]), (.agg #[(.bool i104.n), (.slice i104.A i104.l.length i104.c)])] V56 fun v56 V57 =>
        ∃ i105 : R2, v56 = (.agg #[(.bool i105.n), (.slice i105.A i105.l.length i105.c)]) ∧
        CSpec Tryz.prog n_integer_From #[(.int .i64 (1 : Int))] V57 fun v57 V58 =>
        ∃ i106 : R2, v57 = (.agg #[(.bool i106.n), (.slice i106.A i106.l.length i106.c)]) ∧
        CSpec Tryz.prog n_rational_Make #[(.agg #[(.bool i106.n), (.slice i106.A i106.l.length i106.c)]), (.agg #[(.bool i105.n), (.slice i105.A i105.l.length i105.c)])] V58 fun v58 V59 =>
        ∃ r107 : R4, ∃ n108 : Int, v58 = (.tuple #[(.agg #[(.bool r107.x.n), (.slice r107.x.A r107.x.l.length r107.x.c), (.bool r107.y.n), (.slice r107.y.A r107.y.l.length r107.y.c)]), (.int .i64 n108)]) ∧
        ∀ m109 : Nat, CSpec Tryz.prog n_vector_Scale #[(.agg #[(.bool r39.x.n), (.slice r39.x.A r39.x.l.length r39.x.c), (.bool r39.y.n), (.slice r39.y.A r39.y.l.length r39.y.c), (.bool r40.x.n), (.slice r40.x.A r40.x.l.length r40.x.c), (.bool r40.y.n), (.slice r40.y.A r40.y.l.length r40.y.c), (.bool r41.x.n), (.slice r41.x.A r41.x.l.length r41.x.c), (.bool r41.y.n), (.slice r41.y.A r41.y.l.length r41.y.c)]), (.agg #[(.bool r107.x.n), (.slice r107.x.A r107.x.l.length r107.x.c), (.bool r107.y.n), (.slice r107.y.A r107.y.l.length r107.y.c)])] V59 fun v59 V60 =>
        ∃ r110 : R4, ∃ r111 : R4, ∃ r112 : R4, v59 = (.agg #[(.bool r110.x.n), (.slice r110.x.A r110.x.l.length r110.x.c), (.bool r110.y.n), (.slice r110.y.A r110.y.l.length r110.y.c), (.bool r111.x.n), (.slice r111.x.A r111.x.l.length r111.x.c), (.bool r111.y.n), (.slice r111.y.A r111.y.l.length r111.y.c), (.bool r112.x.n), (.slice r112.x.A r112.x.l.length r112.x.c), (.bool r112.y.n), (.slice r112.y.A r112.y.l.length r112.y.c)]) ∧
        R (.tuple #[(.agg #[(.bool r110.x.n), (.slice r110.x.A r110.x.l.length r110.x.c), (.bool r110.y.n), (.slice r110.y.A r110.y.l.length r110.y.c), (.bool r111.x.n), (.slice r111.x.A r111.x.l.length r111.x.c), (.bool r111.y.n), (.slice r111.y.A r111.y.l.length r111.y.c), (.bool r112.x.n), (.slice r112.x.A r112.x.l.length r112.x.c), (.bool r112.y.n), (.slice r112.y.A r112.y.l.length r112.y.c)]), (.int .i64 (0 : Int))]) V60))) ∧
      (CSpec Tryz.prog n_rational_Rat_Num #[(.agg #[(.bool r40.x.n), (.slice r40.x.A r40.x.l.length r40.x.c), (.bool r40.y.n), (.slice r40.y.A r40.y.l.length r40.y.c)])] V48 fun v60 V61 =>
       ∃ i113 : R2, v60 = (.agg #[(.bool i113.n), (.slice i113.A i113.l.length i113.c)]) ∧
       CSpec Tryz.prog n_integer_Gcd #[(.agg #[(.bool i90.n), (.slice i90.A i90.l.length i90.c)]), (.agg #[(.bool i113.n), (.slice i113.A i113.l.length i113.c)])] V61 fun v61 V62 =>
       ∃ i114 : R2, v61 = (.agg #[(.bool i114.n), (.slice i114.A i114.l.length i114.c)]) ∧
       ∀ m115 : Nat, ((CSpec Tryz.prog n_rational_Rat_Num #[(.agg #[(.bool r41.x.n), (.slice r41.x.A r41.x.l.length r41.x.c), (.bool r41.y.n), (.slice r41.y.A r41.y.l.length r41.y.c)])] V62 fun v62 V63 =>
        ∃ i116 : R2, v62 = (.agg #[(.bool i116.n), (.slice i116.A i116.l.length i116.c)]) ∧
        CSpec Tryz.prog n_integer_Gcd #[(.agg #[(.bool i114.n), (.slice i114.A i114.l.length i114.c)]), (.agg #[(.bool i116.n), (.slice i116.A i116.l.length i116.c)])] V63 fun v63 V64 =>
        ∃ i117 : R2, v63 = (.agg #[(.bool i117.n), (.slice i117.A i117.l.length i117.c)]) ∧
        CSpec Tryz.prog n_integer_From #[(.int .i64 (1 : Int))] V64 fun v64 V65 =>
        ∃ i118 : R2, v64 = (.agg #[(.bool i118.n), (.slice i118.A i118.l.length i118.c)]) ∧
        CSpec Tryz.prog n_rational_Make #[(.agg #[(.bool i118.n), (.slice i118.A i118.l.length i118.c)]), (.agg #[(.bool i117.n), (.slice i117.A i117.l.length i117.c)])] V65 fun v65 V66 =>
        ∃ r119 : R4, ∃ n120 : Int, v65 = (.tuple #[(.agg #[(.bool r119.x.n), (.slice r119.x.A r119.x.l.length r119.x.c), (.bool r119.y.n), (.slice r119.y.A r119.y.l.length r119.y.c)]), (.int .i64 n120)]) ∧
        ∀ m121 : Nat, CSpec Tryz.prog n_vector_Scale #[(.agg #[(.bool r39.x.n), (.slice r39.x.A r39.x.l.length r39.x.c), (.bool r39.y.n), (.slice r39.y.A r39.y.l.length r39.y.c), (.bool r40.x.n), (.slice r40.x.A r40.x.l.length r40.x.c), (.bool r40.y.n), (.slice r40.y.A r40.y.l.length r40.y.c), (.bool r41.x.n), (.slice r41.x.A r41.x.l.length r41.x.c), (.bool r41.y.n), (.slice r41.y.A r41.y.l.length r41.y.c)]), (.agg #[(.bool r119.x.n), (.slice r119.x.A r119.x.l.length r119.x.c), (.bool r119.y.n), (.slice r119.y.A r119.y.l.length r119.y.c)])] V66 fun v66 V67 =>
        ∃ r122 : R4, ∃ r123 : R4, ∃ r124 : R4, v66 = (.agg #[(.bool r122.x.n), (.slice r122.x.A r122.x.l.length r122.x.c), (.bool r122.y.n), (.slice r122.y.A r122.y.l.length r122.y.c), (.bool r123.x.n), (.slice r123.x.A r123.x.l.length r123.x.c), (.bool r123.y.n), (.slice r123.y.A r123.y.l.length r123.y.c), (.bool r124.x.n), (.slice r124.x.A r124.x.l.length r124.x.c), (.bool r124.y.n), (.slice r124.y.A r124.y.l.length r124.y.c)]) ∧
        R (.tuple #[(.agg #[(.bool r122.x.n), (.slice r122.x.A r122.x.l.length r122.x.c), (.bool r122.y.n), (.slice r122.y.A r122.y.l.length r122.y.c), (.bool r123.x.n), (.slice r123.x.A r123.x.l.length r123.x.c), (.bool r123.y.n), (.slice r123.y.A r123.y.l.length r123.y.c), (.bool r124.x.n), (.slice r124.x.A r124.x.l.length r124.x.c), (.bool r124.y.n), (.slice r124.y.A r124.y.l.length r124.y.c)]), (.int .i64 (0 : Int))]) V67) ∧
       (CSpec Tryz.prog n_rational_Rat_Num #[(.agg #[(.bool r41.x.n), (.slice r41.x.A r41.x.l.length r41.x.c), (.bool r41.y.n), (.slice r41.y.A r41.y.l.length r41.y.c)])] V62 fun v67 V68 =>
        ∃ i125 : R2, v67 = (.agg #[(.bool i125.n), (.slice i125.A i125.l.length i125.c)]) ∧
        CSpec Tryz.prog n_integer_Gcd #[(.agg #[(.bool i114.n), (.slice i114.A i114.l.length i114.c)]), (.agg #[(.bool i125.n), (.slice i125.A i125.l.length i125.c)])] V68 fun v68 V69 =>
        ∃ i126 : R2, v68 = (.agg #[(.bool i126.n), (.slice i126.A i126.l.length i126.c)]) ∧
        CSpec Tryz.prog n_integer_From #[(.int .i64 (1 : Int))] V69 fun v69 V70 =>
        ∃ i127 : R2, v69 = (.agg #[(.bool i127.n), (.slice i127.A i127.l.length i127.c)]) ∧
        CSpec Tryz.prog n_rational_Make #[(.agg #[(.bool i127.n), (.slice i127.A i127.l.length i127.c)]), (.agg #[(.bool i126.n), (.slice i126.A i126.l.length i126.c)])] V70 fun v70 V71 =>
        ∃ r128 : R4, ∃ n129 : Int, v70 = (.tuple #[(.agg #[(.bool r128.x.n), (.slice r128.x.A r128.x.l.length r128.x.c), (.bool r128.y.n), (.slice r128.y.A r128.y.l.length r128.y.c)]), (.int .i64 n129)]) ∧
        ∀ m130 : Nat, CSpec Tryz.prog n_vector_Scale #[(.agg #[(.bool r39.x.n), (.slice r39.x.A r39.x.l.length r39.x.c), (.bool r39.y.n), (.slice r39.y.A r39.y.l.length r39.y.c), (.bool r40.x.n), (.slice r40.x.A r40.x.l.length r40.x.c), (.bool r40.y.n), (.slice r40.y.A r40.y.l.length r40.y.c), (.bool r41.x.n), (.slice r41.x.A r41.x.l.length r41.x.c), (.bool r41.y.n), (.slice r41.y.A r41.y.l.length r41.y.c)]), (.agg #[(.bool r128.x.n), (.slice r128.x.A r128.x.l.length r128.x.c), (.bool r128.y.n), (.slice r128.y.A r128.y.l.length r128.y.c)])] V71 fun v71 V72 =>
        ∃ r131 : R4, ∃ r132 : R4, ∃ r133 : R4, v71 = (.agg #[(.bool r131.x.n), (.slice r131.x.A r131.x.l.length r131.x.c), (.bool r131.y.n), (.slice r131.y.A r131.y.l.length r131.y.c), (.bool r132.x.n), (.slice r132.x.A r132.x.l.length r132.x.c), (.bool r132.y.n), (.slice r132.y.A r132.y.l.length r132.y.c), (.bool r133.x.n), (.slice r133.x.A r133.x.l.length r133.x.c), (.bool r133.y.n), (.slice r133.y.A r133.y.l.length r133.y.c)]) ∧
        R (.tuple #[(.agg #[(.bool r131.x.n), (.slice r131.x.A r131.x.l.length r131.x.c), (.bool r131.y.n), (.slice r131.y.A r131.y.l.length r131.y.c), (.bool r132.x.n), (.slice r132.x.A r132.x.l.length r132.x.c), (.bool r132.y.n), (.slice r132.y.A r132.y.l.length r132.y.c), (.bool r133.x.n), (.slice r133.x.A r133.x.l.length r133.x.c), (.bool r133.y.n), (.slice r133.y.A r133.y.l.length r133.y.c)]), (.int .i64 (0 : Int))]) V72))))))))) :
    CSpec Tryz.prog n_vector_Primitive #[(.agg #[(.bool p0_0.x.n), (.slice p0_0.x.A p0_0.x.l.length p0_0.x.c), (.bool p0_0.y.n), (.slice p0_0.y.A p0_0.y.l.length p0_0.y.c), (.bool p0_1.x.n), (.slice p0_1.x.A p0_1.x.l.length p0_1.x.c), (.bool p0_1.y.n), (.slice p0_1.y.A p0_1.y.l.length p0_1.y.c), (.bool p0_2.x.n), (.slice p0_2.x.A p0_2.x.l.length p0_2.x.c), (.bool p0_2.y.n), (.slice p0_2.y.A p0_2.y.l.length p0_2.y.c)])] V0 R :=
  enter (l := calTryz) (bor := borTryz) (own := ownTryz) (giv := givTryz) (grw := false) calOkTryz mixTryz Tryz.func123 (args := [.agg [.bool (.var p0_0.x.a), .val p0_0.x.b, .bool (.var p0_0.y.a), .val p0_0.y.b, .bool (.var p0_1.x.a), .val p0_1.x.b, .bool (.var p0_1.y.a), .val p0_1.y.b, .bool (.var p0_2.x.a), .val p0_2.x.b, .bool (.var p0_2.y.a), .val p0_2.y.b]]) (fuel := 3000) (hh := []) (by kernel_rfl) (Eq.mpr (by kernel_rfl) h)
end Go.Proofs.YtpcigcogcgpldaaGreatDoor
