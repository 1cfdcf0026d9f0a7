/- A text of this claim's own: SD.EPr2. -/
import Derived.Test.YteimfmjojadkfaaDoorSDNames
set_option linter.unusedVariables false
set_option linter.unusedSimpArgs false
set_option linter.unusedVariables false
set_option maxRecDepth 100000
namespace Go.Proofs.YteimfmjojadkfaaDoor
open Go Go.Dx
-- dowel/twist.Primitive
theorem E_twist_Primitive (p0_0 : R4) (p0_1 : R4) (p0_2 : R4) (p0_3 : R4) (p0_4 : R4) (p0_5 : R4) (V0 : VH) (R : Value → VH → Prop)
    (h : ∀ m0 : Nat, ∀ m1 : Nat, CSpec Tryd.prog n_twist_IsZero #[(.agg #[(.bool p0_0.x.n), (.slice p0_0.x.A p0_0.x.l.length p0_0.x.c), (.bool p0_0.y.n), (.slice p0_0.y.A p0_0.y.l.length p0_0.y.c), (.bool p0_1.x.n), (.slice p0_1.x.A p0_1.x.l.length p0_1.x.c), (.bool p0_1.y.n), (.slice p0_1.y.A p0_1.y.l.length p0_1.y.c), (.bool p0_2.x.n), (.slice p0_2.x.A p0_2.x.l.length p0_2.x.c), (.bool p0_2.y.n), (.slice p0_2.y.A p0_2.y.l.length p0_2.y.c), (.bool p0_3.x.n), (.slice p0_3.x.A p0_3.x.l.length p0_3.x.c), (.bool p0_3.y.n), (.slice p0_3.y.A p0_3.y.l.length p0_3.y.c), (.bool p0_4.x.n), (.slice p0_4.x.A p0_4.x.l.length p0_4.x.c), (.bool p0_4.y.n), (.slice p0_4.y.A p0_4.y.l.length p0_4.y.c), (.bool p0_5.x.n), (.slice p0_5.x.A p0_5.x.l.length p0_5.x.c), (.bool p0_5.y.n), (.slice p0_5.y.A p0_5.y.l.length p0_5.y.c)])] V0 fun v0 V1 =>
    ∃ b2 : Bool, v0 = (.bool b2) ∧
    ((b2 = true → R (.tuple #[(.agg #[(.bool false), (.slice none 0 0), (.bool false), (.slice none 0 0), (.bool false), (.slice none 0 0), (.bool false), (.slice none 0 0), (.bool false), (.slice none 0 0), (.bool false), (.slice none 0 0), (.bool false), (.slice none 0 0), (.bool false), (.slice none 0 0), (.bool false), (.slice none 0 0), (.bool false), (.slice none 0 0), (.bool false), (.slice none 0 0), (.bool false), (.slice none 0 0)]), (.int .i64 (19 : Int))]) V1) ∧
    (b2 = false → CSpec Tryd.prog n_twist_joined #[(.agg #[(.bool p0_0.x.n), (.slice p0_0.x.A p0_0.x.l.length p0_0.x.c), (.bool p0_0.y.n), (.slice p0_0.y.A p0_0.y.l.length p0_0.y.c), (.bool p0_1.x.n), (.slice p0_1.x.A p0_1.x.l.length p0_1.x.c), (.bool p0_1.y.n), (.slice p0_1.y.A p0_1.y.l.length p0_1.y.c), (.bool p0_2.x.n), (.slice p0_2.x.A p0_2.x.l.length p0_2.x.c), (.bool p0_2.y.n), (.slice p0_2.y.A p0_2.y.l.length p0_2.y.c)]), (.agg #[(.bool p0_3.x.n), (.slice p0_3.x.A p0_3.x.l.length p0_3.x.c), (.bool p0_3.y.n), (.slice p0_3.y.A p0_3.y.l.length p0_3.y.c), (.bool p0_4.x.n), (.slice p0_4.x.A p0_4.x.l.length p0_4.x.c), (.bool p0_4.y.n), (.slice p0_4.y.A p0_4.y.l.length p0_4.y.c), (.bool p0_5.x.n), (.slice p0_5.x.A p0_5.x.l.length p0_5.x.c), (.bool p0_5.y.n), (.slice p0_5.y.A p0_5.y.l.length p0_5.y.c)])] V1 fun v1 V2 =>
     ∃ m3 : Nat, ∃ r4 : R4, ∃ r5 : R4, ∃ r6 : R4, ∃ r7 : R4, ∃ r8 : R4, ∃ r9 : R4, ∃ n10 : Int, v1 = (.slice (some ⟨m3, Int.toNat (0 : Int), none⟩) (Int.toNat (6 : Int)) (Int.toNat n10)) ∧
     V2.f m3 = some (.cells #[(.bool r4.x.n), (.slice r4.x.A r4.x.l.length r4.x.c), (.bool r4.y.n), (.slice r4.y.A r4.y.l.length r4.y.c), (.bool r5.x.n), (.slice r5.x.A r5.x.l.length r5.x.c), (.bool r5.y.n), (.slice r5.y.A r5.y.l.length r5.y.c), (.bool r6.x.n), (.slice r6.x.A r6.x.l.length r6.x.c), (.bool r6.y.n), (.slice r6.y.A r6.y.l.length r6.y.c), (.bool r7.x.n), (.slice r7.x.A r7.x.l.length r7.x.c), (.bool r7.y.n), (.slice r7.y.A r7.y.l.length r7.y.c), (.bool r8.x.n), (.slice r8.x.A r8.x.l.length r8.x.c), (.bool r8.y.n), (.slice r8.y.A r8.y.l.length r8.y.c), (.bool r9.x.n), (.slice r9.x.A r9.x.l.length r9.x.c), (.bool r9.y.n), (.slice r9.y.A r9.y.l.length r9.y.c)] 31) ∧
     CSpec Tryd.prog n_integer_From #[(.int .i64 (1 : Int))] V2 fun v2 V3 =>
     ∃ i11 : R2, v2 = (.agg #[(.bool i11.n), (.slice i11.A i11.l.length i11.c)]) ∧
     ∀ m12 : Nat, ∀ m13 : Nat, CSpec Tryd.prog n_rational_Rat_Den #[(.agg #[(.bool r4.x.n), (.slice r4.x.A r4.x.l.length r4.x.c), (.bool r4.y.n), (.slice r4.y.A r4.y.l.length r4.y.c)])] V3 fun v3 V4 =>
     ∃ i14 : R2, v3 = (.agg #[(.bool i14.n), (.slice i14.A i14.l.length i14.c)]) ∧
     CSpec Tryd.prog n_rational_Rat_Den #[(.agg #[(.bool r4.x.n), (.slice r4.x.A r4.x.l.length r4.x.c), (.bool r4.y.n), (.slice r4.y.A r4.y.l.length r4.y.c)])] V4 fun v4 V5 =>
     ∃ i15 : R2, v4 = (.agg #[(.bool i15.n), (.slice i15.A i15.l.length i15.c)]) ∧
     CSpec Tryd.prog n_integer_Gcd #[(.agg #[(.bool i11.n), (.slice i11.A i11.l.length i11.c)]), (.agg #[(.bool i15.n), (.slice i15.A i15.l.length i15.c)])] V5 fun v5 V6 =>
     ∃ i16 : R2, v5 = (.agg #[(.bool i16.n), (.slice i16.A i16.l.length i16.c)]) ∧
     CSpec Tryd.prog n_integer_DivMod #[(.agg #[(.bool i14.n), (.slice i14.A i14.l.length i14.c)]), (.agg #[(.bool i16.n), (.slice i16.A i16.l.length i16.c)])] V6 fun v6 V7 =>
     ∃ i17 : R2, ∃ i18 : R2, ∃ n19 : Int, v6 = (.tuple #[(.agg #[(.bool i17.n), (.slice i17.A i17.l.length i17.c)]), (.agg #[(.bool i18.n), (.slice i18.A i18.l.length i18.c)]), (.int .i64 n19)]) ∧
     ∀ m20 : Nat, ∀ m21 : Nat, CSpec Tryd.prog n_integer_Mul #[(.agg #[(.bool i11.n), (.slice i11.A i11.l.length i11.c)]), (.agg #[(.bool i17.n), (.slice i17.A i17.l.length i17.c)])] V7 fun v7 V8 =>
     ∃ i22 : R2, v7 = (.agg #[(.bool i22.n), (.slice i22.A i22.l.length i22.c)]) ∧
     ∀ m23 : Nat, CSpec Tryd.prog n_rational_Rat_Den #[(.agg #[(.bool r5.x.n), (.slice r5.x.A r5.x.l.length r5.x.c), (.bool r5.y.n), (.slice r5.y.A r5.y.l.length r5.y.c)])] V8 fun v8 V9 =>
     ∃ i24 : R2, v8 = (.agg #[(.bool i24.n), (.slice i24.A i24.l.length i24.c)]) ∧
     CSpec Tryd.prog n_rational_Rat_Den #[(.agg #[(.bool r5.x.n), (.slice r5.x.A r5.x.l.length r5.x.c), (.bool r5.y.n), (.slice r5.y.A r5.y.l.length r5.y.c)])] V9 fun v9 V10 =>
     ∃ i25 : R2, v9 = (.agg #[(.bool i25.n), (.slice i25.A i25.l.length i25.c)]) ∧
     CSpec Tryd.prog n_integer_Gcd #[(.agg #[(.bool i22.n), (.slice i22.A i22.l.length i22.c)]), (.agg #[(.bool i25.n), (.slice i25.A i25.l.length i25.c)])] V10 fun v10 V11 =>
     ∃ i26 : R2, v10 = (.agg #[(.bool i26.n), (.slice i26.A i26.l.length i26.c)]) ∧
     CSpec Tryd.prog n_integer_DivMod #[(.agg #[(.bool i24.n), (.slice i24.A i24.l.length i24.c)]), (.agg #[(.bool i26.n), (.slice i26.A i26.l.length i26.c)])] V11 fun v11 V12 =>
     ∃ i27 : R2, ∃ i28 : R2, ∃ n29 : Int, v11 = (.tuple #[(.agg #[(.bool i27.n), (.slice i27.A i27.l.length i27.c)]), (.agg #[(.bool i28.n), (.slice i28.A i28.l.length i28.c)]), (.int .i64 n29)]) ∧
     ∀ m30 : Nat, ∀ m31 : Nat, CSpec Tryd.prog n_integer_Mul #[(.agg #[(.bool i22.n), (.slice i22.A i22.l.length i22.c)]), (.agg #[(.bool i27.n), (.slice i27.A i27.l.length i27.c)])] V12 fun v12 V13 =>
     ∃ i32 : R2, v12 = (.agg #[(.bool i32.n), (.slice i32.A i32.l.length i32.c)]) ∧
     ∀ m33 : Nat, CSpec Tryd.prog n_rational_Rat_Den #[(.agg #[(.bool r6.x.n), (.slice r6.x.A r6.x.l.length r6.x.c), (.bool r6.y.n), (.slice r6.y.A r6.y.l.length r6.y.c)])] V13 fun v13 V14 =>
     ∃ i34 : R2, v13 = (.agg #[(.bool i34.n), (.slice i34.A i34.l.length i34.c)]) ∧
     CSpec Tryd.prog n_rational_Rat_Den #[(.agg #[(.bool r6.x.n), (.slice r6.x.A r6.x.l.length r6.x.c), (.bool r6.y.n), (.slice r6.y.A r6.y.l.length r6.y.c)])] V14 fun v14 V15 =>
     ∃ i35 : R2, v14 = (.agg #[(.bool i35.n), (.slice i35.A i35.l.length i35.c)]) ∧
     CSpec Tryd.prog n_integer_Gcd #[(.agg #[(.bool i32.n), (.slice i32.A i32.l.length i32.c)]), (.agg #[(.bool i35.n), (.slice i35.A i35.l.length i35.c)])] V15 fun v15 V16 =>
     ∃ i36 : R2, v15 = (.agg #[(.bool i36.n), (.slice i36.A i36.l.length i36.c)]) ∧
     CSpec Tryd.prog n_integer_DivMod #[(.agg #[(.bool i34.n), (.slice i34.A i34.l.length i34.c)]), (.agg #[(.bool i36.n), (.slice i36.A i36.l.length i36.c)])] V16 fun v16 V17 =>
     ∃ i37 : R2, ∃ i38 : R2, ∃ n39 : Int, v16 = (.tuple #[(.agg #[(.bool i37.n), (.slice i37.A i37.l.length i37.c)]), (.agg #[(.bool i38.n), (.slice i38.A i38.l.length i38.c)]), (.int .i64 n39)]) ∧
     ∀ m40 : Nat, ∀ m41 : Nat, CSpec Tryd.prog n_integer_Mul #[(.agg #[(.bool i32.n), (.slice i32.A i32.l.length i32.c)]), (.agg #[(.bool i37.n), (.slice i37.A i37.l.length i37.c)])] V17 fun v17 V18 =>
     ∃ i42 : R2, v17 = (.agg #[(.bool i42.n), (.slice i42.A i42.l.length i42.c)]) ∧
     ∀ m43 : Nat, CSpec Tryd.prog n_rational_Rat_Den #[(.agg #[(.bool r7.x.n), (.slice r7.x.A r7.x.l.length r7.x.c), (.bool r7.y.n), (.slice r7.y.A r7.y.l.length r7.y.c)])] V18 fun v18 V19 =>
     ∃ i44 : R2, v18 = (.agg #[(.bool i44.n), (.slice i44.A i44.l.length i44.c)]) ∧
     CSpec Tryd.prog n_rational_Rat_Den #[(.agg #[(.bool r7.x.n), (.slice r7.x.A r7.x.l.length r7.x.c), (.bool r7.y.n), (.slice r7.y.A r7.y.l.length r7.y.c)])] V19 fun v19 V20 =>
     ∃ i45 : R2, v19 = (.agg #[(.bool i45.n), (.slice i45.A i45.l.length i45.c)]) ∧
     CSpec Tryd.prog n_integer_Gcd #[(.agg #[(.bool i42.n), (.slice i42.A i42.l.length i42.c)]), (.agg #[(.bool i45.n), (.slice i45.A i45.l.length i45.c)])] V20 fun v20 V21 =>
     ∃ i46 : R2, v20 = (.agg #[(.bool i46.n), (.slice i46.A i46.l.length i46.c)]) ∧
     CSpec Tryd.prog n_integer_DivMod #[(.agg #[(.bool i44.n), (.slice i44.A i44.l.length i44.c)]), (.agg #[(.bool i46.n), (.slice i46.A i46.l.length i46.c)])] V21 fun v21 V22 =>
     ∃ i47 : R2, ∃ i48 : R2, ∃ n49 : Int, v21 = (.tuple #[(.agg #[(.bool i47.n), (.slice i47.A i47.l.length i47.c)]), (.agg #[(.bool i48.n), (.slice i48.A i48.l.length i48.c)]), (.int .i64 n49)]) ∧
     ∀ m50 : Nat, ∀ m51 : Nat, CSpec Tryd.prog n_integer_Mul #[(.agg #[(.bool i42.n), (.slice i42.A i42.l.length i42.c)]), (.agg #[(.bool i47.n), (.slice i47.A i47.l.length i47.c)])] V22 fun v22 V23 =>
     ∃ i52 : R2, v22 = (.agg #[(.bool i52.n), (.slice i52.A i52.l.length i52.c)]) ∧
     ∀ m53 : Nat, CSpec Tryd.prog n_rational_Rat_Den #[(.agg #[(.bool r8.x.n), (.slice r8.x.A r8.x.l.length r8.x.c), (.bool r8.y.n), (.slice r8.y.A r8.y.l.length r8.y.c)])] V23 fun v23 V24 =>
     ∃ i54 : R2, v23 = (.agg #[(.bool i54.n), (.slice i54.A i54.l.length i54.c)]) ∧
     CSpec Tryd.prog n_rational_Rat_Den #[(.agg #[(.bool r8.x.n), (.slice r8.x.A r8.x.l.length r8.x.c), (.bool r8.y.n), (.slice r8.y.A r8.y.l.length r8.y.c)])] V24 fun v24 V25 =>
     ∃ i55 : R2, v24 = (.agg #[(.bool i55.n), (.slice i55.A i55.l.length i55.c)]) ∧
     CSpec Tryd.prog n_integer_Gcd #[(.agg #[(.bool i52.n), (.slice i52.A i52.l.length i52.c)]), (.agg #[(.bool i55.n), (.slice i55.A i55.l.length i55.c)])] V25 fun v25 V26 =>
     ∃ i56 : R2, v25 = (.agg #[(.bool i56.n), (.slice i56.A i56.l.length i56.c)]) ∧
     CSpec Tryd.prog n_integer_DivMod #[(.agg #[(.bool i54.n), (.slice i54.A i54.l.length i54.c)]), (.agg #[(.bool i56.n), (.slice i56.A i56.l.length i56.c)])] V26 fun v26 V27 =>
     ∃ i57 : R2, ∃ i58 : R2, ∃ n59 : Int, v26 = (.tuple #[(.agg #[(.bool i57.n), (.slice i57.A i57.l.length i57.c)]), (.agg #[(.bool i58.n), (.slice i58.A i58.l.length i58.c)]), (.int .i64 n59)]) ∧
     ∀ m60 : Nat, ∀ m61 : Nat, CSpec Tryd.prog n_integer_Mul #[(.agg #[(.bool i52.n), (.slice i52.A i52.l.length i52.c)]), (.agg #[(.bool i57.n), (.slice i57.A i57.l.length i57.c)])] V27 fun v27 V28 =>
     ∃ i62 : R2, v27 = (.agg #[(.bool i62.n), (.slice i62.A i62.l.length i62.c)]) ∧
     ∀ m63 : Nat, CSpec Tryd.prog n_rational_Rat_Den #[(.agg #[(.bool r9.x.n), (.slice r9.x.A r9.x.l.length r9.x.c), (.bool r9.y.n), (.slice r9.y.A r9.y.l.length r9.y.c)])] V28 fun v28 V29 =>
     ∃ i64 : R2, v28 = (.agg #[(.bool i64.n), (.slice i64.A i64.l.length i64.c)]) ∧
     CSpec Tryd.prog n_rational_Rat_Den #[(.agg #[(.bool r9.x.n), (.slice r9.x.A r9.x.l.length r9.x.c), (.bool r9.y.n), (.slice r9.y.A r9.y.l.length r9.y.c)])] V29 fun v29 V30 =>
     ∃ i65 : R2, v29 = (.agg #[(.bool i65.n), (.slice i65.A i65.l.length i65.c)]) ∧
     CSpec Tryd.prog n_integer_Gcd #[(.agg #[(.bool i62.n), (.slice i62.A i62.l.length i62.c)]), (.agg #[(.bool i65.n), (.slice i65.A i65.l.length i65.c)])] V30 fun v30 V31 =>
     ∃ i66 : R2, v30 = (.agg #[(.bool i66.n), (.slice i66.A i66.l.length i66.c)]) ∧
     CSpec Tryd.prog n_integer_DivMod #[(.agg #[(.bool i64.n), (.slice i64.A i64.l.length i64.c)]), (.agg #[(.bool i66.n), (.slice i66.A i66.l.length i66.c)])] V31 fun v31 V32 =>
     ∃ i67 : R2, ∃ i68 : R2, ∃ n69 : Int, v31 = (.tuple #[(.agg #[(.bool i67.n), (.slice i67.A i67.l.length i67.c)]), (.agg #[(.bool i68.n), (.slice i68.A i68.l.length i68.c)]), (.int .i64 n69)]) ∧
     ∀ m70 : Nat, ∀ m71 : Nat, CSpec Tryd.prog n_integer_Mul #[(.agg #[(.bool i62.n), (.slice i62.A i62.l.length i62.c)]), (.agg #[(.bool i67.n), (.slice i67.A i67.l.length i67.c)])] V32 fun v32 V33 =>
     ∃ i72 : R2, v32 = (.agg #[(.bool i72.n), (.slice i72.A i72.l.length i72.c)]) ∧
     ∀ m73 : Nat, ∀ m74 : Nat, CSpec Tryd.prog n_rational_Rat_Den #[(.agg #[(.bool r4.x.n), (.slice r4.x.A r4.x.l.length r4.x.c), (.bool r4.y.n), (.slice r4.y.A r4.y.l.length r4.y.c)])] V33 fun v33 V34 =>
     ∃ i75 : R2, v33 = (.agg #[(.bool i75.n), (.slice i75.A i75.l.length i75.c)]) ∧
     CSpec Tryd.prog n_integer_DivMod #[(.agg #[(.bool i72.n), (.slice i72.A i72.l.length i72.c)]), (.agg #[(.bool i75.n), (.slice i75.A i75.l.length i75.c)])] V34 fun v34 V35 =>
     ∃ i76 : R2, ∃ i77 : R2, ∃ n78 : Int, v34 = (.tuple #[(.agg #[(.bool i76.n), (.slice i76.A i76.l.length i76.c)]), (.agg #[(.bool i77.n), (.slice i77.A i77.l.length i77.c)]), (.int .i64 n78)]) ∧
     ∀ m79 : Nat, ∀ m80 : Nat, CSpec Tryd.prog n_rational_Rat_Num #[(.agg #[(.bool r4.x.n), (.slice r4.x.A r4.x.l.length r4.x.c), (.bool r4.y.n), (.slice r4.y.A r4.y.l.length r4.y.c)])] V35 fun v35 V36 =>
     ∃ i81 : R2, v35 = (.agg #[(.bool i81.n), (.slice i81.A i81.l.length i81.c)]) ∧
     CSpec Tryd.prog n_integer_Mul #[(.agg #[(.bool i81.n), (.slice i81.A i81.l.length i81.c)]), (.agg #[(.bool i76.n), (.slice i76.A i76.l.length i76.c)])] V36 fun v36 V37 =>
     ∃ i82 : R2, v36 = (.agg #[(.bool i82.n), (.slice i82.A i82.l.length i82.c)]) ∧
     CSpec Tryd.prog n_integer_Gcd #[(.agg #[(.bool false), (.slice none 0 0)]), (.agg #[(.bool i82.n), (.slice i82.A i82.l.length i82.c)])] V37 fun v37 V38 =>
     ∃ i83 : R2, v37 = (.agg #[(.bool i83.n), (.slice i83.A i83.l.length i83.c)]) ∧
     ∀ m84 : Nat, CSpec Tryd.prog n_rational_Rat_Den #[(.agg #[(.bool r5.x.n), (.slice r5.x.A r5.x.l.length r5.x.c), (.bool r5.y.n), (.slice r5.y.A r5.y.l.length r5.y.c)])] V38 fun v38 V39 =>
     ∃ i85 : R2, v38 = (.agg #[(.bool i85.n), (.slice i85.A i85.l.length i85.c)]) ∧
     CSpec Tryd.prog n_integer_DivMod #[(.agg #[(.bool i72.n), (.slice i72.A i72.l.length i72.c)]), (.agg #[(.bool i85.n), (.slice i85.A i85.l.length i85.c)])] V39 fun v39 V40 =>
     ∃ i86 : R2, ∃ i87 : R2, ∃ n88 : Int, v39 = (.tuple #[(.agg #[(.bool i86.n), (.slice i86.A i86.l.length i86.c)]), (.agg #[(.bool i87.n), (.slice i87.A i87.l.length i87.c)]), (.int .i64 n88)]) ∧
     ∀ m89 : Nat, ∀ m90 : Nat, CSpec Tryd.prog n_rational_Rat_Num #[(.agg #[(.bool r5.x.n), (.slice r5.x.A r5.x.l.length r5.x.c), (.bool r5.y.n), (.slice r5.y.A r5.y.l.length r5.y.c)])] V40 fun v40 V41 =>
     ∃ i91 : R2, v40 = (.agg #[(.bool i91.n), (.slice i91.A i91.l.length i91.c)]) ∧
     CSpec Tryd.prog n_integer_Mul #[(.agg #[(.bool i91.n), (.slice i91.A i91.l.length i91.c)]), (.agg #[(.bool i86.n), (.slice i86.A i86.l.length i86.c)])] V41 fun v41 V42 =>
     ∃ i92 : R2, v41 = (.agg #[(.bool i92.n), (.slice i92.A i92.l.length i92.c)]) ∧
     CSpec Tryd.prog n_integer_Gcd #[(.agg #[(.bool i83.n), (.slice i83.A i83.l.length i83.c)]), (.agg #[(.bool i92.n), (.slice i92.A i92.l.length i92.c)])] V42 fun v42 V43 =>
     ∃ i93 : R2, v42 = (.agg #[(.bool i93.n), (.slice i93.A i93.l.length i93.c)]) ∧
     ∀ m94 : Nat, CSpec Tryd.prog n_rational_Rat_Den #[(.agg #[(.bool r6.x.n), (.slice r6.x.A r6.x.l.length r6.x.c), (.bool r6.y.n), (.slice r6.y.A r6.y.l.length r6.y.c)])] V43 fun v43 V44 =>
     ∃ i95 : R2, v43 = (.agg #[(.bool i95.n), (.slice i95.A i95.l.length i95.c)]) ∧
     CSpec Tryd.prog n_integer_DivMod #[(.agg #[(.bool i72.n), (.slice i72.A i72.l.length i72.c)]), (.agg #[(.bool i95.n), (.slice i95.A i95.l.length i95.c)])] V44 fun v44 V45 =>
     ∃ i96 : R2, ∃ i97 : R2, ∃ n98 : Int, v44 = (.tuple #[(.agg #[(.bool i96.n), (.slice i96.A i96.l.length i96.c)]), (.agg #[(.bool i97.n), (.slice i97.A i97.l.length i97.c)]), (.int .i64 n98)]) ∧
     ∀ m99 : Nat, ∀ m100 : Nat, CSpec Tryd.prog n_rational_Rat_Num #[(.agg #[(.bool r6.x.n), (.slice r6.x.A r6.x.l.length r6.x.c), (.bool r6.y.n), (.slice r6.y.A r6.y.l.length r6.y.c)])] V45 fun v45 V46 =>
     ∃ i101 : R2, v45 = (.agg #[(.bool i101.n), (.slice i101.A i101.l.length i101.c)]) ∧
     CSpec Tryd.prog n_integer_Mul #[(.agg #[(.bool i101.n), (.slice i101.A i101.l.length i101.c)]), (.agg #[(.bool i96.n), (.slice i96.A i96.l.length i96.c)])] V46 fun v46 V47 =>
     ∃ i102 : R2, v46 = (.agg #[(.bool i102.n), (.slice i102.A i102.l.length i102.c)]) ∧
     CSpec Tryd.prog n_integer_Gcd #[(.agg #[(.bool i93.n), (.slice i93.A i93.l.length i93.c)]), (.agg #[(.bool i102.n), (.slice i102.A i102.l.length i102.c)])] V47 fun v47 V48 =>
     ∃ i103 : R2, v47 = (.agg #[(.bool i103.n), (.slice i103.A i103.l.length i103.c)]) ∧
     ∀ m104 : Nat, CSpec Tryd.prog n_rational_Rat_Den #[(.agg #[(.bool r7.x.n), (.slice r7.x.A r7.x.l.length r7.x.c), (.bool r7.y.n), (.slice r7.y.A r7.y.l.length r7.y.c)])] V48 fun v48 V49 =>
     ∃ i105 : R2, v48 = (.agg #[(.bool i105.n), (.slice i105.A i105.l.length i105.c)]) ∧
     CSpec Tryd.prog n_integer_DivMod #[(.agg #[(.bool i72.n), (.slice i72.A i72.l.length i72.c)]), (.agg #[(.bool i105.n), (.slice i105.A i105.l.length i105.c)])] V49 fun v49 V50 =>
     ∃ i106 : R2, ∃ i107 : R2, ∃ n108 : Int, v49 = (.tuple #[(.agg #[(.bool i106.n), (.slice i106.A i106.l.length i106.c)]), (.agg #[(.bool i107.n), (.slice i107.A i107.l.length i107.c)]), (.int .i64 n108)]) ∧
     ∀ m109 : Nat, ∀ m110 : Nat, CSpec Tryd.prog n_rational_Rat_Num #[(.agg #[(.bool r7.x.n), (.slice r7.x.A r7.x.l.length r7.x.c), (.bool r7.y.n), (.slice r7.y.A r7.y.l.length r7.y.c)])] V50 fun v50 V51 =>
     ∃ i111 : R2, v50 = (.agg #[(.bool i111.n), (.slice i111.A i111.l.length i111.c)]) ∧
     CSpec Tryd.prog n_integer_Mul #[(.agg #[(.bool i111.n), (.slice i111.A i111.l.length i111.c)]), (.agg #[(.bool i106.n), (.slice i106.A i106.l.length i106.c)])] V51 fun v51 V52 =>
     ∃ i112 : R2, v51 = (.agg #[(.bool i112.n), (.slice i112.A i112.l.length i112.c)]) ∧
     CSpec Tryd.prog n_integer_Gcd #[(.agg #[(.bool i103.n), (.slice i103.A i103.l.length i103.c)]), (.agg #[(.bool i112.n), (.slice i112.A i112.l.length i112.c)])] V52 fun v52 V53 =>
     ∃ i113 : R2, v52 = (.agg #[(.bool i113.n), (.slice i113.A i113.l.length i113.c)]) ∧
     ∀ m114 : Nat, CSpec Tryd.prog n_rational_Rat_Den #[(.agg #[(.bool r8.x.n), (.slice r8.x.A r8.x.l.length r8.x.c), (.bool r8.y.n), (.slice r8.y.A r8.y.l.length r8.y.c)])] V53 fun v53 V54 =>
     ∃ i115 : R2, v53 = (.agg #[(.bool i115.n), (.slice i115.A i115.l.length i115.c)]) ∧
     CSpec Tryd.prog n_integer_DivMod #[(.agg #[(.bool i72.n), (.slice i72.A i72.l.length i72.c)]), (.agg #[(.bool i115.n), (.slice i115.A i115.l.length i115.c)])] V54 fun v54 V55 =>
     ∃ i116 : R2, ∃ i117 : R2, ∃ n118 : Int, v54 = (.tuple #[(.agg #[(.bool i116.n), (.slice i116.A i116.l.length i116.c)]), (.agg #[(.bool i117.n), (.slice i117.A i117.l.length i117.c)]), (.int .i64 n118)]) ∧
     ∀ m119 : Nat, ∀ m120 : Nat, CSpec Tryd.prog n_rational_Rat_Num #[(.agg #[(.bool r8.x.n), (.slice r8.x.A r8.x.l.length r8.x.c), (.bool r8.y.n), (.slice r8.y.A r8.y.l.length r8.y.c)])] V55 fun v55 V56 =>
     ∃ i121 : R2, v55 = (.agg #[(.bool i121.n), (.slice i121.A i121.l.length i121.c)]) ∧
     CSpec Tryd.prog n_integer_Mul #[(.agg #[(.bool i121.n), (.slice i121.A i121.l.length i121.c)]), (.agg #[(.bool i116.n), (.slice i116.A i116.l.length i116.c)])] V56 fun v56 V57 =>
     ∃ i122 : R2, v56 = (.agg #[(.bool i122.n), (.slice i122.A i122.l.length i122.c)]) ∧
     CSpec Tryd.prog n_integer_Gcd #[(.agg #[(.bool i113.n), (.slice i113.A i113.l.length i113.c)]), (.agg #[(.bool i122.n), (.slice i122.A i122.l.length i122.c)])] V57 fun v57 V58 =>
     ∃ i123 : R2, v57 = (.agg #[(.bool i123.n), (.slice i123.A i123.l.length i123.c)]) ∧
     ∀ m124 : Nat, CSpec Tryd.prog n_rational_Rat_Den #[(.agg #[(.bool r9.x.n), (.slice r9.x.A r9.x.l.length r9.x.c), (.bool r9.y.n), (.slice r9.y.A r9.y.l.length r9.y.c)])] V58 fun v58 V59 =>
     ∃ i125 : R2, v58 = (.agg #[(.bool i125.n), (.slice i125.A i125.l.length i125.c)]) ∧
     CSpec Tryd.prog n_integer_DivMod #[(.agg #[(.bool i72.n), (.slice i72.A i72.l.length i72.c)]), (.agg #[(.bool i125.n), (.slice i125.A i125.l.length i125.c)])] V59 fun v59 V60 =>
     ∃ i126 : R2, ∃ i127 : R2, ∃ n128 : Int, v59 = (.tuple #[(.agg #[(.bool i126.n), (.slice i126.A i126.l.length i126.c)]), (.agg #[(.bool i127.n), (.slice i127.A i127.l.length i127.c)]), (.int .i64 n128)]) ∧
     ∀ m129 : Nat, ∀ m130 : Nat, CSpec Tryd.prog n_rational_Rat_Num #[(.agg #[(.bool r9.x.n), (.slice r9.x.A r9.x.l.length r9.x.c), (.bool r9.y.n), (.slice r9.y.A r9.y.l.length r9.y.c)])] V60 fun v60 V61 =>
     ∃ i131 : R2, v60 = (.agg #[(.bool i131.n), (.slice i131.A i131.l.length i131.c)]) ∧
     CSpec Tryd.prog n_integer_Mul #[(.agg #[(.bool i131.n), (.slice i131.A i131.l.length i131.c)]), (.agg #[(.bool i126.n), (.slice i126.A i126.l.length i126.c)])] V61 fun v61 V62 =>
     ∃ i132 : R2, v61 = (.agg #[(.bool i132.n), (.slice i132.A i132.l.length i132.c)]) ∧
     CSpec Tryd.prog n_integer_Gcd #[(.agg #[(.bool i123.n), (.slice i123.A i123.l.length i123.c)]), (.agg #[(.bool i132.n), (.slice i132.A i132.l.length i132.c)])] V62 fun v62 V63 =>
     ∃ i133 : R2, v62 = (.agg #[(.bool i133.n), (.slice i133.A i133.l.length i133.c)]) ∧
     CSpec Tryd.prog n_rational_Make #[(.agg #[(.bool i72.n), (.slice i72.A i72.l.length i72.c)]), (.agg #[(.bool i133.n), (.slice i133.A i133.l.length i133.c)])] V63 fun v63 V64 =>
     ∃ r134 : R4, ∃ n135 : Int, v63 = (.tuple #[(.agg #[(.bool r134.x.n), (.slice r134.x.A r134.x.l.length r134.x.c), (.bool r134.y.n), (.slice r134.y.A r134.y.l.length r134.y.c)]), (.int .i64 n135)]) ∧
     ∀ m136 : Nat, CSpec Tryd.prog n_twist_Scale #[(.agg #[(.bool p0_0.x.n), (.slice p0_0.x.A p0_0.x.l.length p0_0.x.c), (.bool p0_0.y.n), (.slice p0_0.y.A p0_0.y.l.length p0_0.y.c), (.bool p0_1.x.n), (.slice p0_1.x.A p0_1.x.l.length p0_1.x.c), (.bool p0_1.y.n), (.slice p0_1.y.A p0_1.y.l.length p0_1.y.c), (.bool p0_2.x.n), (.slice p0_2.x.A p0_2.x.l.length p0_2.x.c), (.bool p0_2.y.n), (.slice p0_2.y.A p0_2.y.l.length p0_2.y.c), (.bool p0_3.x.n), (.slice p0_3.x.A p0_3.x.l.length p0_3.x.c), (.bool p0_3.y.n), (.slice p0_3.y.A p0_3.y.l.length p0_3.y.c), (.bool p0_4.x.n), (.slice p0_4.x.A p0_4.x.l.length p0_4.x.c), (.bool p0_4.y.n), (.slice p0_4.y.A p0_4.y.l.length p0_4.y.c), (.bool p0_5.x.n), (.slice p0_5.x.A p0_5.x.l.length p0_5.x.c), (.bool p0_5.y.n), (.slice p0_5.y.A p0_5.y.l.length p0_5.y.c)]), (.agg #[(.bool r134.x.n), (.slice r134.x.A r134.x.l.length r134.x.c), (.bool r134.y.n), (.slice r134.y.A r134.y.l.length r134.y.c)])] V64 fun v64 V65 =>
     ∃ r137 : R4, ∃ r138 : R4, ∃ r139 : R4, ∃ r140 : R4, ∃ r141 : R4, ∃ r142 : R4, v64 = (.agg #[(.bool r137.x.n), (.slice r137.x.A r137.x.l.length r137.x.c), (.bool r137.y.n), (.slice r137.y.A r137.y.l.length r137.y.c), (.bool r138.x.n), (.slice r138.x.A r138.x.l.length r138.x.c), (.bool r138.y.n), (.slice r138.y.A r138.y.l.length r138.y.c), (.bool r139.x.n), (.slice r139.x.A r139.x.l.length r139.x.c), (.bool r139.y.n), (.slice r139.y.A r139.y.l.length r139.y.c), (.bool r140.x.n), (.slice r140.x.A r140.x.l.length r140.x.c), (.bool r140.y.n), (.slice r140.y.A r140.y.l.length r140.y.c), (.bool r141.x.n), (.slice r141.x.A r141.x.l.length r141.x.c), (.bool r141.y.n), (.slice r141.y.A r141.y.l.length r141.y.c), (.bool r142.x.n), (.slice r142.x.A r142.x.l.length r142.x.c), (.bool r142.y.n), (.slice r142.y.A r142.y.l.length r142.y.c)]) ∧
     R (.tuple #[(.agg #[(.bool r137.x.n), (.slice r137.x.A r137.x.l.length r137.x.c), (.bool r137.y.n), (.slice r137.y.A r137.y.l.length r137.y.c), (.bool r138.x.n), (.slice r138.x.A r138.x.l.length r138.x.c), (.bool r138.y.n), (.slice r138.y.A r138.y.l.length r138.y.c), (.bool r139.x.n), (.slice r139.x.A r139.x.l.length r139.x.c), (.bool r139.y.n), (.slice r139.y.A r139.y.l.length r139.y.c), (.bool r140.x.n), (.slice r140.x.A r140.x.l.length r140.x.c), (.bool r140.y.n), (.slice r140.y.A r140.y.l.length r140.y.c), (.bool r141.x.n), (.slice r141.x.A r141.x.l.length r141.x.c), (.bool r141.y.n), (.slice r141.y.A r141.y.l.length r141.y.c), (.bool r142.x.n), (.slice r142.x.A r142.x.l.length r142.x.c), (.bool r142.y.n), (.slice r142.y.A r142.y.l.length r142.y.c)]), (.int .i64 n135)]) V65))) :
    CSpec Tryd.prog n_twist_Primitive #[(.agg #[(.bool p0_0.x.n), (.slice p0_0.x.A p0_0.x.l.length p0_0.x.c), (.bool p0_0.y.n), (.slice p0_0.y.A p0_0.y.l.length p0_0.y.c), (.bool p0_1.x.n), (.slice p0_1.x.A p0_1.x.l.length p0_1.x.c), (.bool p0_1.y.n), (.slice p0_1.y.A p0_1.y.l.length p0_1.y.c), (.bool p0_2.x.n), (.slice p0_2.x.A p0_2.x.l.length p0_2.x.c), (.bool p0_2.y.n), (.slice p0_2.y.A p0_2.y.l.length p0_2.y.c), (.bool p0_3.x.n), (.slice p0_3.x.A p0_3.x.l.length p0_3.x.c), (.bool p0_3.y.n), (.slice p0_3.y.A p0_3.y.l.length p0_3.y.c), (.bool p0_4.x.n), (.slice p0_4.x.A p0_4.x.l.length p0_4.x.c), (.bool p0_4.y.n), (.slice p0_4.y.A p0_4.y.l.length p0_4.y.c), (.bool p0_5.x.n), (.slice p0_5.x.A p0_5.x.l.length p0_5.x.c), (.bool p0_5.y.n), (.slice p0_5.y.A p0_5.y.l.length p0_5.y.c)])] V0 R :=
  enter (l := calTryd) (bor := borTryd) (own := ownTryd) (giv := givTryd) calOkTryd mixTryd Tryd.func37 (args := [.agg [.bool (.var p0_0.x.a), .val p0_0.x.b, .bool (.var p0_0.y.a), .val p0_0.y.b, .bool (.var p0_1.x.a), .val p0_1.x.b, .bool (.var p0_1.y.a), .val p0_1.y.b, .bool (.var p0_2.x.a), .val p0_2.x.b, .bool (.var p0_2.y.a), .val p0_2.y.b, .bool (.var p0_3.x.a), .val p0_3.x.b, .bool (.var p0_3.y.a), .val p0_3.y.b, .bool (.var p0_4.x.a), .val p0_4.x.b, .bool (.var p0_4.y.a), .val p0_4.y.b, .bool (.var p0_5.x.a), .val p0_5.x.b, .bool (.var p0_5.y.a), .val p0_5.y.b]]) (fuel := 3000) (hh := [.lst]) (by kernel_rfl) (Eq.mpr (by kernel_rfl) h)
end Go.Proofs.YteimfmjojadkfaaDoor
