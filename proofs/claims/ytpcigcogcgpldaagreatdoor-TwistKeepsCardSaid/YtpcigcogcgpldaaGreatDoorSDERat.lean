/- A text of this claim's own: SD.ERat. -/
import Derived.Test.YtpcigcogcgpldaaGreatDoorSDNames
set_option linter.unusedVariables false
set_option linter.unusedSimpArgs false
set_option linter.unusedVariables false
set_option maxRecDepth 100000
namespace Go.Proofs.YtpcigcogcgpldaaGreatDoor
open Go Go.Dx
-- (dowel/rational.Rat).whole
theorem E_rational_Rat_whole (p0_0 : R4) (V0 : VH) (R : Value → VH → Prop)
    (h : ∀ m0 : Nat, CSpec Tryz.prog n_integer_Int_Sign #[(.agg #[(.bool p0_0.y.n), (.slice p0_0.y.A p0_0.y.l.length p0_0.y.c)])] V0 fun v0 V1 =>
    ∃ n1 : Int, v0 = (.int .i64 n1) ∧
    (((n1 == (0 : Int)) = true → R (.bool true) V1) ∧
    ((n1 == (0 : Int)) = false → CSpec Tryz.prog n_rational_one #[] V1 fun v1 V2 =>
     ∃ i2 : R2, v1 = (.agg #[(.bool i2.n), (.slice i2.A i2.l.length i2.c)]) ∧
     CSpec Tryz.prog n_integer_Compare #[(.agg #[(.bool p0_0.y.n), (.slice p0_0.y.A p0_0.y.l.length p0_0.y.c)]), (.agg #[(.bool i2.n), (.slice i2.A i2.l.length i2.c)])] V2 fun v2 V3 =>
     ∃ n3 : Int, v2 = (.int .i64 n3) ∧
     R (.bool (n3 == (0 : Int))) V3))) :
    CSpec Tryz.prog n_rational_Rat_whole #[(.agg #[(.bool p0_0.x.n), (.slice p0_0.x.A p0_0.x.l.length p0_0.x.c), (.bool p0_0.y.n), (.slice p0_0.y.A p0_0.y.l.length p0_0.y.c)])] V0 R :=
  enter (l := calTryz) (bor := borTryz) (own := ownTryz) (giv := givTryz) (grw := false) calOkTryz mixTryz Tryz.func113 (args := [.agg [.bool (.var p0_0.x.a), .val p0_0.x.b, .bool (.var p0_0.y.a), .val p0_0.y.b]]) (fuel := 3000) (hh := []) (by kernel_rfl) (Eq.mpr (by kernel_rfl) h)
-- (dowel/rational.Rat).Den
theorem E_rational_Rat_Den (p0_0 : R4) (V0 : VH) (R : Value → VH → Prop)
    (h : ∀ m0 : Nat, ∀ m1 : Nat, CSpec Tryz.prog n_integer_Int_Sign #[(.agg #[(.bool p0_0.y.n), (.slice p0_0.y.A p0_0.y.l.length p0_0.y.c)])] V0 fun v0 V1 =>
    ∃ n2 : Int, v0 = (.int .i64 n2) ∧
    (((n2 == (0 : Int)) = true → CSpec Tryz.prog n_rational_one #[] V1 fun v1 V2 =>
     ∃ i3 : R2, v1 = (.agg #[(.bool i3.n), (.slice i3.A i3.l.length i3.c)]) ∧
     R (.agg #[(.bool i3.n), (.slice i3.A i3.l.length i3.c)]) V2) ∧
    ((n2 == (0 : Int)) = false → R (.agg #[(.bool p0_0.y.n), (.slice p0_0.y.A p0_0.y.l.length p0_0.y.c)]) V1))) :
    CSpec Tryz.prog n_rational_Rat_Den #[(.agg #[(.bool p0_0.x.n), (.slice p0_0.x.A p0_0.x.l.length p0_0.x.c), (.bool p0_0.y.n), (.slice p0_0.y.A p0_0.y.l.length p0_0.y.c)])] V0 R :=
  enter (l := calTryz) (bor := borTryz) (own := ownTryz) (giv := givTryz) (grw := false) calOkTryz mixTryz Tryz.func116 (args := [.agg [.bool (.var p0_0.x.a), .val p0_0.x.b, .bool (.var p0_0.y.a), .val p0_0.y.b]]) (fuel := 3000) (hh := []) (by kernel_rfl) (Eq.mpr (by kernel_rfl) h)
-- (dowel/rational.Rat).Num
theorem E_rational_Rat_Num (p0_0 : R4) (V0 : VH) (R : Value → VH → Prop)
    (h : ∀ m0 : Nat, ∀ m1 : Nat, R (.agg #[(.bool p0_0.x.n), (.slice p0_0.x.A p0_0.x.l.length p0_0.x.c)]) V0) :
    CSpec Tryz.prog n_rational_Rat_Num #[(.agg #[(.bool p0_0.x.n), (.slice p0_0.x.A p0_0.x.l.length p0_0.x.c), (.bool p0_0.y.n), (.slice p0_0.y.A p0_0.y.l.length p0_0.y.c)])] V0 R :=
  enter (l := calTryz) (bor := borTryz) (own := ownTryz) (giv := givTryz) (grw := false) calOkTryz mixTryz Tryz.func158 (args := [.agg [.bool (.var p0_0.x.a), .val p0_0.x.b, .bool (.var p0_0.y.a), .val p0_0.y.b]]) (fuel := 3000) (hh := []) (by kernel_rfl) (Eq.mpr (by kernel_rfl) h)
-- dowel/rational.Make
theorem E_rational_Make (p0_0 : R2) (p1_0 : R2) (V0 : VH) (R : Value → VH → Prop)
    (h : ∀ m0 : Nat, ∀ m1 : Nat, ∀ m2 : Nat, CSpec Tryz.prog n_integer_Int_Sign #[(.agg #[(.bool p1_0.n), (.slice p1_0.A p1_0.l.length p1_0.c)])] V0 fun v0 V1 =>
    ∃ n3 : Int, v0 = (.int .i64 n3) ∧
    (((n3 == (0 : Int)) = true → R (.tuple #[(.agg #[(.bool false), (.slice none 0 0), (.bool false), (.slice none 0 0)]), (.int .i64 (19 : Int))]) V1) ∧
    ((n3 == (0 : Int)) = false → CSpec Tryz.prog n_rational_reduced #[(.agg #[(.bool p0_0.n), (.slice p0_0.A p0_0.l.length p0_0.c)]), (.agg #[(.bool p1_0.n), (.slice p1_0.A p1_0.l.length p1_0.c)])] V1 fun v1 V2 =>
     ∃ r4 : R4, v1 = (.agg #[(.bool r4.x.n), (.slice r4.x.A r4.x.l.length r4.x.c), (.bool r4.y.n), (.slice r4.y.A r4.y.l.length r4.y.c)]) ∧
     R (.tuple #[(.agg #[(.bool r4.x.n), (.slice r4.x.A r4.x.l.length r4.x.c), (.bool r4.y.n), (.slice r4.y.A r4.y.l.length r4.y.c)]), (.int .i64 (0 : Int))]) V2))) :
    CSpec Tryz.prog n_rational_Make #[(.agg #[(.bool p0_0.n), (.slice p0_0.A p0_0.l.length p0_0.c)]), (.agg #[(.bool p1_0.n), (.slice p1_0.A p1_0.l.length p1_0.c)])] V0 R :=
  enter (l := calTryz) (bor := borTryz) (own := ownTryz) (giv := givTryz) (grw := false) calOkTryz mixTryz Tryz.func157 (args := [.agg [.bool (.var p0_0.a), .val p0_0.b], .agg [.bool (.var p1_0.a), .val p1_0.b]]) (fuel := 3000) (hh := []) (by kernel_rfl) (Eq.mpr (by kernel_rfl) h)
-- dowel/rational.reduced
theorem E_rational_reduced (p0_0 : R2) (p1_0 : R2) (V0 : VH) (R : Value → VH → Prop)
    (h : ∀ m0 : Nat, ∀ m1 : Nat, ∀ m2 : Nat, CSpec Tryz.prog n_integer_Int_Sign #[(.agg #[(.bool p1_0.n), (.slice p1_0.A p1_0.l.length p1_0.c)])] V0 fun v0 V1 =>
    ∃ n3 : Int, v0 = (.int .i64 n3) ∧
    (((decide (n3 < (0 : Int))) = true → ((((CSpec Tryz.prog n_integer_Neg #[(.agg #[(.bool p0_0.n), (.slice p0_0.A p0_0.l.length p0_0.c)])] V1 fun v1 V2 =>
       ∃ i4 : R2, v1 = (.agg #[(.bool i4.n), (.slice i4.A i4.l.length i4.c)]) ∧
       CSpec Tryz.prog n_integer_Neg #[(.agg #[(.bool p1_0.n), (.slice p1_0.A p1_0.l.length p1_0.c)])] V2 fun v2 V3 =>
       ∃ i5 : R2, v2 = (.agg #[(.bool i5.n), (.slice i5.A i5.l.length i5.c)]) ∧
       CSpec Tryz.prog n_integer_Gcd #[(.agg #[(.bool i4.n), (.slice i4.A i4.l.length i4.c)]), (.agg #[(.bool i5.n), (.slice i5.A i5.l.length i5.c)])] V3 fun v3 V4 =>
       ∃ i6 : R2, v3 = (.agg #[(.bool i6.n), (.slice i6.A i6.l.length i6.c)]) ∧
       ∀ m7 : Nat, CSpec Tryz.prog n_rational_one #[] V4 fun v4 V5 =>
       ∃ i8 : R2, v4 = (.agg #[(.bool i8.n), (.slice i8.A i8.l.length i8.c)]) ∧
       CSpec Tryz.prog n_integer_Compare #[(.agg #[(.bool i6.n), (.slice i6.A i6.l.length i6.c)]), (.agg #[(.bool i8.n), (.slice i8.A i8.l.length i8.c)])] V5 fun v5 V6 =>
       ∃ n9 : Int, v5 = (.int .i64 n9) ∧
       (((!(n9 == (0 : Int))) = true → CSpec Tryz.prog n_integer_DivMod #[(.agg #[(.bool i4.n), (.slice i4.A i4.l.length i4.c)]), (.agg #[(.bool i6.n), (.slice i6.A i6.l.length i6.c)])] V6 fun v6 V7 =>
        ∃ i10 : R2, ∃ i11 : R2, ∃ n12 : Int, v6 = (.tuple #[(.agg #[(.bool i10.n), (.slice i10.A i10.l.length i10.c)]), (.agg #[(.bool i11.n), (.slice i11.A i11.l.length i11.c)]), (.int .i64 n12)]) ∧
        CSpec Tryz.prog n_integer_DivMod #[(.agg #[(.bool i5.n), (.slice i5.A i5.l.length i5.c)]), (.agg #[(.bool i6.n), (.slice i6.A i6.l.length i6.c)])] V7 fun v7 V8 =>
        ∃ i13 : R2, ∃ i14 : R2, ∃ n15 : Int, v7 = (.tuple #[(.agg #[(.bool i13.n), (.slice i13.A i13.l.length i13.c)]), (.agg #[(.bool i14.n), (.slice i14.A i14.l.length i14.c)]), (.int .i64 n15)]) ∧
        R (.agg #[(.bool i10.n), (.slice i10.A i10.l.length i10.c), (.bool i13.n), (.slice i13.A i13.l.length i13.c)]) V8) ∧
       ((!(n9 == (0 : Int))) = false → R (.agg #[(.bool i4.n), (.slice i4.A i4.l.length i4.c), (.bool i5.n), (.slice i5.A i5.l.length i5.c)]) V6))) ∧
      (CSpec Tryz.prog n_integer_Neg #[(.agg #[(.bool p0_0.n), (.slice p0_0.A p0_0.l.length p0_0.c)])] V1 fun v8 V9 =>
       ∃ i16 : R2, v8 = (.agg #[(.bool i16.n), (.slice i16.A i16.l.length i16.c)]) ∧
       CSpec Tryz.prog n_integer_Neg #[(.agg #[(.bool p1_0.n), (.slice p1_0.A p1_0.l.length p1_0.c)])] V9 fun v9 V10 =>
       ∃ i17 : R2, v9 = (.agg #[(.bool i17.n), (.slice i17.A i17.l.length i17.c)]) ∧
       CSpec Tryz.prog n_integer_Gcd #[(.agg #[(.bool i16.n), (.slice i16.A i16.l.length i16.c)]), (.agg #[(.bool i17.n), (.slice i17.A i17.l.length i17.c)])] V10 fun v10 V11 =>
       ∃ i18 : R2, v10 = (.agg #[(.bool i18.n), (.slice i18.A i18.l.length i18.c)]) ∧
       ∀ m19 : Nat, CSpec Tryz.prog n_rational_one #[] V11 fun v11 V12 =>
       ∃ i20 : R2, v11 = (.agg #[(.bool i20.n), (.slice i20.A i20.l.length i20.c)]) ∧
       CSpec Tryz.prog n_integer_Compare #[(.agg #[(.bool i18.n), (.slice i18.A i18.l.length i18.c)]), (.agg #[(.bool i20.n), (.slice i20.A i20.l.length i20.c)])] V12 fun v12 V13 =>
       ∃ n21 : Int, v12 = (.int .i64 n21) ∧
       (((!(n21 == (0 : Int))) = true → CSpec Tryz.prog n_integer_DivMod #[(.agg #[(.bool i16.n), (.slice i16.A i16.l.length i16.c)]), (.agg #[(.bool i18.n), (.slice i18.A i18.l.length i18.c)])] V13 fun v13 V14 =>
        ∃ i22 : R2, ∃ i23 : R2, ∃ n24 : Int, v13 = (.tuple #[(.agg #[(.bool i22.n), (.slice i22.A i22.l.length i22.c)]), (.agg #[(.bool i23.n), (.slice i23.A i23.l.length i23.c)]), (.int .i64 n24)]) ∧
        CSpec Tryz.prog n_integer_DivMod #[(.agg #[(.bool i17.n), (.slice i17.A i17.l.length i17.c)]), (.agg #[(.bool i18.n), (.slice i18.A i18.l.length i18.c)])] V14 fun v14 V15 =>
        ∃ i25 : R2, ∃ i26 : R2, ∃ n27 : Int, v14 = (.tuple #[(.agg #[(.bool i25.n), (.slice i25.A i25.l.length i25.c)]), (.agg #[(.bool i26.n), (.slice i26.A i26.l.length i26.c)]), (.int .i64 n27)]) ∧
        R (.agg #[(.bool i22.n), (.slice i22.A i22.l.length i22.c), (.bool i25.n), (.slice i25.A i25.l.length i25.c)]) V15) ∧
       ((!(n21 == (0 : Int))) = false → R (.agg #[(.bool i16.n), (.slice i16.A i16.l.length i16.c), (.bool i17.n), (.slice i17.A i17.l.length i17.c)]) V13))))) ∧
     (CSpec Tryz.prog n_integer_Neg #[(.agg #[(.bool p0_0.n), (.slice p0_0.A p0_0.l.length p0_0.c)])] V1 fun v15 V16 =>
      ∃ i28 : R2, v15 = (.agg #[(.bool i28.n), (.slice i28.A i28.l.length i28.c)]) ∧
      CSpec Tryz.prog n_integer_Neg #[(.agg #[(.bool p1_0.n), (.slice p1_0.A p1_0.l.length p1_0.c)])] V16 fun v16 V17 =>
      ∃ i29 : R2, v16 = (.agg #[(.bool i29.n), (.slice i29.A i29.l.length i29.c)]) ∧
      CSpec Tryz.prog n_integer_Gcd #[(.agg #[(.bool i28.n), (.slice i28.A i28.l.length i28.c)]), (.agg #[(.bool i29.n), (.slice i29.A i29.l.length i29.c)])] V17 fun v17 V18 =>
      ∃ i30 : R2, v17 = (.agg #[(.bool i30.n), (.slice i30.A i30.l.length i30.c)]) ∧
      ∀ m31 : Nat, CSpec Tryz.prog n_rational_one #[] V18 fun v18 V19 =>
      ∃ i32 : R2, v18 = (.agg #[(.bool i32.n), (.slice i32.A i32.l.length i32.c)]) ∧
      CSpec Tryz.prog n_integer_Compare #[(.agg #[(.bool i30.n), (.slice i30.A i30.l.length i30.c)]), (.agg #[(.bool i32.n), (.slice i32.A i32.l.length i32.c)])] V19 fun v19 V20 =>
      ∃ n33 : Int, v19 = (.int .i64 n33) ∧
      (((!(n33 == (0 : Int))) = true → CSpec Tryz.prog n_integer_DivMod #[(.agg #[(.bool i28.n), (.slice i28.A i28.l.length i28.c)]), (.agg #[(.bool i30.n), (.slice i30.A i30.l.length i30.c)])] V20 fun v20 V21 =>
       ∃ i34 : R2, ∃ i35 : R2, ∃ n36 : Int, v20 = (.tuple #[(.agg #[(.bool i34.n), (.slice i34.A i34.l.length i34.c)]), (.agg #[(.bool i35.n), (.slice i35.A i35.l.length i35.c)]), (.int .i64 n36)]) ∧
       CSpec Tryz.prog n_integer_DivMod #[(.agg #[(.bool i29.n), (.slice i29.A i29.l.length i29.c)]), (.agg #[(.bool i30.n), (.slice i30.A i30.l.length i30.c)])] V21 fun v21 V22 =>
       ∃ i37 : R2, ∃ i38 : R2, ∃ n39 : Int, v21 = (.tuple #[(.agg #[(.bool i37.n), (.slice i37.A i37.l.length i37.c)]), (.agg #[(.bool i38.n), (.slice i38.A i38.l.length i38.c)]), (.int .i64 n39)]) ∧
       R (.agg #[(.bool i34.n), (.slice i34.A i34.l.length i34.c), (.bool i37.n), (.slice i37.A i37.l.length i37.c)]) V22) ∧
      ((!(n33 == (0 : Int))) = false → R (.agg #[(.bool i28.n), (.slice i28.A i28.l.length i28.c), (.bool i29.n), (.slice i29.A i29.l.length i29.c)]) V20))))) ∧
    ((decide (n3 < (0 : Int))) = false → CSpec Tryz.prog n_integer_Gcd #[(.agg #[(.bool p0_0.n), (.slice p0_0.A p0_0.l.length p0_0.c)]), (.agg #[(.bool p1_0.n), (.slice p1_0.A p1_0.l.length p1_0.c)])] V1 fun v22 V23 =>
     ∃ i40 : R2, v22 = (.agg #[(.bool i40.n), (.slice i40.A i40.l.length i40.c)]) ∧
     ∀ m41 : Nat, CSpec Tryz.prog n_rational_one #[] V23 fun v23 V24 =>
     ∃ i42 : R2, v23 = (.agg #[(.bool i42.n), (.slice i42.A i42.l.length i42.c)]) ∧
     CSpec Tryz.prog n_integer_Compare #[(.agg #[(.bool i40.n), (.slice i40.A i40.l.length i40.c)]), (.agg #[(.bool i42.n), (.slice i42.A i42.l.length i42.c)])] V24 fun v24 V25 =>
     ∃ n43 : Int, v24 = (.int .i64 n43) ∧
     (((!(n43 == (0 : Int))) = true → CSpec Tryz.prog n_integer_DivMod #[(.agg #[(.bool p0_0.n), (.slice p0_0.A p0_0.l.length p0_0.c)]), (.agg #[(.bool i40.n), (.slice i40.A i40.l.length i40.c)])] V25 fun v25 V26 =>
      ∃ i44 : R2, ∃ i45 : R2, ∃ n46 : Int, v25 = (.tuple #[(.agg #[(.bool i44.n), (.slice i44.A i44.l.length i44.c)]), (.agg #[(.bool i45.n), (.slice i45.A i45.l.length i45.c)]), (.int .i64 n46)]) ∧
      CSpec Tryz.prog n_integer_DivMod #[(.agg #[(.bool p1_0.n), (.slice p1_0.A p1_0.l.length p1_0.c)]), (.agg #[(.bool i40.n), (.slice i40.A i40.l.length i40.c)])] V26 fun v26 V27 =>
      ∃ i47 : R2, ∃ i48 : R2, ∃ n49 : Int, v26 = (.tuple #[(.agg #[(.bool i47.n), (.slice i47.A i47.l.length i47.c)]), (.agg #[(.bool i48.n), (.slice i48.A i48.l.length i48.c)]), (.int .i64 n49)]) ∧
      R (.agg #[(.bool i44.n), (.slice i44.A i44.l.length i44.c), (.bool i47.n), (.slice i47.A i47.l.length i47.c)]) V27) ∧
     ((!(n43 == (0 : Int))) = false → R (.agg #[(.bool p0_0.n), (.slice p0_0.A p0_0.l.length p0_0.c), (.bool p1_0.n), (.slice p1_0.A p1_0.l.length p1_0.c)]) V25))))) :
    CSpec Tryz.prog n_rational_reduced #[(.agg #[(.bool p0_0.n), (.slice p0_0.A p0_0.l.length p0_0.c)]), (.agg #[(.bool p1_0.n), (.slice p1_0.A p1_0.l.length p1_0.c)])] V0 R :=
  enter (l := calTryz) (bor := borTryz) (own := ownTryz) (giv := givTryz) (grw := false) calOkTryz mixTryz Tryz.func134 (args := [.agg [.bool (.var p0_0.a), .val p0_0.b], .agg [.bool (.var p1_0.a), .val p1_0.b]]) (fuel := 3000) (hh := []) (by kernel_rfl) (Eq.mpr (by kernel_rfl) h)
-- dowel/rational.From
theorem E_rational_From (p0_0 : Int) (V0 : VH) (R : Value → VH → Prop)
    (h : ∀ m0 : Nat, CSpec Tryz.prog n_integer_From #[(.int .i64 p0_0)] V0 fun v0 V1 =>
    ∃ i1 : R2, v0 = (.agg #[(.bool i1.n), (.slice i1.A i1.l.length i1.c)]) ∧
    R (.agg #[(.bool i1.n), (.slice i1.A i1.l.length i1.c), (.bool false), (.slice none 0 0)]) V1) :
    CSpec Tryz.prog n_rational_From #[(.int .i64 p0_0)] V0 R :=
  enter (l := calTryz) (bor := borTryz) (own := ownTryz) (giv := givTryz) (grw := false) calOkTryz mixTryz Tryz.func89 (args := [.one (.int .i64 (.var (OV.int .i64 p0_0)))]) (fuel := 3000) (hh := []) (by kernel_rfl) (Eq.mpr (by kernel_rfl) h)
-- dowel/rational.Div
theorem E_rational_Div (p0_0 : R4) (p1_0 : R4) (V0 : VH) (R : Value → VH → Prop)
    (h : ∀ m0 : Nat, ∀ m1 : Nat, ∀ m2 : Nat, CSpec Tryz.prog n_rational_Rat_Sign #[(.agg #[(.bool p1_0.x.n), (.slice p1_0.x.A p1_0.x.l.length p1_0.x.c), (.bool p1_0.y.n), (.slice p1_0.y.A p1_0.y.l.length p1_0.y.c)])] V0 fun v0 V1 =>
    ∃ n3 : Int, v0 = (.int .i64 n3) ∧
    (((n3 == (0 : Int)) = true → R (.tuple #[(.agg #[(.bool false), (.slice none 0 0), (.bool false), (.slice none 0 0)]), (.int .i64 (19 : Int))]) V1) ∧
    ((n3 == (0 : Int)) = false → CSpec Tryz.prog n_rational_Rat_Den #[(.agg #[(.bool p1_0.x.n), (.slice p1_0.x.A p1_0.x.l.length p1_0.x.c), (.bool p1_0.y.n), (.slice p1_0.y.A p1_0.y.l.length p1_0.y.c)])] V1 fun v1 V2 =>
     ∃ i4 : R2, v1 = (.agg #[(.bool i4.n), (.slice i4.A i4.l.length i4.c)]) ∧
     CSpec Tryz.prog n_integer_Mul #[(.agg #[(.bool p0_0.x.n), (.slice p0_0.x.A p0_0.x.l.length p0_0.x.c)]), (.agg #[(.bool i4.n), (.slice i4.A i4.l.length i4.c)])] V2 fun v2 V3 =>
     ∃ i5 : R2, v2 = (.agg #[(.bool i5.n), (.slice i5.A i5.l.length i5.c)]) ∧
     CSpec Tryz.prog n_rational_Rat_Den #[(.agg #[(.bool p0_0.x.n), (.slice p0_0.x.A p0_0.x.l.length p0_0.x.c), (.bool p0_0.y.n), (.slice p0_0.y.A p0_0.y.l.length p0_0.y.c)])] V3 fun v3 V4 =>
     ∃ i6 : R2, v3 = (.agg #[(.bool i6.n), (.slice i6.A i6.l.length i6.c)]) ∧
     CSpec Tryz.prog n_integer_Mul #[(.agg #[(.bool i6.n), (.slice i6.A i6.l.length i6.c)]), (.agg #[(.bool p1_0.x.n), (.slice p1_0.x.A p1_0.x.l.length p1_0.x.c)])] V4 fun v4 V5 =>
     ∃ i7 : R2, v4 = (.agg #[(.bool i7.n), (.slice i7.A i7.l.length i7.c)]) ∧
     CSpec Tryz.prog n_rational_reduced #[(.agg #[(.bool i5.n), (.slice i5.A i5.l.length i5.c)]), (.agg #[(.bool i7.n), (.slice i7.A i7.l.length i7.c)])] V5 fun v5 V6 =>
     ∃ r8 : R4, v5 = (.agg #[(.bool r8.x.n), (.slice r8.x.A r8.x.l.length r8.x.c), (.bool r8.y.n), (.slice r8.y.A r8.y.l.length r8.y.c)]) ∧
     R (.tuple #[(.agg #[(.bool r8.x.n), (.slice r8.x.A r8.x.l.length r8.x.c), (.bool r8.y.n), (.slice r8.y.A r8.y.l.length r8.y.c)]), (.int .i64 (0 : Int))]) V6))) :
    CSpec Tryz.prog n_rational_Div #[(.agg #[(.bool p0_0.x.n), (.slice p0_0.x.A p0_0.x.l.length p0_0.x.c), (.bool p0_0.y.n), (.slice p0_0.y.A p0_0.y.l.length p0_0.y.c)]), (.agg #[(.bool p1_0.x.n), (.slice p1_0.x.A p1_0.x.l.length p1_0.x.c), (.bool p1_0.y.n), (.slice p1_0.y.A p1_0.y.l.length p1_0.y.c)])] V0 R :=
  enter (l := calTryz) (bor := borTryz) (own := ownTryz) (giv := givTryz) (grw := false) calOkTryz mixTryz Tryz.func88 (args := [.agg [.bool (.var p0_0.x.a), .val p0_0.x.b, .bool (.var p0_0.y.a), .val p0_0.y.b], .agg [.bool (.var p1_0.x.a), .val p1_0.x.b, .bool (.var p1_0.y.a), .val p1_0.y.b]]) (fuel := 3000) (hh := []) (by kernel_rfl) (Eq.mpr (by kernel_rfl) h)
-- dowel/rational.Compare
theorem E_rational_Compare (p0_0 : R4) (p1_0 : R4) (V0 : VH) (R : Value → VH → Prop)
    (h : ∀ m0 : Nat, ∀ m1 : Nat, CSpec Tryz.prog n_rational_Rat_whole #[(.agg #[(.bool p0_0.x.n), (.slice p0_0.x.A p0_0.x.l.length p0_0.x.c), (.bool p0_0.y.n), (.slice p0_0.y.A p0_0.y.l.length p0_0.y.c)])] V0 fun v0 V1 =>
    ∃ b2 : Bool, v0 = (.bool b2) ∧
    ((b2 = true → CSpec Tryz.prog n_rational_Rat_whole #[(.agg #[(.bool p1_0.x.n), (.slice p1_0.x.A p1_0.x.l.length p1_0.x.c), (.bool p1_0.y.n), (.slice p1_0.y.A p1_0.y.l.length p1_0.y.c)])] V1 fun v1 V2 =>
     ∃ b3 : Bool, v1 = (.bool b3) ∧
     ((b3 = true → CSpec Tryz.prog n_integer_Compare #[(.agg #[(.bool p0_0.x.n), (.slice p0_0.x.A p0_0.x.l.length p0_0.x.c)]), (.agg #[(.bool p1_0.x.n), (.slice p1_0.x.A p1_0.x.l.length p1_0.x.c)])] V2 fun v2 V3 =>
      ∃ n4 : Int, v2 = (.int .i64 n4) ∧
      R (.int .i64 n4) V3) ∧
     (b3 = false → CSpec Tryz.prog n_rational_Rat_Den #[(.agg #[(.bool p1_0.x.n), (.slice p1_0.x.A p1_0.x.l.length p1_0.x.c), (.bool p1_0.y.n), (.slice p1_0.y.A p1_0.y.l.length p1_0.y.c)])] V2 fun v3 V4 =>
      ∃ i5 : R2, v3 = (.agg #[(.bool i5.n), (.slice i5.A i5.l.length i5.c)]) ∧
      CSpec Tryz.prog n_integer_Mul #[(.agg #[(.bool p0_0.x.n), (.slice p0_0.x.A p0_0.x.l.length p0_0.x.c)]), (.agg #[(.bool i5.n), (.slice i5.A i5.l.length i5.c)])] V4 fun v4 V5 =>
      ∃ i6 : R2, v4 = (.agg #[(.bool i6.n), (.slice i6.A i6.l.length i6.c)]) ∧
      CSpec Tryz.prog n_rational_Rat_Den #[(.agg #[(.bool p0_0.x.n), (.slice p0_0.x.A p0_0.x.l.length p0_0.x.c), (.bool p0_0.y.n), (.slice p0_0.y.A p0_0.y.l.length p0_0.y.c)])] V5 fun v5 V6 =>
      ∃ i7 : R2, v5 = (.agg #[(.bool i7.n), (.slice i7.A i7.l.length i7.c)]) ∧
      CSpec Tryz.prog n_integer_Mul #[(.agg #[(.bool p1_0.x.n), (.slice p1_0.x.A p1_0.x.l.length p1_0.x.c)]), (.agg #[(.bool i7.n), (.slice i7.A i7.l.length i7.c)])] V6 fun v6 V7 =>
      ∃ i8 : R2, v6 = (.agg #[(.bool i8.n), (.slice i8.A i8.l.length i8.c)]) ∧
      CSpec Tryz.prog n_integer_Compare #[(.agg #[(.bool i6.n), (.slice i6.A i6.l.length i6.c)]), (.agg #[(.bool i8.n), (.slice i8.A i8.l.length i8.c)])] V7 fun v7 V8 =>
      ∃ n9 : Int, v7 = (.int .i64 n9) ∧
      R (.int .i64 n9) V8))) ∧
    (b2 = false → CSpec Tryz.prog n_rational_Rat_Den #[(.agg #[(.bool p1_0.x.n), (.slice p1_0.x.A p1_0.x.l.length p1_0.x.c), (.bool p1_0.y.n), (.slice p1_0.y.A p1_0.y.l.length p1_0.y.c)])] V1 fun v8 V9 =>
     ∃ i10 : R2, v8 = (.agg #[(.bool i10.n), (.slice i10.A i10.l.length i10.c)]) ∧
     CSpec Tryz.prog n_integer_Mul #[(.agg #[(.bool p0_0.x.n), (.slice p0_0.x.A p0_0.x.l.length p0_0.x.c)]), (.agg #[(.bool i10.n), (.slice i10.A i10.l.length i10.c)])] V9 fun v9 V10 =>
     ∃ i11 : R2, v9 = (.agg #[(.bool i11.n), (.slice i11.A i11.l.length i11.c)]) ∧
     CSpec Tryz.prog n_rational_Rat_Den #[(.agg #[(.bool p0_0.x.n), (.slice p0_0.x.A p0_0.x.l.length p0_0.x.c), (.bool p0_0.y.n), (.slice p0_0.y.A p0_0.y.l.length p0_0.y.c)])] V10 fun v10 V11 =>
     ∃ i12 : R2, v10 = (.agg #[(.bool i12.n), (.slice i12.A i12.l.length i12.c)]) ∧
     CSpec Tryz.prog n_integer_Mul #[(.agg #[(.bool p1_0.x.n), (.slice p1_0.x.A p1_0.x.l.length p1_0.x.c)]), (.agg #[(.bool i12.n), (.slice i12.A i12.l.length i12.c)])] V11 fun v11 V12 =>
     ∃ i13 : R2, v11 = (.agg #[(.bool i13.n), (.slice i13.A i13.l.length i13.c)]) ∧
     CSpec Tryz.prog n_integer_Compare #[(.agg #[(.bool i11.n), (.slice i11.A i11.l.length i11.c)]), (.agg #[(.bool i13.n), (.slice i13.A i13.l.length i13.c)])] V12 fun v12 V13 =>
     ∃ n14 : Int, v12 = (.int .i64 n14) ∧
     R (.int .i64 n14) V13))) :
    CSpec Tryz.prog n_rational_Compare #[(.agg #[(.bool p0_0.x.n), (.slice p0_0.x.A p0_0.x.l.length p0_0.x.c), (.bool p0_0.y.n), (.slice p0_0.y.A p0_0.y.l.length p0_0.y.c)]), (.agg #[(.bool p1_0.x.n), (.slice p1_0.x.A p1_0.x.l.length p1_0.x.c), (.bool p1_0.y.n), (.slice p1_0.y.A p1_0.y.l.length p1_0.y.c)])] V0 R :=
  enter (l := calTryz) (bor := borTryz) (own := ownTryz) (giv := givTryz) (grw := false) calOkTryz mixTryz Tryz.func63 (args := [.agg [.bool (.var p0_0.x.a), .val p0_0.x.b, .bool (.var p0_0.y.a), .val p0_0.y.b], .agg [.bool (.var p1_0.x.a), .val p1_0.x.b, .bool (.var p1_0.y.a), .val p1_0.y.b]]) (fuel := 3000) (hh := []) (by kernel_rfl) (Eq.mpr (by kernel_rfl) h)
-- dowel/rational.Neg
theorem E_rational_Neg (p0_0 : R4) (V0 : VH) (R : Value → VH → Prop)
    (h : ∀ m0 : Nat, ∀ m1 : Nat, CSpec Tryz.prog n_integer_Neg #[(.agg #[(.bool p0_0.x.n), (.slice p0_0.x.A p0_0.x.l.length p0_0.x.c)])] V0 fun v0 V1 =>
    ∃ i2 : R2, v0 = (.agg #[(.bool i2.n), (.slice i2.A i2.l.length i2.c)]) ∧
    R (.agg #[(.bool i2.n), (.slice i2.A i2.l.length i2.c), (.bool p0_0.y.n), (.slice p0_0.y.A p0_0.y.l.length p0_0.y.c)]) V1) :
    CSpec Tryz.prog n_rational_Neg #[(.agg #[(.bool p0_0.x.n), (.slice p0_0.x.A p0_0.x.l.length p0_0.x.c), (.bool p0_0.y.n), (.slice p0_0.y.A p0_0.y.l.length p0_0.y.c)])] V0 R :=
  enter (l := calTryz) (bor := borTryz) (own := ownTryz) (giv := givTryz) (grw := false) calOkTryz mixTryz Tryz.func150 (args := [.agg [.bool (.var p0_0.x.a), .val p0_0.x.b, .bool (.var p0_0.y.a), .val p0_0.y.b]]) (fuel := 3000) (hh := []) (by kernel_rfl) (Eq.mpr (by kernel_rfl) h)
-- dowel/rational.Add
theorem E_rational_Add (p0_0 : R4) (p1_0 : R4) (V0 : VH) (R : Value → VH → Prop)
    (h : ∀ m0 : Nat, ∀ m1 : Nat, ∀ m2 : Nat, CSpec Tryz.prog n_rational_Rat_whole #[(.agg #[(.bool p0_0.x.n), (.slice p0_0.x.A p0_0.x.l.length p0_0.x.c), (.bool p0_0.y.n), (.slice p0_0.y.A p0_0.y.l.length p0_0.y.c)])] V0 fun v0 V1 =>
    ∃ b3 : Bool, v0 = (.bool b3) ∧
    ((b3 = true → CSpec Tryz.prog n_rational_Rat_whole #[(.agg #[(.bool p1_0.x.n), (.slice p1_0.x.A p1_0.x.l.length p1_0.x.c), (.bool p1_0.y.n), (.slice p1_0.y.A p1_0.y.l.length p1_0.y.c)])] V1 fun v1 V2 =>
     ∃ b4 : Bool, v1 = (.bool b4) ∧
     ((b4 = true → CSpec Tryz.prog n_integer_Add #[(.agg #[(.bool p0_0.x.n), (.slice p0_0.x.A p0_0.x.l.length p0_0.x.c)]), (.agg #[(.bool p1_0.x.n), (.slice p1_0.x.A p1_0.x.l.length p1_0.x.c)])] V2 fun v2 V3 =>
      ∃ i5 : R2, v2 = (.agg #[(.bool i5.n), (.slice i5.A i5.l.length i5.c)]) ∧
      R (.agg #[(.bool i5.n), (.slice i5.A i5.l.length i5.c), (.bool false), (.slice none 0 0)]) V3) ∧
     (b4 = false → CSpec Tryz.prog n_rational_Rat_Den #[(.agg #[(.bool p1_0.x.n), (.slice p1_0.x.A p1_0.x.l.length p1_0.x.c), (.bool p1_0.y.n), (.slice p1_0.y.A p1_0.y.l.length p1_0.y.c)])] V2 fun v3 V4 =>
      ∃ i6 : R2, v3 = (.agg #[(.bool i6.n), (.slice i6.A i6.l.length i6.c)]) ∧
      CSpec Tryz.prog n_integer_Mul #[(.agg #[(.bool p0_0.x.n), (.slice p0_0.x.A p0_0.x.l.length p0_0.x.c)]), (.agg #[(.bool i6.n), (.slice i6.A i6.l.length i6.c)])] V4 fun v4 V5 =>
      ∃ i7 : R2, v4 = (.agg #[(.bool i7.n), (.slice i7.A i7.l.length i7.c)]) ∧
      CSpec Tryz.prog n_rational_Rat_Den #[(.agg #[(.bool p0_0.x.n), (.slice p0_0.x.A p0_0.x.l.length p0_0.x.c), (.bool p0_0.y.n), (.slice p0_0.y.A p0_0.y.l.length p0_0.y.c)])] V5 fun v5 V6 =>
      ∃ i8 : R2, v5 = (.agg #[(.bool i8.n), (.slice i8.A i8.l.length i8.c)]) ∧
      CSpec Tryz.prog n_integer_Mul #[(.agg #[(.bool p1_0.x.n), (.slice p1_0.x.A p1_0.x.l.length p1_0.x.c)]), (.agg #[(.bool i8.n), (.slice i8.A i8.l.length i8.c)])] V6 fun v6 V7 =>
      ∃ i9 : R2, v6 = (.agg #[(.bool i9.n), (.slice i9.A i9.l.length i9.c)]) ∧
      CSpec Tryz.prog n_integer_Add #[(.agg #[(.bool i7.n), (.slice i7.A i7.l.length i7.c)]), (.agg #[(.bool i9.n), (.slice i9.A i9.l.length i9.c)])] V7 fun v7 V8 =>
      ∃ i10 : R2, v7 = (.agg #[(.bool i10.n), (.slice i10.A i10.l.length i10.c)]) ∧
      CSpec Tryz.prog n_rational_Rat_Den #[(.agg #[(.bool p0_0.x.n), (.slice p0_0.x.A p0_0.x.l.length p0_0.x.c), (.bool p0_0.y.n), (.slice p0_0.y.A p0_0.y.l.length p0_0.y.c)])] V8 fun v8 V9 =>
      ∃ i11 : R2, v8 = (.agg #[(.bool i11.n), (.slice i11.A i11.l.length i11.c)]) ∧
      CSpec Tryz.prog n_rational_Rat_Den #[(.agg #[(.bool p1_0.x.n), (.slice p1_0.x.A p1_0.x.l.length p1_0.x.c), (.bool p1_0.y.n), (.slice p1_0.y.A p1_0.y.l.length p1_0.y.c)])] V9 fun v9 V10 =>
      ∃ i12 : R2, v9 = (.agg #[(.bool i12.n), (.slice i12.A i12.l.length i12.c)]) ∧
      CSpec Tryz.prog n_integer_Mul #[(.agg #[(.bool i11.n), (.slice i11.A i11.l.length i11.c)]), (.agg #[(.bool i12.n), (.slice i12.A i12.l.length i12.c)])] V10 fun v10 V11 =>
      ∃ i13 : R2, v10 = (.agg #[(.bool i13.n), (.slice i13.A i13.l.length i13.c)]) ∧
      CSpec Tryz.prog n_rational_reduced #[(.agg #[(.bool i10.n), (.slice i10.A i10.l.length i10.c)]), (.agg #[(.bool i13.n), (.slice i13.A i13.l.length i13.c)])] V11 fun v11 V12 =>
      ∃ r14 : R4, v11 = (.agg #[(.bool r14.x.n), (.slice r14.x.A r14.x.l.length r14.x.c), (.bool r14.y.n), (.slice r14.y.A r14.y.l.length r14.y.c)]) ∧
      R (.agg #[(.bool r14.x.n), (.slice r14.x.A r14.x.l.length r14.x.c), (.bool r14.y.n), (.slice r14.y.A r14.y.l.length r14.y.c)]) V12))) ∧
    (b3 = false → CSpec Tryz.prog n_rational_Rat_Den #[(.agg #[(.bool p1_0.x.n), (.slice p1_0.x.A p1_0.x.l.length p1_0.x.c), (.bool p1_0.y.n), (.slice p1_0.y.A p1_0.y.l.length p1_0.y.c)])] V1 fun v12 V13 =>
     ∃ i15 : R2, v12 = (.agg #[(.bool i15.n), (.slice i15.A i15.l.length i15.c)]) ∧
     CSpec Tryz.prog n_integer_Mul #[(.agg #[(.bool p0_0.x.n), (.slice p0_0.x.A p0_0.x.l.length p0_0.x.c)]), (.agg #[(.bool i15.n), (.slice i15.A i15.l.length i15.c)])] V13 fun v13 V14 =>
     ∃ i16 : R2, v13 = (.agg #[(.bool i16.n), (.slice i16.A i16.l.length i16.c)]) ∧
     CSpec Tryz.prog n_rational_Rat_Den #[(.agg #[(.bool p0_0.x.n), (.slice p0_0.x.A p0_0.x.l.length p0_0.x.c), (.bool p0_0.y.n), (.slice p0_0.y.A p0_0.y.l.length p0_0.y.c)])] V14 fun v14 V15 =>
     ∃ i17 : R2, v14 = (.agg #[(.bool i17.n), (.slice i17.A i17.l.length i17.c)]) ∧
     CSpec Tryz.prog n_integer_Mul #[(.agg #[(.bool p1_0.x.n), (.slice p1_0.x.A p1_0.x.l.length p1_0.x.c)]), (.agg #[(.bool i17.n), (.slice i17.A i17.l.length i17.c)])] V15 fun v15 V16 =>
     ∃ i18 : R2, v15 = (.agg #[(.bool i18.n), (.slice i18.A i18.l.length i18.c)]) ∧
     CSpec Tryz.prog n_integer_Add #[(.agg #[(.bool i16.n), (.slice i16.A i16.l.length i16.c)]), (.agg #[(.bool i18.n), (.slice i18.A i18.l.length i18.c)])] V16 fun v16 V17 =>
     ∃ i19 : R2, v16 = (.agg #[(.bool i19.n), (.slice i19.A i19.l.length i19.c)]) ∧
     CSpec Tryz.prog n_rational_Rat_Den #[(.agg #[(.bool p0_0.x.n), (.slice p0_0.x.A p0_0.x.l.length p0_0.x.c), (.bool p0_0.y.n), (.slice p0_0.y.A p0_0.y.l.length p0_0.y.c)])] V17 fun v17 V18 =>
     ∃ i20 : R2, v17 = (.agg #[(.bool i20.n), (.slice i20.A i20.l.length i20.c)]) ∧
     CSpec Tryz.prog n_rational_Rat_Den #[(.agg #[(.bool p1_0.x.n), (.slice p1_0.x.A p1_0.x.l.length p1_0.x.c), (.bool p1_0.y.n), (.slice p1_0.y.A p1_0.y.l.length p1_0.y.c)])] V18 fun v18 V19 =>
     ∃ i21 : R2, v18 = (.agg #[(.bool i21.n), (.slice i21.A i21.l.length i21.c)]) ∧
     CSpec Tryz.prog n_integer_Mul #[(.agg #[(.bool i20.n), (.slice i20.A i20.l.length i20.c)]), (.agg #[(.bool i21.n), (.slice i21.A i21.l.length i21.c)])] V19 fun v19 V20 =>
     ∃ i22 : R2, v19 = (.agg #[(.bool i22.n), (.slice i22.A i22.l.length i22.c)]) ∧
     CSpec Tryz.prog n_rational_reduced #[(.agg #[(.bool i19.n), (.slice i19.A i19.l.length i19.c)]), (.agg #[(.bool i22.n), (.slice i22.A i22.l.length i22.c)])] V20 fun v20 V21 =>
     ∃ r23 : R4, v20 = (.agg #[(.bool r23.x.n), (.slice r23.x.A r23.x.l.length r23.x.c), (.bool r23.y.n), (.slice r23.y.A r23.y.l.length r23.y.c)]) ∧
     R (.agg #[(.bool r23.x.n), (.slice r23.x.A r23.x.l.length r23.x.c), (.bool r23.y.n), (.slice r23.y.A r23.y.l.length r23.y.c)]) V21))) :
    CSpec Tryz.prog n_rational_Add #[(.agg #[(.bool p0_0.x.n), (.slice p0_0.x.A p0_0.x.l.length p0_0.x.c), (.bool p0_0.y.n), (.slice p0_0.y.A p0_0.y.l.length p0_0.y.c)]), (.agg #[(.bool p1_0.x.n), (.slice p1_0.x.A p1_0.x.l.length p1_0.x.c), (.bool p1_0.y.n), (.slice p1_0.y.A p1_0.y.l.length p1_0.y.c)])] V0 R :=
  enter (l := calTryz) (bor := borTryz) (own := ownTryz) (giv := givTryz) (grw := false) calOkTryz mixTryz Tryz.func91 (args := [.agg [.bool (.var p0_0.x.a), .val p0_0.x.b, .bool (.var p0_0.y.a), .val p0_0.y.b], .agg [.bool (.var p1_0.x.a), .val p1_0.x.b, .bool (.var p1_0.y.a), .val p1_0.y.b]]) (fuel := 3000) (hh := []) (by kernel_rfl) (Eq.mpr (by kernel_rfl) h)
-- dowel/rational.Sub
theorem E_rational_Sub (p0_0 : R4) (p1_0 : R4) (V0 : VH) (R : Value → VH → Prop)
    (h : ∀ m0 : Nat, ∀ m1 : Nat, ∀ m2 : Nat, CSpec Tryz.prog n_rational_Neg #[(.agg #[(.bool p1_0.x.n), (.slice p1_0.x.A p1_0.x.l.length p1_0.x.c), (.bool p1_0.y.n), (.slice p1_0.y.A p1_0.y.l.length p1_0.y.c)])] V0 fun v0 V1 =>
    ∃ r3 : R4, v0 = (.agg #[(.bool r3.x.n), (.slice r3.x.A r3.x.l.length r3.x.c), (.bool r3.y.n), (.slice r3.y.A r3.y.l.length r3.y.c)]) ∧
    CSpec Tryz.prog n_rational_Add #[(.agg #[(.bool p0_0.x.n), (.slice p0_0.x.A p0_0.x.l.length p0_0.x.c), (.bool p0_0.y.n), (.slice p0_0.y.A p0_0.y.l.length p0_0.y.c)]), (.agg #[(.bool r3.x.n), (.slice r3.x.A r3.x.l.length r3.x.c), (.bool r3.y.n), (.slice r3.y.A r3.y.l.length r3.y.c)])] V1 fun v1 V2 =>
    ∃ r4 : R4, v1 = (.agg #[(.bool r4.x.n), (.slice r4.x.A r4.x.l.length r4.x.c), (.bool r4.y.n), (.slice r4.y.A r4.y.l.length r4.y.c)]) ∧
    R (.agg #[(.bool r4.x.n), (.slice r4.x.A r4.x.l.length r4.x.c), (.bool r4.y.n), (.slice r4.y.A r4.y.l.length r4.y.c)]) V2) :
    CSpec Tryz.prog n_rational_Sub #[(.agg #[(.bool p0_0.x.n), (.slice p0_0.x.A p0_0.x.l.length p0_0.x.c), (.bool p0_0.y.n), (.slice p0_0.y.A p0_0.y.l.length p0_0.y.c)]), (.agg #[(.bool p1_0.x.n), (.slice p1_0.x.A p1_0.x.l.length p1_0.x.c), (.bool p1_0.y.n), (.slice p1_0.y.A p1_0.y.l.length p1_0.y.c)])] V0 R :=
  enter (l := calTryz) (bor := borTryz) (own := ownTryz) (giv := givTryz) (grw := false) calOkTryz mixTryz Tryz.func110 (args := [.agg [.bool (.var p0_0.x.a), .val p0_0.x.b, .bool (.var p0_0.y.a), .val p0_0.y.b], .agg [.bool (.var p1_0.x.a), .val p1_0.x.b, .bool (.var p1_0.y.a), .val p1_0.y.b]]) (fuel := 3000) (hh := []) (by kernel_rfl) (Eq.mpr (by kernel_rfl) h)
-- dowel/rational.Mul
theorem E_rational_Mul (p0_0 : R4) (p1_0 : R4) (V0 : VH) (R : Value → VH → Prop)
    (h : ∀ m0 : Nat, ∀ m1 : Nat, ∀ m2 : Nat, CSpec Tryz.prog n_rational_Rat_whole #[(.agg #[(.bool p0_0.x.n), (.slice p0_0.x.A p0_0.x.l.length p0_0.x.c), (.bool p0_0.y.n), (.slice p0_0.y.A p0_0.y.l.length p0_0.y.c)])] V0 fun v0 V1 =>
    ∃ b3 : Bool, v0 = (.bool b3) ∧
    ((b3 = true → CSpec Tryz.prog n_rational_Rat_whole #[(.agg #[(.bool p1_0.x.n), (.slice p1_0.x.A p1_0.x.l.length p1_0.x.c), (.bool p1_0.y.n), (.slice p1_0.y.A p1_0.y.l.length p1_0.y.c)])] V1 fun v1 V2 =>
     ∃ b4 : Bool, v1 = (.bool b4) ∧
     ((b4 = true → CSpec Tryz.prog n_integer_Mul #[(.agg #[(.bool p0_0.x.n), (.slice p0_0.x.A p0_0.x.l.length p0_0.x.c)]), (.agg #[(.bool p1_0.x.n), (.slice p1_0.x.A p1_0.x.l.length p1_0.x.c)])] V2 fun v2 V3 =>
      ∃ i5 : R2, v2 = (.agg #[(.bool i5.n), (.slice i5.A i5.l.length i5.c)]) ∧
      R (.agg #[(.bool i5.n), (.slice i5.A i5.l.length i5.c), (.bool false), (.slice none 0 0)]) V3) ∧
     (b4 = false → CSpec Tryz.prog n_integer_Mul #[(.agg #[(.bool p0_0.x.n), (.slice p0_0.x.A p0_0.x.l.length p0_0.x.c)]), (.agg #[(.bool p1_0.x.n), (.slice p1_0.x.A p1_0.x.l.length p1_0.x.c)])] V2 fun v3 V4 =>
      ∃ i6 : R2, v3 = (.agg #[(.bool i6.n), (.slice i6.A i6.l.length i6.c)]) ∧
      CSpec Tryz.prog n_rational_Rat_Den #[(.agg #[(.bool p0_0.x.n), (.slice p0_0.x.A p0_0.x.l.length p0_0.x.c), (.bool p0_0.y.n), (.slice p0_0.y.A p0_0.y.l.length p0_0.y.c)])] V4 fun v4 V5 =>
      ∃ i7 : R2, v4 = (.agg #[(.bool i7.n), (.slice i7.A i7.l.length i7.c)]) ∧
      CSpec Tryz.prog n_rational_Rat_Den #[(.agg #[(.bool p1_0.x.n), (.slice p1_0.x.A p1_0.x.l.length p1_0.x.c), (.bool p1_0.y.n), (.slice p1_0.y.A p1_0.y.l.length p1_0.y.c)])] V5 fun v5 V6 =>
      ∃ i8 : R2, v5 = (.agg #[(.bool i8.n), (.slice i8.A i8.l.length i8.c)]) ∧
      CSpec Tryz.prog n_integer_Mul #[(.agg #[(.bool i7.n), (.slice i7.A i7.l.length i7.c)]), (.agg #[(.bool i8.n), (.slice i8.A i8.l.length i8.c)])] V6 fun v6 V7 =>
      ∃ i9 : R2, v6 = (.agg #[(.bool i9.n), (.slice i9.A i9.l.length i9.c)]) ∧
      CSpec Tryz.prog n_rational_reduced #[(.agg #[(.bool i6.n), (.slice i6.A i6.l.length i6.c)]), (.agg #[(.bool i9.n), (.slice i9.A i9.l.length i9.c)])] V7 fun v7 V8 =>
      ∃ r10 : R4, v7 = (.agg #[(.bool r10.x.n), (.slice r10.x.A r10.x.l.length r10.x.c), (.bool r10.y.n), (.slice r10.y.A r10.y.l.length r10.y.c)]) ∧
      R (.agg #[(.bool r10.x.n), (.slice r10.x.A r10.x.l.length r10.x.c), (.bool r10.y.n), (.slice r10.y.A r10.y.l.length r10.y.c)]) V8))) ∧
    (b3 = false → CSpec Tryz.prog n_integer_Mul #[(.agg #[(.bool p0_0.x.n), (.slice p0_0.x.A p0_0.x.l.length p0_0.x.c)]), (.agg #[(.bool p1_0.x.n), (.slice p1_0.x.A p1_0.x.l.length p1_0.x.c)])] V1 fun v8 V9 =>
     ∃ i11 : R2, v8 = (.agg #[(.bool i11.n), (.slice i11.A i11.l.length i11.c)]) ∧
     CSpec Tryz.prog n_rational_Rat_Den #[(.agg #[(.bool p0_0.x.n), (.slice p0_0.x.A p0_0.x.l.length p0_0.x.c), (.bool p0_0.y.n), (.slice p0_0.y.A p0_0.y.l.length p0_0.y.c)])] V9 fun v9 V10 =>
     ∃ i12 : R2, v9 = (.agg #[(.bool i12.n), (.slice i12.A i12.l.length i12.c)]) ∧
     CSpec Tryz.prog n_rational_Rat_Den #[(.agg #[(.bool p1_0.x.n), (.slice p1_0.x.A p1_0.x.l.length p1_0.x.c), (.bool p1_0.y.n), (.slice p1_0.y.A p1_0.y.l.length p1_0.y.c)])] V10 fun v10 V11 =>
     ∃ i13 : R2, v10 = (.agg #[(.bool i13.n), (.slice i13.A i13.l.length i13.c)]) ∧
     CSpec Tryz.prog n_integer_Mul #[(.agg #[(.bool i12.n), (.slice i12.A i12.l.length i12.c)]), (.agg #[(.bool i13.n), (.slice i13.A i13.l.length i13.c)])] V11 fun v11 V12 =>
     ∃ i14 : R2, v11 = (.agg #[(.bool i14.n), (.slice i14.A i14.l.length i14.c)]) ∧
     CSpec Tryz.prog n_rational_reduced #[(.agg #[(.bool i11.n), (.slice i11.A i11.l.length i11.c)]), (.agg #[(.bool i14.n), (.slice i14.A i14.l.length i14.c)])] V12 fun v12 V13 =>
     ∃ r15 : R4, v12 = (.agg #[(.bool r15.x.n), (.slice r15.x.A r15.x.l.length r15.x.c), (.bool r15.y.n), (.slice r15.y.A r15.y.l.length r15.y.c)]) ∧
     R (.agg #[(.bool r15.x.n), (.slice r15.x.A r15.x.l.length r15.x.c), (.bool r15.y.n), (.slice r15.y.A r15.y.l.length r15.y.c)]) V13))) :
    CSpec Tryz.prog n_rational_Mul #[(.agg #[(.bool p0_0.x.n), (.slice p0_0.x.A p0_0.x.l.length p0_0.x.c), (.bool p0_0.y.n), (.slice p0_0.y.A p0_0.y.l.length p0_0.y.c)]), (.agg #[(.bool p1_0.x.n), (.slice p1_0.x.A p1_0.x.l.length p1_0.x.c), (.bool p1_0.y.n), (.slice p1_0.y.A p1_0.y.l.length p1_0.y.c)])] V0 R :=
  enter (l := calTryz) (bor := borTryz) (own := ownTryz) (giv := givTryz) (grw := false) calOkTryz mixTryz Tryz.func117 (args := [.agg [.bool (.var p0_0.x.a), .val p0_0.x.b, .bool (.var p0_0.y.a), .val p0_0.y.b], .agg [.bool (.var p1_0.x.a), .val p1_0.x.b, .bool (.var p1_0.y.a), .val p1_0.y.b]]) (fuel := 3000) (hh := []) (by kernel_rfl) (Eq.mpr (by kernel_rfl) h)
-- (dowel/rational.Rat).Sign
theorem E_rational_Rat_Sign (p0_0 : R4) (V0 : VH) (R : Value → VH → Prop)
    (h : ∀ m0 : Nat, CSpec Tryz.prog n_integer_Int_Sign #[(.agg #[(.bool p0_0.x.n), (.slice p0_0.x.A p0_0.x.l.length p0_0.x.c)])] V0 fun v0 V1 =>
    ∃ n1 : Int, v0 = (.int .i64 n1) ∧
    R (.int .i64 n1) V1) :
    CSpec Tryz.prog n_rational_Rat_Sign #[(.agg #[(.bool p0_0.x.n), (.slice p0_0.x.A p0_0.x.l.length p0_0.x.c), (.bool p0_0.y.n), (.slice p0_0.y.A p0_0.y.l.length p0_0.y.c)])] V0 R :=
  enter (l := calTryz) (bor := borTryz) (own := ownTryz) (giv := givTryz) (grw := false) calOkTryz mixTryz Tryz.func111 (args := [.agg [.bool (.var p0_0.x.a), .val p0_0.x.b, .bool (.var p0_0.y.a), .val p0_0.y.b]]) (fuel := 3000) (hh := []) (by kernel_rfl) (Eq.mpr (by kernel_rfl) h)
end Go.Proofs.YtpcigcogcgpldaaGreatDoor
