/- A text of this claim's own: SD.EText. -/
import Derived.Test.YteimfmjojadkfaaDoorSDNames
set_option linter.unusedVariables false
set_option linter.unusedSimpArgs false
set_option linter.unusedVariables false
set_option maxRecDepth 100000
namespace Go.Proofs.YteimfmjojadkfaaDoor
open Go Go.Dx
-- (dowel/integer.Int).Text
theorem E_integer_Int_Text (p0_0 : R2) (V0 : VH) (R : Value → VH → Prop)
    (h : ∀ m0 : Nat, (isSlV (.slice p0_0.A p0_0.l.length p0_0.c)) = true ∧
    ((((p0_0.l.length : Int) == (0 : Int)) = true → R (.string (⟨#[48]⟩ : ByteArray)) V0) ∧
    (((p0_0.l.length : Int) == (0 : Int)) = false → (isSlV (.slice p0_0.A p0_0.l.length p0_0.c)) = true ∧
     (decide ((0 : Int) < (p0_0.l.length : Int))) = true ∧
     CSpec Tryd.prog n_integer_short #[(.slice p0_0.A p0_0.l.length p0_0.c), (.int .u32 (1000000000 : Int))] V0 fun v0 V1 =>
     ∃ (A1 : Option Addr) (c1 : Nat) (l1 : List Int), ∃ n2 : Int, v0 = (.tuple #[(.slice A1 l1.length c1), (.int .u32 n2)]) ∧
     CSpec Tryd.prog n_strconv_Itoa #[(.int .i64 (IntKind.wrap .i64 n2))] V1 fun v1 V2 =>
     ∃ s3 : ByteArray, v1 = (.string s3) ∧
     (isSlV (.slice A1 l1.length c1)) = true ∧
     (decide ((0 : Int) < (l1.length : Int))) = false ∧
     ∀ m4 : Nat, ∀ (m2a c2a : Nat) (tl2 : List Value), V2.f m2a = none →
     (isSlV (.slice A1 l1.length c1)) = true ∧
     (decide ((0 : Int) < (l1.length : Int))) = false ∧
     CSpec Tryd.prog n_slices_Reverse_string_string #[(.slice (some ⟨m2a, 0, none⟩) 1 c2a)] (V2.put m2a (.cells (List.toArray ([(.string s3)] ++ tl2)) 9)) fun v3 V4 =>
     v3 = (.tuple #[]) ∧
     CSpec Tryd.prog n_strings_Join #[(.slice (some ⟨m2a, 0, none⟩) 1 c2a), (.string (⟨#[]⟩ : ByteArray))] V4 fun v4 V5 =>
     ∃ s5 : ByteArray, v4 = (.string s5) ∧
     ((p0_0.n = true → (decide (((1 : Int) + ((s5).size : Int)) ≤ (9223372036854775807 : Int))) = true ∧
      R (.string ((⟨#[45]⟩ : ByteArray) ++ s5)) V5) ∧
     (p0_0.n = false → R (.string s5) V5))))) :
    CSpec Tryd.prog n_integer_Int_Text #[(.agg #[(.bool p0_0.n), (.slice p0_0.A p0_0.l.length p0_0.c)])] V0 R :=
  enter (l := calTryd) (bor := borTryd) (own := ownTryd) (giv := givTryd) calOkTryd mixTryd Tryd.func60 (args := [.agg [.bool (.var p0_0.a), .val p0_0.b]]) (fuel := 3000) (hh := [.both, .d true, .d false, .d false, .both]) (by kernel_rfl) (Eq.mpr (by kernel_rfl) h)
-- (dowel/rational.Rat).Number
theorem E_rational_Rat_Number (p0_0 : R4) (V0 : VH) (R : Value → VH → Prop)
    (h : ∀ m0 : Nat, CSpec Tryd.prog n_rational_Rat_whole #[(.agg #[(.bool p0_0.x.n), (.slice p0_0.x.A p0_0.x.l.length p0_0.x.c), (.bool p0_0.y.n), (.slice p0_0.y.A p0_0.y.l.length p0_0.y.c)])] V0 fun v0 V1 =>
    ∃ b1 : Bool, v0 = (.bool b1) ∧
    ((b1 = true → CSpec Tryd.prog n_integer_Int_Text #[(.agg #[(.bool p0_0.x.n), (.slice p0_0.x.A p0_0.x.l.length p0_0.x.c)])] V1 fun v1 V2 =>
     ∃ s2 : ByteArray, v1 = (.string s2) ∧
     R (.string s2) V2) ∧
    (b1 = false → CSpec Tryd.prog n_integer_Int_Text #[(.agg #[(.bool p0_0.x.n), (.slice p0_0.x.A p0_0.x.l.length p0_0.x.c)])] V1 fun v2 V3 =>
     ∃ s3 : ByteArray, v2 = (.string s3) ∧
     (decide ((((s3).size : Int) + (1 : Int)) ≤ (9223372036854775807 : Int))) = true ∧
     CSpec Tryd.prog n_integer_Int_Text #[(.agg #[(.bool p0_0.y.n), (.slice p0_0.y.A p0_0.y.l.length p0_0.y.c)])] V3 fun v3 V4 =>
     ∃ s4 : ByteArray, v3 = (.string s4) ∧
     (decide (((((s3 ++ (⟨#[47]⟩ : ByteArray))).size : Int) + ((s4).size : Int)) ≤ (9223372036854775807 : Int))) = true ∧
     R (.string ((s3 ++ (⟨#[47]⟩ : ByteArray)) ++ s4)) V4))) :
    CSpec Tryd.prog n_rational_Rat_Number #[(.agg #[(.bool p0_0.x.n), (.slice p0_0.x.A p0_0.x.l.length p0_0.x.c), (.bool p0_0.y.n), (.slice p0_0.y.A p0_0.y.l.length p0_0.y.c)])] V0 R :=
  enter (l := calTryd) (bor := borTryd) (own := ownTryd) (giv := givTryd) calOkTryd mixTryd Tryd.func38 (args := [.agg [.bool (.var p0_0.x.a), .val p0_0.x.b, .bool (.var p0_0.y.a), .val p0_0.y.b]]) (fuel := 3000) (hh := []) (by kernel_rfl) (Eq.mpr (by kernel_rfl) h)
-- dowel/rational.Numbers
theorem E_rational_Numbers0giv6 (m T : Nat) (g_0 : R4) (g_1 : R4) (g_2 : R4) (g_3 : R4) (g_4 : R4) (g_5 : R4) (c0 : Int) (V0 : VH) (hV : V0.f m = some (.cells #[(.bool g_0.x.n), (.slice g_0.x.A g_0.x.l.length g_0.x.c), (.bool g_0.y.n), (.slice g_0.y.A g_0.y.l.length g_0.y.c), (.bool g_1.x.n), (.slice g_1.x.A g_1.x.l.length g_1.x.c), (.bool g_1.y.n), (.slice g_1.y.A g_1.y.l.length g_1.y.c), (.bool g_2.x.n), (.slice g_2.x.A g_2.x.l.length g_2.x.c), (.bool g_2.y.n), (.slice g_2.y.A g_2.y.l.length g_2.y.c), (.bool g_3.x.n), (.slice g_3.x.A g_3.x.l.length g_3.x.c), (.bool g_3.y.n), (.slice g_3.y.A g_3.y.l.length g_3.y.c), (.bool g_4.x.n), (.slice g_4.x.A g_4.x.l.length g_4.x.c), (.bool g_4.y.n), (.slice g_4.y.A g_4.y.l.length g_4.y.c), (.bool g_5.x.n), (.slice g_5.x.A g_5.x.l.length g_5.x.c), (.bool g_5.y.n), (.slice g_5.y.A g_5.y.l.length g_5.y.c)] T)) (R : Value → VH → Prop)
    (h : ∀ m0 : Nat, ∀ m1 : Nat, CSpec Tryd.prog n_rational_Rat_Number #[(.agg #[(.bool g_0.x.n), (.slice g_0.x.A g_0.x.l.length g_0.x.c), (.bool g_0.y.n), (.slice g_0.y.A g_0.y.l.length g_0.y.c)])] V0 fun v0 V1 =>
    ∃ s2 : ByteArray, v0 = (.string s2) ∧
    ∀ m3 : Nat, CSpec Tryd.prog n_rational_Rat_Number #[(.agg #[(.bool g_1.x.n), (.slice g_1.x.A g_1.x.l.length g_1.x.c), (.bool g_1.y.n), (.slice g_1.y.A g_1.y.l.length g_1.y.c)])] V1 fun v1 V2 =>
    ∃ s4 : ByteArray, v1 = (.string s4) ∧
    ∀ m5 : Nat, CSpec Tryd.prog n_rational_Rat_Number #[(.agg #[(.bool g_2.x.n), (.slice g_2.x.A g_2.x.l.length g_2.x.c), (.bool g_2.y.n), (.slice g_2.y.A g_2.y.l.length g_2.y.c)])] V2 fun v2 V3 =>
    ∃ s6 : ByteArray, v2 = (.string s6) ∧
    ∀ m7 : Nat, CSpec Tryd.prog n_rational_Rat_Number #[(.agg #[(.bool g_3.x.n), (.slice g_3.x.A g_3.x.l.length g_3.x.c), (.bool g_3.y.n), (.slice g_3.y.A g_3.y.l.length g_3.y.c)])] V3 fun v3 V4 =>
    ∃ s8 : ByteArray, v3 = (.string s8) ∧
    ∀ m9 : Nat, CSpec Tryd.prog n_rational_Rat_Number #[(.agg #[(.bool g_4.x.n), (.slice g_4.x.A g_4.x.l.length g_4.x.c), (.bool g_4.y.n), (.slice g_4.y.A g_4.y.l.length g_4.y.c)])] V4 fun v4 V5 =>
    ∃ s10 : ByteArray, v4 = (.string s10) ∧
    ∀ m11 : Nat, CSpec Tryd.prog n_rational_Rat_Number #[(.agg #[(.bool g_5.x.n), (.slice g_5.x.A g_5.x.l.length g_5.x.c), (.bool g_5.y.n), (.slice g_5.y.A g_5.y.l.length g_5.y.c)])] V5 fun v5 V6 =>
    ∃ s12 : ByteArray, v5 = (.string s12) ∧
    (V6.f m0 = none →
    R (.slice (some ⟨m0, Int.toNat (0 : Int), none⟩) (Int.toNat (6 : Int)) (Int.toNat (6 : Int))) (V6.put m0 (.cells #[(.string s2), (.string s4), (.string s6), (.string s8), (.string s10), (.string s12)] 75)))) :
    CSpec Tryd.prog n_rational_Numbers #[(.slice (some ⟨m, Int.toNat (0 : Int), none⟩) (Int.toNat (6 : Int)) (Int.toNat c0))] V0 R :=
  enterG (l := calTryd) (bor := borTryd) (own := ownTryd) (giv := givTryd) calOkTryd mixTryd Tryd.func61 (m := m) (T := T) (cs := [.bool (.var g_0.x.a), .val g_0.x.b, .bool (.var g_0.y.a), .val g_0.y.b, .bool (.var g_1.x.a), .val g_1.x.b, .bool (.var g_1.y.a), .val g_1.y.b, .bool (.var g_2.x.a), .val g_2.x.b, .bool (.var g_2.y.a), .val g_2.y.b, .bool (.var g_3.x.a), .val g_3.x.b, .bool (.var g_3.y.a), .val g_3.y.b, .bool (.var g_4.x.a), .val g_4.x.b, .bool (.var g_4.y.a), .val g_4.y.b, .bool (.var g_5.x.a), .val g_5.x.b, .bool (.var g_5.y.a), .val g_5.y.b]) (args := [.one (.slice 0 (.lit 0) (.lit 6) (.var (OV.int .i64 c0)))]) (fuel := 3000) (hh := []) (by kernel_rfl) (Eq.mpr (by kernel_rfl) hV) (Eq.mpr (by kernel_rfl) h)
-- (dowel/twist.Twist).Numbers
theorem E_twist_Twist_Numbers (p0_0 : R4) (p0_1 : R4) (p0_2 : R4) (p0_3 : R4) (p0_4 : R4) (p0_5 : R4) (V0 : VH) (R : Value → VH → Prop)
    (h : ∀ m0 : Nat, ∀ m1 : Nat, CSpec Tryd.prog n_twist_joined #[(.agg #[(.bool p0_0.x.n), (.slice p0_0.x.A p0_0.x.l.length p0_0.x.c), (.bool p0_0.y.n), (.slice p0_0.y.A p0_0.y.l.length p0_0.y.c), (.bool p0_1.x.n), (.slice p0_1.x.A p0_1.x.l.length p0_1.x.c), (.bool p0_1.y.n), (.slice p0_1.y.A p0_1.y.l.length p0_1.y.c), (.bool p0_2.x.n), (.slice p0_2.x.A p0_2.x.l.length p0_2.x.c), (.bool p0_2.y.n), (.slice p0_2.y.A p0_2.y.l.length p0_2.y.c)]), (.agg #[(.bool p0_3.x.n), (.slice p0_3.x.A p0_3.x.l.length p0_3.x.c), (.bool p0_3.y.n), (.slice p0_3.y.A p0_3.y.l.length p0_3.y.c), (.bool p0_4.x.n), (.slice p0_4.x.A p0_4.x.l.length p0_4.x.c), (.bool p0_4.y.n), (.slice p0_4.y.A p0_4.y.l.length p0_4.y.c), (.bool p0_5.x.n), (.slice p0_5.x.A p0_5.x.l.length p0_5.x.c), (.bool p0_5.y.n), (.slice p0_5.y.A p0_5.y.l.length p0_5.y.c)])] V0 fun v0 V1 =>
    ∃ m2 : Nat, ∃ r3 : R4, ∃ r4 : R4, ∃ r5 : R4, ∃ r6 : R4, ∃ r7 : R4, ∃ r8 : R4, ∃ n9 : Int, v0 = (.slice (some ⟨m2, Int.toNat (0 : Int), none⟩) (Int.toNat (6 : Int)) (Int.toNat n9)) ∧
    V1.f m2 = some (.cells #[(.bool r3.x.n), (.slice r3.x.A r3.x.l.length r3.x.c), (.bool r3.y.n), (.slice r3.y.A r3.y.l.length r3.y.c), (.bool r4.x.n), (.slice r4.x.A r4.x.l.length r4.x.c), (.bool r4.y.n), (.slice r4.y.A r4.y.l.length r4.y.c), (.bool r5.x.n), (.slice r5.x.A r5.x.l.length r5.x.c), (.bool r5.y.n), (.slice r5.y.A r5.y.l.length r5.y.c), (.bool r6.x.n), (.slice r6.x.A r6.x.l.length r6.x.c), (.bool r6.y.n), (.slice r6.y.A r6.y.l.length r6.y.c), (.bool r7.x.n), (.slice r7.x.A r7.x.l.length r7.x.c), (.bool r7.y.n), (.slice r7.y.A r7.y.l.length r7.y.c), (.bool r8.x.n), (.slice r8.x.A r8.x.l.length r8.x.c), (.bool r8.y.n), (.slice r8.y.A r8.y.l.length r8.y.c)] 31) ∧
    CSpec Tryd.prog n_rational_Numbers #[(.slice (some ⟨m2, Int.toNat (0 : Int), none⟩) (Int.toNat (6 : Int)) (Int.toNat n9))] V1 fun v1 V2 =>
    ∃ m10 : Nat, ∃ s11 : ByteArray, ∃ s12 : ByteArray, ∃ s13 : ByteArray, ∃ s14 : ByteArray, ∃ s15 : ByteArray, ∃ s16 : ByteArray, ∃ n17 : Int, v1 = (.slice (some ⟨m10, Int.toNat (0 : Int), none⟩) (Int.toNat (6 : Int)) (Int.toNat n17)) ∧
    V2.f m10 = some (.cells #[(.string s11), (.string s12), (.string s13), (.string s14), (.string s15), (.string s16)] 75) ∧
    R (.agg #[(.string s11), (.string s12), (.string s13), (.string s14), (.string s15), (.string s16)]) V2) :
    CSpec Tryd.prog n_twist_Twist_Numbers #[(.agg #[(.bool p0_0.x.n), (.slice p0_0.x.A p0_0.x.l.length p0_0.x.c), (.bool p0_0.y.n), (.slice p0_0.y.A p0_0.y.l.length p0_0.y.c), (.bool p0_1.x.n), (.slice p0_1.x.A p0_1.x.l.length p0_1.x.c), (.bool p0_1.y.n), (.slice p0_1.y.A p0_1.y.l.length p0_1.y.c), (.bool p0_2.x.n), (.slice p0_2.x.A p0_2.x.l.length p0_2.x.c), (.bool p0_2.y.n), (.slice p0_2.y.A p0_2.y.l.length p0_2.y.c), (.bool p0_3.x.n), (.slice p0_3.x.A p0_3.x.l.length p0_3.x.c), (.bool p0_3.y.n), (.slice p0_3.y.A p0_3.y.l.length p0_3.y.c), (.bool p0_4.x.n), (.slice p0_4.x.A p0_4.x.l.length p0_4.x.c), (.bool p0_4.y.n), (.slice p0_4.y.A p0_4.y.l.length p0_4.y.c), (.bool p0_5.x.n), (.slice p0_5.x.A p0_5.x.l.length p0_5.x.c), (.bool p0_5.y.n), (.slice p0_5.y.A p0_5.y.l.length p0_5.y.c)])] V0 R :=
  enter (l := calTryd) (bor := borTryd) (own := ownTryd) (giv := givTryd) calOkTryd mixTryd Tryd.func39 (args := [.agg [.bool (.var p0_0.x.a), .val p0_0.x.b, .bool (.var p0_0.y.a), .val p0_0.y.b, .bool (.var p0_1.x.a), .val p0_1.x.b, .bool (.var p0_1.y.a), .val p0_1.y.b, .bool (.var p0_2.x.a), .val p0_2.x.b, .bool (.var p0_2.y.a), .val p0_2.y.b, .bool (.var p0_3.x.a), .val p0_3.x.b, .bool (.var p0_3.y.a), .val p0_3.y.b, .bool (.var p0_4.x.a), .val p0_4.x.b, .bool (.var p0_4.y.a), .val p0_4.y.b, .bool (.var p0_5.x.a), .val p0_5.x.b, .bool (.var p0_5.y.a), .val p0_5.y.b]]) (fuel := 3000) (hh := []) (by kernel_rfl) (Eq.mpr (by kernel_rfl) h)
-- (dowel/vector.Vec).Point
theorem E_vector_Vec_Point (p0_0 : R4) (p0_1 : R4) (p0_2 : R4) (V0 : VH) (R : Value → VH → Prop)
    (h : ∀ m0 : Nat, ∀ m1 : Nat, ∀ m2 : Nat, ∀ m3 : Nat, CSpec Tryd.prog n_rational_Rat_Number #[(.agg #[(.bool p0_0.x.n), (.slice p0_0.x.A p0_0.x.l.length p0_0.x.c), (.bool p0_0.y.n), (.slice p0_0.y.A p0_0.y.l.length p0_0.y.c)])] V0 fun v0 V1 =>
    ∃ s4 : ByteArray, v0 = (.string s4) ∧
    ∀ m5 : Nat, CSpec Tryd.prog n_rational_Rat_Number #[(.agg #[(.bool p0_1.x.n), (.slice p0_1.x.A p0_1.x.l.length p0_1.x.c), (.bool p0_1.y.n), (.slice p0_1.y.A p0_1.y.l.length p0_1.y.c)])] V1 fun v1 V2 =>
    ∃ s6 : ByteArray, v1 = (.string s6) ∧
    ∀ m7 : Nat, CSpec Tryd.prog n_rational_Rat_Number #[(.agg #[(.bool p0_2.x.n), (.slice p0_2.x.A p0_2.x.l.length p0_2.x.c), (.bool p0_2.y.n), (.slice p0_2.y.A p0_2.y.l.length p0_2.y.c)])] V2 fun v2 V3 =>
    ∃ s8 : ByteArray, v2 = (.string s8) ∧
    R (.agg #[(.string s4), (.string s6), (.string s8)]) V3) :
    CSpec Tryd.prog n_vector_Vec_Point #[(.agg #[(.bool p0_0.x.n), (.slice p0_0.x.A p0_0.x.l.length p0_0.x.c), (.bool p0_0.y.n), (.slice p0_0.y.A p0_0.y.l.length p0_0.y.c), (.bool p0_1.x.n), (.slice p0_1.x.A p0_1.x.l.length p0_1.x.c), (.bool p0_1.y.n), (.slice p0_1.y.A p0_1.y.l.length p0_1.y.c), (.bool p0_2.x.n), (.slice p0_2.x.A p0_2.x.l.length p0_2.x.c), (.bool p0_2.y.n), (.slice p0_2.y.A p0_2.y.l.length p0_2.y.c)])] V0 R :=
  enter (l := calTryd) (bor := borTryd) (own := ownTryd) (giv := givTryd) calOkTryd mixTryd Tryd.func41 (args := [.agg [.bool (.var p0_0.x.a), .val p0_0.x.b, .bool (.var p0_0.y.a), .val p0_0.y.b, .bool (.var p0_1.x.a), .val p0_1.x.b, .bool (.var p0_1.y.a), .val p0_1.y.b, .bool (.var p0_2.x.a), .val p0_2.x.b, .bool (.var p0_2.y.a), .val p0_2.y.b]]) (fuel := 3000) (hh := []) (by kernel_rfl) (Eq.mpr (by kernel_rfl) h)
-- strconv.Itoa
theorem E_strconv_Itoa (p0_0 : Int) (V0 : VH) (R : Value → VH → Prop)
    (h : CSpec Tryd.prog n_internal_strconv_Itoa #[(.int .i64 p0_0)] V0 fun v0 V1 =>
    ∃ s0 : ByteArray, v0 = (.string s0) ∧
    R (.string s0) V1) :
    CSpec Tryd.prog n_strconv_Itoa #[(.int .i64 p0_0)] V0 R :=
  enter (l := calTryd) (bor := borTryd) (own := ownTryd) (giv := givTryd) calOkTryd mixTryd Tryd.func71 (args := [.one (.int .i64 (.var (OV.int .i64 p0_0)))]) (fuel := 3000) (hh := []) (by kernel_rfl) (Eq.mpr (by kernel_rfl) h)
-- internal/strconv.Itoa
theorem E_internal_strconv_Itoa (p0_0 : Int) (V0 : VH) (R : Value → VH → Prop)
    (h : CSpec Tryd.prog n_internal_strconv_FormatInt #[(.int .i64 p0_0), (.int .i64 (10 : Int))] V0 fun v0 V1 =>
    ∃ s0 : ByteArray, v0 = (.string s0) ∧
    R (.string s0) V1) :
    CSpec Tryd.prog n_internal_strconv_Itoa #[(.int .i64 p0_0)] V0 R :=
  enter (l := calTryd) (bor := borTryd) (own := ownTryd) (giv := givTryd) calOkTryd mixTryd Tryd.func83 (args := [.one (.int .i64 (.var (OV.int .i64 p0_0)))]) (fuel := 3000) (hh := []) (by kernel_rfl) (Eq.mpr (by kernel_rfl) h)
-- slices.Reverse[[]string,string]
theorem E_slices_Reverse_string_string0app1 (m T : Nat) (g_0 : ByteArray) (tl : List Value) (c0 : Int) (V0 : VH) (hV : V0.f m = some (.cells (List.toArray ([(.string g_0)] ++ tl)) T)) (R : Value → VH → Prop)
    (h : R (.tuple #[]) V0) :
    CSpec Tryd.prog n_slices_Reverse_string_string #[(.slice (some ⟨m, Int.toNat (0 : Int), none⟩) (Int.toNat (1 : Int)) (Int.toNat c0))] V0 R :=
  enterT (tl := tl) (l := calTryd) (bor := borTryd) (own := ownTryd) (giv := givTryd) calOkTryd mixTryd Tryd.func73 (m := m) (T := T) (cs := [.str (.var (OV.str g_0))]) (args := [.one (.slice 0 (.lit 0) (.lit 1) (.var (OV.int .i64 c0)))]) (fuel := 3000) (hh := []) (by kernel_rfl) (Eq.mpr (by kernel_rfl) hV) (Eq.mpr (by kernel_rfl) h)
-- strings.Join
theorem E_strings_Join0app1 (m T : Nat) (g_0 : ByteArray) (tl : List Value) (c0 : Int) (p1_0 : ByteArray) (V0 : VH) (hV : V0.f m = some (.cells (List.toArray ([(.string g_0)] ++ tl)) T)) (R : Value → VH → Prop)
    (h : R (.string g_0) V0) :
    CSpec Tryd.prog n_strings_Join #[(.slice (some ⟨m, Int.toNat (0 : Int), none⟩) (Int.toNat (1 : Int)) (Int.toNat c0)), (.string p1_0)] V0 R :=
  enterT (tl := tl) (l := calTryd) (bor := borTryd) (own := ownTryd) (giv := givTryd) calOkTryd mixTryd Tryd.func74 (m := m) (T := T) (cs := [.str (.var (OV.str g_0))]) (args := [.one (.slice 0 (.lit 0) (.lit 1) (.var (OV.int .i64 c0))), .one (.str (.var (OV.str p1_0)))]) (fuel := 3000) (hh := []) (by kernel_rfl) (Eq.mpr (by kernel_rfl) hV) (Eq.mpr (by kernel_rfl) h)
-- internal/strconv.FormatInt
theorem E_internal_strconv_FormatInt (p0_0 : Int) (p1_0 : Int) (V0 : VH) (R : Value → VH → Prop)
    (h : (p1_0 == (10 : Int)) = true ∧
    (decide ((0 : Int) ≤ p0_0)) = true ∧
    (decide (p0_0 < (100 : Int))) = true ∧
    CSpec Tryd.prog n_internal_strconv_small #[(.int .i64 p0_0)] V0 fun v0 V1 =>
    ∃ s0 : ByteArray, v0 = (.string s0) ∧
    R (.string s0) V1) :
    CSpec Tryd.prog n_internal_strconv_FormatInt #[(.int .i64 p0_0), (.int .i64 p1_0)] V0 R :=
  enter (l := calTryd) (bor := borTryd) (own := ownTryd) (giv := givTryd) calOkTryd mixTryd Tryd.func92 (args := [.one (.int .i64 (.var (OV.int .i64 p0_0))), .one (.int .i64 (.var (OV.int .i64 p1_0)))]) (fuel := 3000) (hh := [.d true, .d true, .d true]) (by kernel_rfl) (Eq.mpr (by kernel_rfl) h)
-- internal/strconv.small
theorem E_internal_strconv_small (p0_0 : Int) (V0 : VH) (R : Value → VH → Prop)
    (h : (((decide (p0_0 < (10 : Int))) = true → (decide ((0 : Int) ≤ p0_0)) = true ∧
     (decide (p0_0 ≤ (IntKind.wrap .i64 (p0_0 + (1 : Int))))) = true ∧
     (decide ((IntKind.wrap .i64 (p0_0 + (1 : Int))) ≤ (36 : Int))) = true ∧
     R (.string (((⟨#[48, 49, 50, 51, 52, 53, 54, 55, 56, 57, 97, 98, 99, 100, 101, 102, 103, 104, 105, 106, 107, 108, 109, 110, 111, 112, 113, 114, 115, 116, 117, 118, 119, 120, 121, 122]⟩ : ByteArray)).extract (Int.toNat p0_0) (Int.toNat (IntKind.wrap .i64 (p0_0 + (1 : Int)))))) V0) ∧
    ((decide (p0_0 < (10 : Int))) = false → (decide ((0 : Int) ≤ (IntKind.wrap .i64 (p0_0 * (2 : Int))))) = true ∧
     (decide ((IntKind.wrap .i64 (p0_0 * (2 : Int))) ≤ (IntKind.wrap .i64 ((IntKind.wrap .i64 (p0_0 * (2 : Int))) + (2 : Int))))) = true ∧
     (decide ((IntKind.wrap .i64 ((IntKind.wrap .i64 (p0_0 * (2 : Int))) + (2 : Int))) ≤ (200 : Int))) = true ∧
     R (.string (((⟨#[48, 48, 48, 49, 48, 50, 48, 51, 48, 52, 48, 53, 48, 54, 48, 55, 48, 56, 48, 57, 49, 48, 49, 49, 49, 50, 49, 51, 49, 52, 49, 53, 49, 54, 49, 55, 49, 56, 49, 57, 50, 48, 50, 49, 50, 50, 50, 51, 50, 52, 50, 53, 50, 54, 50, 55, 50, 56, 50, 57, 51, 48, 51, 49, 51, 50, 51, 51, 51, 52, 51, 53, 51, 54, 51, 55, 51, 56, 51, 57, 52, 48, 52, 49, 52, 50, 52, 51, 52, 52, 52, 53, 52, 54, 52, 55, 52, 56, 52, 57, 53, 48, 53, 49, 53, 50, 53, 51, 53, 52, 53, 53, 53, 54, 53, 55, 53, 56, 53, 57, 54, 48, 54, 49, 54, 50, 54, 51, 54, 52, 54, 53, 54, 54, 54, 55, 54, 56, 54, 57, 55, 48, 55, 49, 55, 50, 55, 51, 55, 52, 55, 53, 55, 54, 55, 55, 55, 56, 55, 57, 56, 48, 56, 49, 56, 50, 56, 51, 56, 52, 56, 53, 56, 54, 56, 55, 56, 56, 56, 57, 57, 48, 57, 49, 57, 50, 57, 51, 57, 52, 57, 53, 57, 54, 57, 55, 57, 56, 57, 57]⟩ : ByteArray)).extract (Int.toNat (IntKind.wrap .i64 (p0_0 * (2 : Int)))) (Int.toNat (IntKind.wrap .i64 ((IntKind.wrap .i64 (p0_0 * (2 : Int))) + (2 : Int)))))) V0))) :
    CSpec Tryd.prog n_internal_strconv_small #[(.int .i64 p0_0)] V0 R :=
  enter (l := calTryd) (bor := borTryd) (own := ownTryd) (giv := givTryd) calOkTryd mixTryd Tryd.func98 (args := [.one (.int .i64 (.var (OV.int .i64 p0_0)))]) (fuel := 3000) (hh := []) (by kernel_rfl) (Eq.mpr (by kernel_rfl) h)
end Go.Proofs.YteimfmjojadkfaaDoor
