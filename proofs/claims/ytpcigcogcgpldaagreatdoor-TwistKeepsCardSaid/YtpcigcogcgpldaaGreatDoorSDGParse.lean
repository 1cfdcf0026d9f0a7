/- A text of this claim's own: SD.GParse. -/
import Derived.Test.YtpcigcogcgpldaaGreatDoorSDNames
set_option linter.unusedVariables false
set_option linter.unusedSimpArgs false
set_option linter.unusedVariables false
set_option maxRecDepth 100000
set_option maxHeartbeats 4000000
namespace Go.Proofs.YtpcigcogcgpldaaGreatDoor
open Go Go.Dx
-- internal/stringslite.HasPrefix
theorem E_internal_stringslite_HasPrefix (p0_0 : ByteArray) (p1_0 : ByteArray) (V0 : VH) (R : Value → VH → Prop)
    (h : (((decide (((p1_0).size : Int) ≤ ((p0_0).size : Int))) = true → (decide ((0 : Int) ≤ ((p1_0).size : Int))) = true ∧
     (decide (((p1_0).size : Int) ≤ ((p0_0).size : Int))) = true ∧
     R (.bool ((((p0_0).extract (Int.toNat (0 : Int)) (Int.toNat ((p1_0).size : Int)))).toList == (p1_0).toList)) V0) ∧
    ((decide (((p1_0).size : Int) ≤ ((p0_0).size : Int))) = false → R (.bool false) V0))) :
    CSpec Tryz.prog n_internal_stringslite_HasPrefix #[(.string p0_0), (.string p1_0)] V0 R :=
  enter (l := calTryz) (bor := borTryz) (own := ownTryz) (giv := givTryz) (grw := false) calOkTryz mixTryz Tryz.func204 (args := [.one (.str (.var (OV.str p0_0))), .one (.str (.var (OV.str p1_0)))]) (fuel := 3000) (hh := []) (by kernel_rfl) (Eq.mpr (by kernel_rfl) h)
-- internal/stringslite.CutPrefix
theorem E_internal_stringslite_CutPrefix (p0_0 : ByteArray) (p1_0 : ByteArray) (V0 : VH) (R : Value → VH → Prop)
    (h : CSpec Tryz.prog n_internal_stringslite_HasPrefix #[(.string p0_0), (.string p1_0)] V0 fun v0 V1 =>
    ∃ b0 : Bool, v0 = (.bool b0) ∧
    (((!b0) = true → R (.tuple #[(.string p0_0), (.bool false)]) V1) ∧
    ((!b0) = false → (decide ((0 : Int) ≤ ((p1_0).size : Int))) = true ∧
     (decide (((p1_0).size : Int) ≤ ((p0_0).size : Int))) = true ∧
     (decide (((p0_0).size : Int) ≤ ((p0_0).size : Int))) = true ∧
     R (.tuple #[(.string ((p0_0).extract (Int.toNat ((p1_0).size : Int)) (Int.toNat ((p0_0).size : Int)))), (.bool true)]) V1))) :
    CSpec Tryz.prog n_internal_stringslite_CutPrefix #[(.string p0_0), (.string p1_0)] V0 R :=
  enter (l := calTryz) (bor := borTryz) (own := ownTryz) (giv := givTryz) (grw := false) calOkTryz mixTryz Tryz.func209 (args := [.one (.str (.var (OV.str p0_0))), .one (.str (.var (OV.str p1_0)))]) (fuel := 3000) (hh := []) (by kernel_rfl) (Eq.mpr (by kernel_rfl) h)
-- strings.CutPrefix
theorem E_strings_CutPrefix (p0_0 : ByteArray) (p1_0 : ByteArray) (V0 : VH) (R : Value → VH → Prop)
    (h : CSpec Tryz.prog n_internal_stringslite_CutPrefix #[(.string p0_0), (.string p1_0)] V0 fun v0 V1 =>
    ∃ s0 : ByteArray, ∃ b1 : Bool, v0 = (.tuple #[(.string s0), (.bool b1)]) ∧
    R (.tuple #[(.string s0), (.bool b1)]) V1) :
    CSpec Tryz.prog n_strings_CutPrefix #[(.string p0_0), (.string p1_0)] V0 R :=
  enter (l := calTryz) (bor := borTryz) (own := ownTryz) (giv := givTryz) (grw := false) calOkTryz mixTryz Tryz.func173 (args := [.one (.str (.var (OV.str p0_0))), .one (.str (.var (OV.str p1_0)))]) (fuel := 3000) (hh := []) (by kernel_rfl) (Eq.mpr (by kernel_rfl) h)
-- internal/stringslite.TrimPrefix
theorem E_internal_stringslite_TrimPrefix (p0_0 : ByteArray) (p1_0 : ByteArray) (V0 : VH) (R : Value → VH → Prop)
    (h : CSpec Tryz.prog n_internal_stringslite_HasPrefix #[(.string p0_0), (.string p1_0)] V0 fun v0 V1 =>
    ∃ b0 : Bool, v0 = (.bool b0) ∧
    ((b0 = true → (decide ((0 : Int) ≤ ((p1_0).size : Int))) = true ∧
     (decide (((p1_0).size : Int) ≤ ((p0_0).size : Int))) = true ∧
     (decide (((p0_0).size : Int) ≤ ((p0_0).size : Int))) = true ∧
     R (.string ((p0_0).extract (Int.toNat ((p1_0).size : Int)) (Int.toNat ((p0_0).size : Int)))) V1) ∧
    (b0 = false → R (.string p0_0) V1))) :
    CSpec Tryz.prog n_internal_stringslite_TrimPrefix #[(.string p0_0), (.string p1_0)] V0 R :=
  enter (l := calTryz) (bor := borTryz) (own := ownTryz) (giv := givTryz) (grw := false) calOkTryz mixTryz Tryz.func165 (args := [.one (.str (.var (OV.str p0_0))), .one (.str (.var (OV.str p1_0)))]) (fuel := 3000) (hh := []) (by kernel_rfl) (Eq.mpr (by kernel_rfl) h)
-- strings.TrimPrefix
theorem E_strings_TrimPrefix (p0_0 : ByteArray) (p1_0 : ByteArray) (V0 : VH) (R : Value → VH → Prop)
    (h : CSpec Tryz.prog n_internal_stringslite_TrimPrefix #[(.string p0_0), (.string p1_0)] V0 fun v0 V1 =>
    ∃ s0 : ByteArray, v0 = (.string s0) ∧
    R (.string s0) V1) :
    CSpec Tryz.prog n_strings_TrimPrefix #[(.string p0_0), (.string p1_0)] V0 R :=
  enter (l := calTryz) (bor := borTryz) (own := ownTryz) (giv := givTryz) (grw := false) calOkTryz mixTryz Tryz.func127 (args := [.one (.str (.var (OV.str p0_0))), .one (.str (.var (OV.str p1_0)))]) (fuel := 3000) (hh := []) (by kernel_rfl) (Eq.mpr (by kernel_rfl) h)
-- internal/stringslite.Index
theorem E_internal_stringslite_Index (p0_0 : ByteArray) (p1_0 : ByteArray) (V0 : VH) (R : Value → VH → Prop)
    (h : (((((p1_0).size : Int) == (0 : Int)) = true → R (.int .i64 (0 : Int)) V0) ∧
    ((((p1_0).size : Int) == (0 : Int)) = false → ((((p1_0).toList == (p0_0).toList) = true → R (.int .i64 (0 : Int)) V0) ∧
     (((p1_0).toList == (p0_0).toList) = false → (((((p1_0).size : Int) == (1 : Int)) = true → (decide ((0 : Int) < ((p1_0).size : Int))) = true ∧
       CSpec Tryz.prog n_internal_stringslite_IndexByte #[(.string p0_0), (.int .u8 (btV p1_0 (0 : Int)))] V0 fun v0 V1 =>
       ∃ n0 : Int, v0 = (.int .i64 n0) ∧
       R (.int .i64 n0) V1) ∧
      ((((p1_0).size : Int) == (1 : Int)) = false → (((decide (((p0_0).size : Int) ≤ ((p1_0).size : Int))) = true → R (.int .i64 (-1 : Int)) V0) ∧
       ((decide (((p0_0).size : Int) ≤ ((p1_0).size : Int))) = false → False /- FAIL_load -/))))))))) :
    CSpec Tryz.prog n_internal_stringslite_Index #[(.string p0_0), (.string p1_0)] V0 R :=
  enter (l := calTryz) (bor := borTryz) (own := ownTryz) (giv := givTryz) (grw := false) calOkTryz mixTryz Tryz.func203 (args := [.one (.str (.var (OV.str p0_0))), .one (.str (.var (OV.str p1_0)))]) (fuel := 3000) (hh := []) (by kernel_rfl) (Eq.mpr (by kernel_rfl) h)
-- internal/stringslite.Cut
theorem E_internal_stringslite_Cut (p0_0 : ByteArray) (p1_0 : ByteArray) (V0 : VH) (R : Value → VH → Prop)
    (h : CSpec Tryz.prog n_internal_stringslite_Index #[(.string p0_0), (.string p1_0)] V0 fun v0 V1 =>
    ∃ n0 : Int, v0 = (.int .i64 n0) ∧
    (((decide ((0 : Int) ≤ n0)) = true → (decide ((0 : Int) ≤ n0)) = true ∧
     (decide (n0 ≤ ((p0_0).size : Int))) = true ∧
     (decide ((0 : Int) ≤ (IntKind.wrap .i64 (n0 + ((p1_0).size : Int))))) = true ∧
     (decide ((IntKind.wrap .i64 (n0 + ((p1_0).size : Int))) ≤ ((p0_0).size : Int))) = true ∧
     (decide (((p0_0).size : Int) ≤ ((p0_0).size : Int))) = true ∧
     R (.tuple #[(.string ((p0_0).extract (Int.toNat (0 : Int)) (Int.toNat n0))), (.string ((p0_0).extract (Int.toNat (IntKind.wrap .i64 (n0 + ((p1_0).size : Int)))) (Int.toNat ((p0_0).size : Int)))), (.bool true)]) V1) ∧
    ((decide ((0 : Int) ≤ n0)) = false → R (.tuple #[(.string p0_0), (.string (⟨#[]⟩ : ByteArray)), (.bool false)]) V1))) :
    CSpec Tryz.prog n_internal_stringslite_Cut #[(.string p0_0), (.string p1_0)] V0 R :=
  enter (l := calTryz) (bor := borTryz) (own := ownTryz) (giv := givTryz) (grw := false) calOkTryz mixTryz Tryz.func164 (args := [.one (.str (.var (OV.str p0_0))), .one (.str (.var (OV.str p1_0)))]) (fuel := 3000) (hh := []) (by kernel_rfl) (Eq.mpr (by kernel_rfl) h)
-- strings.Cut
theorem E_strings_Cut (p0_0 : ByteArray) (p1_0 : ByteArray) (V0 : VH) (R : Value → VH → Prop)
    (h : CSpec Tryz.prog n_internal_stringslite_Cut #[(.string p0_0), (.string p1_0)] V0 fun v0 V1 =>
    ∃ s0 : ByteArray, ∃ s1 : ByteArray, ∃ b2 : Bool, v0 = (.tuple #[(.string s0), (.string s1), (.bool b2)]) ∧
    R (.tuple #[(.string s0), (.string s1), (.bool b2)]) V1) :
    CSpec Tryz.prog n_strings_Cut #[(.string p0_0), (.string p1_0)] V0 R :=
  enter (l := calTryz) (bor := borTryz) (own := ownTryz) (giv := givTryz) (grw := false) calOkTryz mixTryz Tryz.func125 (args := [.one (.str (.var (OV.str p0_0))), .one (.str (.var (OV.str p1_0)))]) (fuel := 3000) (hh := []) (by kernel_rfl) (Eq.mpr (by kernel_rfl) h)
-- dowel/integer.Parse$1
theorem E_integer_Parse_1 (p0_0 : Int) (V0 : VH) (R : Value → VH → Prop)
    (h : (((decide (p0_0 < (48 : Int))) = true → R (.bool true) V0) ∧
    ((decide (p0_0 < (48 : Int))) = false → R (.bool (decide ((57 : Int) < p0_0))) V0))) :
    CSpec Tryz.prog n_integer_Parse_1 #[(.int .i32 p0_0)] V0 R :=
  enter (l := calTryz) (bor := borTryz) (own := ownTryz) (giv := givTryz) (grw := false) calOkTryz mixTryz Tryz.func175 (args := [.one (.int .i32 (.var (OV.int .i32 p0_0)))]) (fuel := 3000) (hh := []) (by kernel_rfl) (Eq.mpr (by kernel_rfl) h)
-- dowel/integer.scale
theorem E_integer_scale (Ap0_0 : Option Addr) (cp0_0 : Nat) (lp0_0 : List Int) (p1_0 : Int) (p2_0 : Int) (V0 : VH) (R : Value → VH → Prop)
    (h : (isSlV (.slice Ap0_0 lp0_0.length cp0_0)) = true ∧
    (decide ((0 : Int) ≤ (IntKind.wrap .i64 ((lp0_0.length : Int) + (1 : Int))))) = true ∧
    (decide ((IntKind.wrap .i64 ((lp0_0.length : Int) + (1 : Int))) ≤ (1099511627776 : Int))) = true ∧
    ∀ m0 : Nat, (isSlV (.slice Ap0_0 lp0_0.length cp0_0)) = true ∧
    ∃ (I1 : List OV → VH → Prop) (μ1 : List OV → Nat), I1 [(OV.int .u64 (IntKind.wrap .u64 p2_0)), (OV.int .i64 (0 : Int)), (OV.lst (List.replicate (Int.toNat (IntKind.wrap .i64 ((lp0_0.length : Int) + (1 : Int)))) (0 : Int)))] V0 ∧
    ∀ V1 : VH, V0.le V1 → ∀ n2 : Int, ∀ n3 : Int, ∀ l4 : List Int, (I1 [(OV.int .u64 n2), (OV.int .i64 n3), (OV.lst l4)] V1 →
     (((decide (n3 < (lp0_0.length : Int))) = true → (hasBV (.slice Ap0_0 lp0_0.length cp0_0)) = true ∧
      (decide ((0 : Int) ≤ n3)) = true ∧
      (decide (n3 < (lp0_0.length : Int))) = true ∧
      RdV V1 .u32 (OV.sl Ap0_0 cp0_0 lp0_0) ∧
      (decide ((0 : Int) ≤ n3)) = true ∧
      (decide (n3 < ((List.length lp0_0) : Int))) = true ∧
      (decide ((0 : Int) ≤ n3)) = true ∧
      (decide (n3 < (IntKind.wrap .i64 ((lp0_0.length : Int) + (1 : Int))))) = true ∧
      (decide ((0 : Int) ≤ n3)) = true ∧
      (decide (n3 < ((List.length l4) : Int))) = true ∧
      (I1 [(OV.int .u64 (Int.fdiv (IntKind.wrap .u64 (n2 + (IntKind.wrap .u64 ((IntKind.wrap .u64 (List.getD lp0_0 (Int.toNat n3) 0)) * (IntKind.wrap .u64 p1_0))))) (4294967296 : Int))), (OV.int .i64 (IntKind.wrap .i64 (n3 + (1 : Int)))), (OV.lst (List.set l4 (Int.toNat n3) (IntKind.wrap .u32 (IntKind.wrap .u64 (n2 + (IntKind.wrap .u64 ((IntKind.wrap .u64 (List.getD lp0_0 (Int.toNat n3) 0)) * (IntKind.wrap .u64 p1_0))))))))] V1 ∧ μ1 [(OV.int .u64 (Int.fdiv (IntKind.wrap .u64 (n2 + (IntKind.wrap .u64 ((IntKind.wrap .u64 (List.getD lp0_0 (Int.toNat n3) 0)) * (IntKind.wrap .u64 p1_0))))) (4294967296 : Int))), (OV.int .i64 (IntKind.wrap .i64 (n3 + (1 : Int)))), (OV.lst (List.set l4 (Int.toNat n3) (IntKind.wrap .u32 (IntKind.wrap .u64 (n2 + (IntKind.wrap .u64 ((IntKind.wrap .u64 (List.getD lp0_0 (Int.toNat n3) 0)) * (IntKind.wrap .u64 p1_0))))))))] < μ1 [(OV.int .u64 n2), (OV.int .i64 n3), (OV.lst l4)])) ∧
     ((decide (n3 < (lp0_0.length : Int))) = false → (isSlV (.slice Ap0_0 lp0_0.length cp0_0)) = true ∧
      (decide ((0 : Int) ≤ (lp0_0.length : Int))) = true ∧
      (decide ((lp0_0.length : Int) < (IntKind.wrap .i64 ((lp0_0.length : Int) + (1 : Int))))) = true ∧
      (decide ((0 : Int) ≤ (lp0_0.length : Int))) = true ∧
      (decide ((lp0_0.length : Int) < ((List.length l4) : Int))) = true ∧
      (V1.f m0 = none →
      CSpec Tryz.prog n_integer_trim #[(.slice (some ⟨m0, Int.toNat (0 : Int), none⟩) (Int.toNat (IntKind.wrap .i64 ((lp0_0.length : Int) + (1 : Int)))) (Int.toNat (IntKind.wrap .i64 ((lp0_0.length : Int) + (1 : Int)))))] (V1.put m0 (.cells (List.toArray (List.map (Value.int .u32) (List.set l4 (Int.toNat (lp0_0.length : Int)) (IntKind.wrap .u32 n2)))) 216)) fun v1 V2 =>
      ∃ (A5 : Option Addr) (c5 : Nat) (l5 : List Int), v1 = (.slice A5 l5.length c5) ∧
      R (.slice A5 l5.length c5) V2))))) :
    CSpec Tryz.prog n_integer_scale #[(.slice Ap0_0 lp0_0.length cp0_0), (.int .u32 p1_0), (.int .u32 p2_0)] V0 R :=
  enter (l := calTryz) (bor := borTryz) (own := ownTryz) (giv := givTryz) (grw := false) calOkTryz mixTryz Tryz.func177 (args := [.one (.val (OV.sl Ap0_0 cp0_0 lp0_0)), .one (.int .u32 (.var (OV.int .u32 p1_0))), .one (.int .u32 (.var (OV.int .u32 p2_0)))]) (fuel := 3000) (hh := [.auto]) (by kernel_rfl) (Eq.mpr (by kernel_rfl) h)
-- dowel/integer.Parse
theorem E_integer_Parse (p0_0 : ByteArray) (V0 : VH) (R : Value → VH → Prop)
    (h : ∀ m0 : Nat, (((decide ((65536 : Int) < ((p0_0).size : Int))) = true → R (.tuple #[(.agg #[(.bool false), (.slice none 0 0)]), (.int .i64 (5 : Int))]) V0) ∧
    ((decide ((65536 : Int) < ((p0_0).size : Int))) = false → CSpec Tryz.prog n_strings_CutPrefix #[(.string p0_0), (.string (⟨#[45]⟩ : ByteArray))] V0 fun v0 V1 =>
     ∃ s1 : ByteArray, ∃ b2 : Bool, v0 = (.tuple #[(.string s1), (.bool b2)]) ∧
     ((((s1).toList == ((⟨#[]⟩ : ByteArray)).toList) = true → R (.tuple #[(.agg #[(.bool false), (.slice none 0 0)]), (.int .i64 (14 : Int))]) V1) ∧
     (((s1).toList == ((⟨#[]⟩ : ByteArray)).toList) = false → CSpec Tryz.prog n_strings_ContainsFunc #[(.string s1), (.func (.func 175) #[] #[])] V1 fun v1 V2 =>
      ∃ b3 : Bool, v1 = (.bool b3) ∧
      ((b3 = true → R (.tuple #[(.agg #[(.bool false), (.slice none 0 0)]), (.int .i64 (14 : Int))]) V2) ∧
      (b3 = false → (decide ((0 : Int) < ((s1).size : Int))) = true ∧
       ((((btV s1 (0 : Int)) == (48 : Int)) = true → (((decide ((1 : Int) < ((s1).size : Int))) = true → R (.tuple #[(.agg #[(.bool false), (.slice none 0 0)]), (.int .i64 (3 : Int))]) V2) ∧
        ((decide ((1 : Int) < ((s1).size : Int))) = false → ((b2 = true → R (.tuple #[(.agg #[(.bool false), (.slice none 0 0)]), (.int .i64 (3 : Int))]) V2) ∧
         (b2 = false → ∃ (I4 : List OV → VH → Prop) (μ4 : List OV → Nat), I4 [(constOV (.slice none 0 0)), (OV.str s1)] V2 ∧
          ∀ V3 : VH, V2.le V3 → ∀ x5 : OV, ∀ s6 : ByteArray, (I4 [x5, (OV.str s6)] V3 →
           (((decide ((0 : Int) < ((s6).size : Int))) = true → ∃ (I7 : List OV → VH → Prop) (μ7 : List OV → Nat), I7 [(OV.int .u32 (1 : Int)), (OV.int .i64 (0 : Int))] V3 ∧
            ∀ V4 : VH, V3.le V4 → ∀ n8 : Int, ∀ n9 : Int, (I7 [(OV.int .u32 n8), (OV.int .i64 n9)] V4 →
             (((decide (n9 < (IntKind.wrap .i64 ((Int.tmod (IntKind.wrap .i64 (((s6).size : Int) - (1 : Int))) (9 : Int)) + (1 : Int))))) = true → (I7 [(OV.int .u32 (IntKind.wrap .u32 (n8 * (10 : Int)))), (OV.int .i64 (IntKind.wrap .i64 (n9 + (1 : Int))))] V4 ∧ μ7 [(OV.int .u32 (IntKind.wrap .u32 (n8 * (10 : Int)))), (OV.int .i64 (IntKind.wrap .i64 (n9 + (1 : Int))))] < μ7 [(OV.int .u32 n8), (OV.int .i64 n9)])) ∧
             ((decide (n9 < (IntKind.wrap .i64 ((Int.tmod (IntKind.wrap .i64 (((s6).size : Int) - (1 : Int))) (9 : Int)) + (1 : Int))))) = false → (decide ((0 : Int) ≤ (IntKind.wrap .i64 ((Int.tmod (IntKind.wrap .i64 (((s6).size : Int) - (1 : Int))) (9 : Int)) + (1 : Int))))) = true ∧
              (decide ((IntKind.wrap .i64 ((Int.tmod (IntKind.wrap .i64 (((s6).size : Int) - (1 : Int))) (9 : Int)) + (1 : Int))) ≤ ((s6).size : Int))) = true ∧
              CSpec Tryz.prog n_strconv_ParseUint #[(.string ((s6).extract (Int.toNat (0 : Int)) (Int.toNat (IntKind.wrap .i64 ((Int.tmod (IntKind.wrap .i64 (((s6).size : Int) - (1 : Int))) (9 : Int)) + (1 : Int)))))), (.int .i64 (10 : Int)), (.int .i64 (32 : Int))] V4 fun v4 V5 =>
              ∃ n10 : Int, ∃ x11 : OV, v4 = (.tuple #[(.int .u64 n10), x11.v]) ∧
              CSpec Tryz.prog n_integer_scale #[x5.v, (.int .u32 n8), (.int .u32 (IntKind.wrap .u32 n10))] V5 fun v5 V6 =>
              ∃ (A12 : Option Addr) (c12 : Nat) (l12 : List Int), v5 = (.slice A12 l12.length c12) ∧
              (decide ((0 : Int) ≤ (IntKind.wrap .i64 ((Int.tmod (IntKind.wrap .i64 (((s6).size : Int) - (1 : Int))) (9 : Int)) + (1 : Int))))) = true ∧
              (decide ((IntKind.wrap .i64 ((Int.tmod (IntKind.wrap .i64 (((s6).size : Int) - (1 : Int))) (9 : Int)) + (1 : Int))) ≤ ((s6).size : Int))) = true ∧
              (decide (((s6).size : Int) ≤ ((s6).size : Int))) = true ∧
              (I4 [(OV.sl A12 c12 l12), (OV.str ((s6).extract (Int.toNat (IntKind.wrap .i64 ((Int.tmod (IntKind.wrap .i64 (((s6).size : Int) - (1 : Int))) (9 : Int)) + (1 : Int)))) (Int.toNat ((s6).size : Int))))] V6 ∧ μ4 [(OV.sl A12 c12 l12), (OV.str ((s6).extract (Int.toNat (IntKind.wrap .i64 ((Int.tmod (IntKind.wrap .i64 (((s6).size : Int) - (1 : Int))) (9 : Int)) + (1 : Int)))) (Int.toNat ((s6).size : Int))))] < μ4 [x5, (OV.str s6)]))))) ∧
           ((decide ((0 : Int) < ((s6).size : Int))) = false → CSpec Tryz.prog n_integer_signed #[(.bool b2), x5.v] V3 fun v6 V7 =>
            ∃ i13 : R2, v6 = (R2.v i13) ∧
            R (.tuple #[(R2.v i13), (.int .i64 (0 : Int))]) V7)))))))) ∧
       (((btV s1 (0 : Int)) == (48 : Int)) = false → ∃ (I14 : List OV → VH → Prop) (μ14 : List OV → Nat), I14 [(constOV (.slice none 0 0)), (OV.str s1)] V2 ∧
        ∀ V8 : VH, V2.le V8 → ∀ x15 : OV, ∀ s16 : ByteArray, (I14 [x15, (OV.str s16)] V8 →
         (((decide ((0 : Int) < ((s16).size : Int))) = true → ∃ (I17 : List OV → VH → Prop) (μ17 : List OV → Nat), I17 [(OV.int .u32 (1 : Int)), (OV.int .i64 (0 : Int))] V8 ∧
          ∀ V9 : VH, V8.le V9 → ∀ n18 : Int, ∀ n19 : Int, (I17 [(OV.int .u32 n18), (OV.int .i64 n19)] V9 →
           (((decide (n19 < (IntKind.wrap .i64 ((Int.tmod (IntKind.wrap .i64 (((s16).size : Int) - (1 : Int))) (9 : Int)) + (1 : Int))))) = true → (I17 [(OV.int .u32 (IntKind.wrap .u32 (n18 * (10 : Int)))), (OV.int .i64 (IntKind.wrap .i64 (n19 + (1 : Int))))] V9 ∧ μ17 [(OV.int .u32 (IntKind.wrap .u32 (n18 * (10 : Int)))), (OV.int .i64 (IntKind.wrap .i64 (n19 + (1 : Int))))] < μ17 [(OV.int .u32 n18), (OV.int .i64 n19)])) ∧
           ((decide (n19 < (IntKind.wrap .i64 ((Int.tmod (IntKind.wrap .i64 (((s16).size : Int) - (1 : Int))) (9 : Int)) + (1 : Int))))) = false → (decide ((0 : Int) ≤ (IntKind.wrap .i64 ((Int.tmod (IntKind.wrap .i64 (((s16).size : Int) - (1 : Int))) (9 : Int)) + (1 : Int))))) = true ∧
            (decide ((IntKind.wrap .i64 ((Int.tmod (IntKind.wrap .i64 (((s16).size : Int) - (1 : Int))) (9 : Int)) + (1 : Int))) ≤ ((s16).size : Int))) = true ∧
            CSpec Tryz.prog n_strconv_ParseUint #[(.string ((s16).extract (Int.toNat (0 : Int)) (Int.toNat (IntKind.wrap .i64 ((Int.tmod (IntKind.wrap .i64 (((s16).size : Int) - (1 : Int))) (9 : Int)) + (1 : Int)))))), (.int .i64 (10 : Int)), (.int .i64 (32 : Int))] V9 fun v9 V10 =>
            ∃ n20 : Int, ∃ x21 : OV, v9 = (.tuple #[(.int .u64 n20), x21.v]) ∧
            CSpec Tryz.prog n_integer_scale #[x15.v, (.int .u32 n18), (.int .u32 (IntKind.wrap .u32 n20))] V10 fun v10 V11 =>
            ∃ (A22 : Option Addr) (c22 : Nat) (l22 : List Int), v10 = (.slice A22 l22.length c22) ∧
            (decide ((0 : Int) ≤ (IntKind.wrap .i64 ((Int.tmod (IntKind.wrap .i64 (((s16).size : Int) - (1 : Int))) (9 : Int)) + (1 : Int))))) = true ∧
            (decide ((IntKind.wrap .i64 ((Int.tmod (IntKind.wrap .i64 (((s16).size : Int) - (1 : Int))) (9 : Int)) + (1 : Int))) ≤ ((s16).size : Int))) = true ∧
            (decide (((s16).size : Int) ≤ ((s16).size : Int))) = true ∧
            (I14 [(OV.sl A22 c22 l22), (OV.str ((s16).extract (Int.toNat (IntKind.wrap .i64 ((Int.tmod (IntKind.wrap .i64 (((s16).size : Int) - (1 : Int))) (9 : Int)) + (1 : Int)))) (Int.toNat ((s16).size : Int))))] V11 ∧ μ14 [(OV.sl A22 c22 l22), (OV.str ((s16).extract (Int.toNat (IntKind.wrap .i64 ((Int.tmod (IntKind.wrap .i64 (((s16).size : Int) - (1 : Int))) (9 : Int)) + (1 : Int)))) (Int.toNat ((s16).size : Int))))] < μ14 [x15, (OV.str s16)]))))) ∧
         ((decide ((0 : Int) < ((s16).size : Int))) = false → CSpec Tryz.prog n_integer_signed #[(.bool b2), x15.v] V8 fun v11 V12 =>
          ∃ i23 : R2, v11 = (R2.v i23) ∧
          R (.tuple #[(R2.v i23), (.int .i64 (0 : Int))]) V12)))))))))))) :
    CSpec Tryz.prog n_integer_Parse #[(.string p0_0)] V0 R :=
  enter (l := calTryz) (bor := borTryz) (own := ownTryz) (giv := givTryz) (grw := false) calOkTryz mixTryz Tryz.func129 (args := [.one (.str (.var (OV.str p0_0)))]) (fuel := 3000) (hh := [.auto, .auto]) (by kernel_rfl) (Eq.mpr (by kernel_rfl) h)
-- dowel/rational.digits
theorem E_rational_digits (p0_0 : ByteArray) (V0 : VH) (R : Value → VH → Prop)
    (h : (((!((p0_0).toList == ((⟨#[]⟩ : ByteArray)).toList)) = true → CSpec Tryz.prog n_strings_Trim #[(.string p0_0), (.string (⟨#[48, 49, 50, 51, 52, 53, 54, 55, 56, 57]⟩ : ByteArray))] V0 fun v0 V1 =>
     ∃ s0 : ByteArray, v0 = (.string s0) ∧
     R (.bool ((s0).toList == ((⟨#[]⟩ : ByteArray)).toList)) V1) ∧
    ((!((p0_0).toList == ((⟨#[]⟩ : ByteArray)).toList)) = false → R (.bool false) V0))) :
    CSpec Tryz.prog n_rational_digits #[(.string p0_0)] V0 R :=
  enter (l := calTryz) (bor := borTryz) (own := ownTryz) (giv := givTryz) (grw := false) calOkTryz mixTryz Tryz.func126 (args := [.one (.str (.var (OV.str p0_0)))]) (fuel := 3000) (hh := []) (by kernel_rfl) (Eq.mpr (by kernel_rfl) h)
-- dowel/rational.read
theorem E_rational_read (p0_0 : ByteArray) (p1_0 : Int) (V0 : VH) (R : Value → VH → Prop)
    (h : ∀ m0 : Nat, CSpec Tryz.prog n_strings_Cut #[(.string p0_0), (.string (⟨#[47]⟩ : ByteArray))] V0 fun v0 V1 =>
    ∃ s1 : ByteArray, ∃ s2 : ByteArray, ∃ b3 : Bool, v0 = (.tuple #[(.string s1), (.string s2), (.bool b3)]) ∧
    (((decide (p1_0 < ((p0_0).size : Int))) = true → R (.tuple #[(R4.v zr), (.int .i64 (5 : Int))]) V1) ∧
    ((decide (p1_0 < ((p0_0).size : Int))) = false → CSpec Tryz.prog n_strings_TrimPrefix #[(.string s1), (.string (⟨#[45]⟩ : ByteArray))] V1 fun v1 V2 =>
     ∃ s4 : ByteArray, v1 = (.string s4) ∧
     CSpec Tryz.prog n_rational_digits #[(.string s4)] V2 fun v2 V3 =>
     ∃ b5 : Bool, v2 = (.bool b5) ∧
     (((!b5) = true → R (.tuple #[(R4.v zr), (.int .i64 (14 : Int))]) V3) ∧
     ((!b5) = false → ((b3 = true → CSpec Tryz.prog n_rational_digits #[(.string s2)] V3 fun v3 V4 =>
       ∃ b6 : Bool, v3 = (.bool b6) ∧
       (((!b6) = true → R (.tuple #[(R4.v zr), (.int .i64 (14 : Int))]) V4) ∧
       ((!b6) = false → ((b3 = true → CSpec Tryz.prog n_strings_Trim #[(.string s2), (.string (⟨#[48]⟩ : ByteArray))] V4 fun v4 V5 =>
         ∃ s7 : ByteArray, v4 = (.string s7) ∧
         ((((s7).toList == ((⟨#[]⟩ : ByteArray)).toList) = true → R (.tuple #[(R4.v zr), (.int .i64 (19 : Int))]) V5) ∧
         (((s7).toList == ((⟨#[]⟩ : ByteArray)).toList) = false → CSpec Tryz.prog n_integer_Parse #[(.string s1)] V5 fun v5 V6 =>
          ∃ i8 : R2, ∃ n9 : Int, v5 = (.tuple #[(R2.v i8), (.int .i64 n9)]) ∧
          ∀ m10 : Nat, (((!(n9 == (0 : Int))) = true → R (.tuple #[(R4.v zr), (.int .i64 (3 : Int))]) V6) ∧
          ((!(n9 == (0 : Int))) = false → (((!b3) = true → R (.tuple #[(.agg #[(.bool i8.n), (.slice i8.A i8.l.length i8.c), (.bool false), (.slice none 0 0)]), (.int .i64 (0 : Int))]) V6) ∧
           ((!b3) = false → CSpec Tryz.prog n_integer_Parse #[(.string s2)] V6 fun v6 V7 =>
            ∃ i11 : R2, ∃ n12 : Int, v6 = (.tuple #[(R2.v i11), (.int .i64 n12)]) ∧
            ∀ m13 : Nat, (((!(n12 == (0 : Int))) = true → R (.tuple #[(R4.v zr), (.int .i64 (3 : Int))]) V7) ∧
            ((!(n12 == (0 : Int))) = false → CSpec Tryz.prog n_rational_one #[] V7 fun v7 V8 =>
             ∃ i14 : R2, v7 = (R2.v i14) ∧
             CSpec Tryz.prog n_integer_Compare #[(R2.v i11), (R2.v i14)] V8 fun v8 V9 =>
             ∃ n15 : Int, v8 = (.int .i64 n15) ∧
             (((n15 == (0 : Int)) = true → R (.tuple #[(R4.v zr), (.int .i64 (3 : Int))]) V9) ∧
             ((n15 == (0 : Int)) = false → CSpec Tryz.prog n_integer_Gcd #[(R2.v i8), (R2.v i11)] V9 fun v9 V10 =>
              ∃ i16 : R2, v9 = (R2.v i16) ∧
              CSpec Tryz.prog n_rational_one #[] V10 fun v10 V11 =>
              ∃ i17 : R2, v10 = (R2.v i17) ∧
              CSpec Tryz.prog n_integer_Compare #[(R2.v i16), (R2.v i17)] V11 fun v11 V12 =>
              ∃ n18 : Int, v11 = (.int .i64 n18) ∧
              (((!(n18 == (0 : Int))) = true → R (.tuple #[(R4.v zr), (.int .i64 (3 : Int))]) V12) ∧
              ((!(n18 == (0 : Int))) = false → R (.tuple #[(.agg #[(.bool i8.n), (.slice i8.A i8.l.length i8.c), (.bool i11.n), (.slice i11.A i11.l.length i11.c)]), (.int .i64 (0 : Int))]) V12))))))))))))) ∧
        (b3 = false → CSpec Tryz.prog n_integer_Parse #[(.string s1)] V4 fun v12 V13 =>
         ∃ i19 : R2, ∃ n20 : Int, v12 = (.tuple #[(R2.v i19), (.int .i64 n20)]) ∧
         ∀ m21 : Nat, (((!(n20 == (0 : Int))) = true → R (.tuple #[(R4.v zr), (.int .i64 (3 : Int))]) V13) ∧
         ((!(n20 == (0 : Int))) = false → (((!b3) = true → R (.tuple #[(.agg #[(.bool i19.n), (.slice i19.A i19.l.length i19.c), (.bool false), (.slice none 0 0)]), (.int .i64 (0 : Int))]) V13) ∧
          ((!b3) = false → CSpec Tryz.prog n_integer_Parse #[(.string s2)] V13 fun v13 V14 =>
           ∃ i22 : R2, ∃ n23 : Int, v13 = (.tuple #[(R2.v i22), (.int .i64 n23)]) ∧
           ∀ m24 : Nat, (((!(n23 == (0 : Int))) = true → R (.tuple #[(R4.v zr), (.int .i64 (3 : Int))]) V14) ∧
           ((!(n23 == (0 : Int))) = false → CSpec Tryz.prog n_rational_one #[] V14 fun v14 V15 =>
            ∃ i25 : R2, v14 = (R2.v i25) ∧
            CSpec Tryz.prog n_integer_Compare #[(R2.v i22), (R2.v i25)] V15 fun v15 V16 =>
            ∃ n26 : Int, v15 = (.int .i64 n26) ∧
            (((n26 == (0 : Int)) = true → R (.tuple #[(R4.v zr), (.int .i64 (3 : Int))]) V16) ∧
            ((n26 == (0 : Int)) = false → CSpec Tryz.prog n_integer_Gcd #[(R2.v i19), (R2.v i22)] V16 fun v16 V17 =>
             ∃ i27 : R2, v16 = (R2.v i27) ∧
             CSpec Tryz.prog n_rational_one #[] V17 fun v17 V18 =>
             ∃ i28 : R2, v17 = (R2.v i28) ∧
             CSpec Tryz.prog n_integer_Compare #[(R2.v i27), (R2.v i28)] V18 fun v18 V19 =>
             ∃ n29 : Int, v18 = (.int .i64 n29) ∧
             (((!(n29 == (0 : Int))) = true → R (.tuple #[(R4.v zr), (.int .i64 (3 : Int))]) V19) ∧
             ((!(n29 == (0 : Int))) = false → R (.tuple #[(.agg #[(.bool i19.n), (.slice i19.A i19.l.length i19.c), (.bool i22.n), (.slice i22.A i22.l.length i22.c)]), (.int .i64 (0 : Int))]) V19))))))))))))))) ∧
      (b3 = false → ((b3 = true → CSpec Tryz.prog n_strings_Trim #[(.string s2), (.string (⟨#[48]⟩ : ByteArray))] V3 fun v19 V20 =>
        ∃ s30 : ByteArray, v19 = (.string s30) ∧
        ((((s30).toList == ((⟨#[]⟩ : ByteArray)).toList) = true → R (.tuple #[(R4.v zr), (.int .i64 (19 : Int))]) V20) ∧
        (((s30).toList == ((⟨#[]⟩ : ByteArray)).toList) = false → CSpec Tryz.prog n_integer_Parse #[(.string s1)] V20 fun v20 V21 =>
         ∃ i31 : R2, ∃ n32 : Int, v20 = (.tuple #[(R2.v i31), (.int .i64 n32)]) ∧
         ∀ m33 : Nat, (((!(n32 == (0 : Int))) = true → R (.tuple #[(R4.v zr), (.int .i64 (3 : Int))]) V21) ∧
         ((!(n32 == (0 : Int))) = false → (((!b3) = true → R (.tuple #[(.agg #[(.bool i31.n), (.slice i31.A i31.l.length i31.c), (.bool false), (.slice none 0 0)]), (.int .i64 (0 : Int))]) V21) ∧
          ((!b3) = false → CSpec Tryz.prog n_integer_Parse #[(.string s2)] V21 fun v21 V22 =>
           ∃ i34 : R2, ∃ n35 : Int, v21 = (.tuple #[(R2.v i34), (.int .i64 n35)]) ∧
           ∀ m36 : Nat, (((!(n35 == (0 : Int))) = true → R (.tuple #[(R4.v zr), (.int .i64 (3 : Int))]) V22) ∧
           ((!(n35 == (0 : Int))) = false → CSpec Tryz.prog n_rational_one #[] V22 fun v22 V23 =>
            ∃ i37 : R2, v22 = (R2.v i37) ∧
            CSpec Tryz.prog n_integer_Compare #[(R2.v i34), (R2.v i37)] V23 fun v23 V24 =>
            ∃ n38 : Int, v23 = (.int .i64 n38) ∧
            (((n38 == (0 : Int)) = true → R (.tuple #[(R4.v zr), (.int .i64 (3 : Int))]) V24) ∧
            ((n38 == (0 : Int)) = false → CSpec Tryz.prog n_integer_Gcd #[(R2.v i31), (R2.v i34)] V24 fun v24 V25 =>
             ∃ i39 : R2, v24 = (R2.v i39) ∧
             CSpec Tryz.prog n_rational_one #[] V25 fun v25 V26 =>
             ∃ i40 : R2, v25 = (R2.v i40) ∧
             CSpec Tryz.prog n_integer_Compare #[(R2.v i39), (R2.v i40)] V26 fun v26 V27 =>
             ∃ n41 : Int, v26 = (.int .i64 n41) ∧
             (((!(n41 == (0 : Int))) = true → R (.tuple #[(R4.v zr), (.int .i64 (3 : Int))]) V27) ∧
             ((!(n41 == (0 : Int))) = false → R (.tuple #[(.agg #[(.bool i31.n), (.slice i31.A i31.l.length i31.c), (.bool i34.n), (.slice i34.A i34.l.length i34.c)]), (.int .i64 (0 : Int))]) V27))))))))))))) ∧
       (b3 = false → CSpec Tryz.prog n_integer_Parse #[(.string s1)] V3 fun v27 V28 =>
        ∃ i42 : R2, ∃ n43 : Int, v27 = (.tuple #[(R2.v i42), (.int .i64 n43)]) ∧
        ∀ m44 : Nat, (((!(n43 == (0 : Int))) = true → R (.tuple #[(R4.v zr), (.int .i64 (3 : Int))]) V28) ∧
        ((!(n43 == (0 : Int))) = false → (((!b3) = true → R (.tuple #[(.agg #[(.bool i42.n), (.slice i42.A i42.l.length i42.c), (.bool false), (.slice none 0 0)]), (.int .i64 (0 : Int))]) V28) ∧
         ((!b3) = false → CSpec Tryz.prog n_integer_Parse #[(.string s2)] V28 fun v28 V29 =>
          ∃ i45 : R2, ∃ n46 : Int, v28 = (.tuple #[(R2.v i45), (.int .i64 n46)]) ∧
          ∀ m47 : Nat, (((!(n46 == (0 : Int))) = true → R (.tuple #[(R4.v zr), (.int .i64 (3 : Int))]) V29) ∧
          ((!(n46 == (0 : Int))) = false → CSpec Tryz.prog n_rational_one #[] V29 fun v29 V30 =>
           ∃ i48 : R2, v29 = (R2.v i48) ∧
           CSpec Tryz.prog n_integer_Compare #[(R2.v i45), (R2.v i48)] V30 fun v30 V31 =>
           ∃ n49 : Int, v30 = (.int .i64 n49) ∧
           (((n49 == (0 : Int)) = true → R (.tuple #[(R4.v zr), (.int .i64 (3 : Int))]) V31) ∧
           ((n49 == (0 : Int)) = false → CSpec Tryz.prog n_integer_Gcd #[(R2.v i42), (R2.v i45)] V31 fun v31 V32 =>
            ∃ i50 : R2, v31 = (R2.v i50) ∧
            CSpec Tryz.prog n_rational_one #[] V32 fun v32 V33 =>
            ∃ i51 : R2, v32 = (R2.v i51) ∧
            CSpec Tryz.prog n_integer_Compare #[(R2.v i50), (R2.v i51)] V33 fun v33 V34 =>
            ∃ n52 : Int, v33 = (.int .i64 n52) ∧
            (((!(n52 == (0 : Int))) = true → R (.tuple #[(R4.v zr), (.int .i64 (3 : Int))]) V34) ∧
            ((!(n52 == (0 : Int))) = false → R (.tuple #[(.agg #[(.bool i42.n), (.slice i42.A i42.l.length i42.c), (.bool i45.n), (.slice i45.A i45.l.length i45.c)]), (.int .i64 (0 : Int))]) V34))))))))))))))))))) :
    CSpec Tryz.prog n_rational_read #[(.string p0_0), (.int .i64 p1_0)] V0 R :=
  enter (l := calTryz) (bor := borTryz) (own := ownTryz) (giv := givTryz) (grw := false) calOkTryz mixTryz Tryz.func81 (args := [.one (.str (.var (OV.str p0_0))), .one (.int .i64 (.var (OV.int .i64 p1_0)))]) (fuel := 3000) (hh := []) (by kernel_rfl) (Eq.mpr (by kernel_rfl) h)
-- dowel/rational.Read
theorem E_rational_Read (p0_0 : ByteArray) (V0 : VH) (R : Value → VH → Prop)
    (h : ∀ m0 : Nat, CSpec Tryz.prog n_rational_read #[(.string p0_0), (.int .i64 (65536 : Int))] V0 fun v0 V1 =>
    ∃ r1 : R4, ∃ n2 : Int, v0 = (.tuple #[(R4.v r1), (.int .i64 n2)]) ∧
    R (.tuple #[(R4.v r1), (.int .i64 n2)]) V1) :
    CSpec Tryz.prog n_rational_Read #[(.string p0_0)] V0 R :=
  enter (l := calTryz) (bor := borTryz) (own := ownTryz) (giv := givTryz) (grw := false) calOkTryz mixTryz Tryz.func15 (args := [.one (.str (.var (OV.str p0_0)))]) (fuel := 3000) (hh := []) (by kernel_rfl) (Eq.mpr (by kernel_rfl) h)
-- dowel/rational.Parse
theorem E_rational_Parse (p0_0 : ByteArray) (V0 : VH) (R : Value → VH → Prop)
    (h : ∀ m0 : Nat, CSpec Tryz.prog n_rational_read #[(.string p0_0), (.int .i64 (400 : Int))] V0 fun v0 V1 =>
    ∃ r1 : R4, ∃ n2 : Int, v0 = (.tuple #[(R4.v r1), (.int .i64 n2)]) ∧
    R (.tuple #[(R4.v r1), (.int .i64 n2)]) V1) :
    CSpec Tryz.prog n_rational_Parse #[(.string p0_0)] V0 R :=
  enter (l := calTryz) (bor := borTryz) (own := ownTryz) (giv := givTryz) (grw := false) calOkTryz mixTryz Tryz.func140 (args := [.one (.str (.var (OV.str p0_0)))]) (fuel := 3000) (hh := []) (by kernel_rfl) (Eq.mpr (by kernel_rfl) h)
end Go.Proofs.YtpcigcogcgpldaaGreatDoor
