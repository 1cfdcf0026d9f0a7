/- A text of this claim's own: SD.GText. -/
import Derived.Test.YtpcigcogcgpldaaGreatDoorSDNames
set_option linter.unusedVariables false
set_option linter.unusedSimpArgs false
set_option linter.unusedVariables false
set_option maxRecDepth 100000
set_option maxHeartbeats 4000000
namespace Go.Proofs.YtpcigcogcgpldaaGreatDoor
open Go Go.Dx
-- (dowel/integer.Int).Text
theorem E_integer_Int_Text (p0_0 : R2) (V0 : VH) (R : Value → VH → Prop)
    (h : ∀ m0 : Nat, (isSlV (.slice p0_0.A p0_0.l.length p0_0.c)) = true ∧
    ((((p0_0.l.length : Int) == (0 : Int)) = true → R (.string (⟨#[48]⟩ : ByteArray)) V0) ∧
    (((p0_0.l.length : Int) == (0 : Int)) = false → ∃ (I1 : List OV → VH → Prop) (μ1 : List OV → Nat), I1 [p0_0.b, (OV.gs [])] V0 ∧
     ∀ V1 : VH, V0.le V1 → ∀ x2 : OV, ((true = true → (I1 [x2, (OV.gs [])] V1 →
       (isSlV x2.v) = true ∧
       (((decide ((0 : Int) < (lenV x2.v))) = true → CSpec Tryz.prog n_integer_short #[x2.v, (.int .u32 (1000000000 : Int))] V1 fun v1 V2 =>
        ∃ (A4 : Option Addr) (c4 : Nat) (l4 : List Int), ∃ n5 : Int, v1 = (.tuple #[(.slice A4 l4.length c4), (.int .u32 n5)]) ∧
        CSpec Tryz.prog n_strconv_Itoa #[(.int .i64 (IntKind.wrap .i64 n5))] V2 fun v2 V3 =>
        ∃ s6 : ByteArray, v2 = (.string s6) ∧
        (isSlV (.slice A4 l4.length c4)) = true ∧
        (((decide ((0 : Int) < (l4.length : Int))) = true → CSpec Tryz.prog n_strings_Repeat #[(.string (⟨#[48]⟩ : ByteArray)), (.int .i64 (IntKind.wrap .i64 ((9 : Int) - ((s6).size : Int))))] V3 fun v3 V4 =>
         ∃ s7 : ByteArray, v3 = (.string s7) ∧
         (decide ((((s7).size : Int) + ((s6).size : Int)) ≤ (9223372036854775807 : Int))) = true ∧
         ∀ m8 : Nat, ∀ (m4g : Nat) (tl4g : List Value), GOk 1 ([] ++ [(.string (s7 ++ s6))]) tl4g →
         ((glen 1 ([] ++ [(.string (s7 ++ s6))])) == (glen 1 ([] ++ [(.string (s7 ++ s6))]))) = true ∧
         ((gtot 1 ([] ++ [(.string (s7 ++ s6))]) tl4g) == (gtot 1 ([] ++ [(.string (s7 ++ s6))]) tl4g)) = true ∧
         (decide (GOk 1 ([] ++ [(.string (s7 ++ s6))]) tl4g)) = true ∧
         (I1 [(OV.sl A4 c4 l4), (OV.gs ([] ++ [(.string (s7 ++ s6))]))] V4 ∧ μ1 [(OV.sl A4 c4 l4), (OV.gs ([] ++ [(.string (s7 ++ s6))]))] < μ1 [x2, (OV.gs [])])) ∧
        ((decide ((0 : Int) < (l4.length : Int))) = false → ∀ m9 : Nat, ∀ (m5g : Nat) (tl5g : List Value), GOk 1 ([] ++ [(.string s6)]) tl5g →
         ((glen 1 ([] ++ [(.string s6)])) == (glen 1 ([] ++ [(.string s6)]))) = true ∧
         ((gtot 1 ([] ++ [(.string s6)]) tl5g) == (gtot 1 ([] ++ [(.string s6)]) tl5g)) = true ∧
         (decide (GOk 1 ([] ++ [(.string s6)]) tl5g)) = true ∧
         (I1 [(OV.sl A4 c4 l4), (OV.gs ([] ++ [(.string s6)]))] V3 ∧ μ1 [(OV.sl A4 c4 l4), (OV.gs ([] ++ [(.string s6)]))] < μ1 [x2, (OV.gs [])])))) ∧
       ((decide ((0 : Int) < (lenV x2.v))) = false → False /- FAIL_borrow -/)))) ∧
      ∀ (m3h : Nat) (cs3 tl3 : List Value), GOk 1 cs3 tl3 → (I1 [x2, (OV.gs cs3)] V1 →
       (isSlV x2.v) = true ∧
       (((decide ((0 : Int) < (lenV x2.v))) = true → CSpec Tryz.prog n_integer_short #[x2.v, (.int .u32 (1000000000 : Int))] V1 fun v6 V7 =>
        ∃ (A10 : Option Addr) (c10 : Nat) (l10 : List Int), ∃ n11 : Int, v6 = (.tuple #[(.slice A10 l10.length c10), (.int .u32 n11)]) ∧
        CSpec Tryz.prog n_strconv_Itoa #[(.int .i64 (IntKind.wrap .i64 n11))] V7 fun v7 V8 =>
        ∃ s12 : ByteArray, v7 = (.string s12) ∧
        (isSlV (.slice A10 l10.length c10)) = true ∧
        (((decide ((0 : Int) < (l10.length : Int))) = true → CSpec Tryz.prog n_strings_Repeat #[(.string (⟨#[48]⟩ : ByteArray)), (.int .i64 (IntKind.wrap .i64 ((9 : Int) - ((s12).size : Int))))] V8 fun v8 V9 =>
         ∃ s13 : ByteArray, v8 = (.string s13) ∧
         (decide ((((s13).size : Int) + ((s12).size : Int)) ≤ (9223372036854775807 : Int))) = true ∧
         ∀ m14 : Nat, ((glen 1 cs3) == (glen 1 cs3)) = true ∧
         ((gtot 1 cs3 tl3) == (gtot 1 cs3 tl3)) = true ∧
         (decide (GOk 1 cs3 tl3)) = true ∧
         (decide ((0 : Int) < ((glen 1 cs3) + (1 : Int)))) = true ∧
         (decide (((glen 1 cs3) + (1 : Int)) ≤ (1099511627776 : Int))) = true ∧
         ∀ (m9g : Nat) (tl9g : List Value), GOk 1 (cs3 ++ [(.string (s13 ++ s12))]) tl9g →
         ((glen 1 (cs3 ++ [(.string (s13 ++ s12))])) == (glen 1 (cs3 ++ [(.string (s13 ++ s12))]))) = true ∧
         ((gtot 1 (cs3 ++ [(.string (s13 ++ s12))]) tl9g) == (gtot 1 (cs3 ++ [(.string (s13 ++ s12))]) tl9g)) = true ∧
         (decide (GOk 1 (cs3 ++ [(.string (s13 ++ s12))]) tl9g)) = true ∧
         (I1 [(OV.sl A10 c10 l10), (OV.gs (cs3 ++ [(.string (s13 ++ s12))]))] V9 ∧ μ1 [(OV.sl A10 c10 l10), (OV.gs (cs3 ++ [(.string (s13 ++ s12))]))] < μ1 [x2, (OV.gs cs3)])) ∧
        ((decide ((0 : Int) < (l10.length : Int))) = false → ∀ m15 : Nat, ((glen 1 cs3) == (glen 1 cs3)) = true ∧
         ((gtot 1 cs3 tl3) == (gtot 1 cs3 tl3)) = true ∧
         (decide (GOk 1 cs3 tl3)) = true ∧
         (decide ((0 : Int) < ((glen 1 cs3) + (1 : Int)))) = true ∧
         (decide (((glen 1 cs3) + (1 : Int)) ≤ (1099511627776 : Int))) = true ∧
         ∀ (m10g : Nat) (tl10g : List Value), GOk 1 (cs3 ++ [(.string s12)]) tl10g →
         ((glen 1 (cs3 ++ [(.string s12)])) == (glen 1 (cs3 ++ [(.string s12)]))) = true ∧
         ((gtot 1 (cs3 ++ [(.string s12)]) tl10g) == (gtot 1 (cs3 ++ [(.string s12)]) tl10g)) = true ∧
         (decide (GOk 1 (cs3 ++ [(.string s12)]) tl10g)) = true ∧
         (I1 [(OV.sl A10 c10 l10), (OV.gs (cs3 ++ [(.string s12)]))] V8 ∧ μ1 [(OV.sl A10 c10 l10), (OV.gs (cs3 ++ [(.string s12)]))] < μ1 [x2, (OV.gs cs3)])))) ∧
       ((decide ((0 : Int) < (lenV x2.v))) = false → CSpecG Tryz.prog n_slices_Reverse_string_string #[(.slice (some ⟨m3h, Int.toNat (0 : Int), none⟩) (Int.toNat (glen 1 cs3)) (Int.toNat (gtot 1 cs3 tl3)))] V1 m3h 9 (cs3 ++ tl3) fun v11 V12 L11 =>
        ∃ cs11l : List Value, L11 = cs11l ++ tl3 ∧ cs11l.length = cs3.length ∧
        v11 = (.tuple #[]) ∧
        (V12.f m3h = none →
        CSpec Tryz.prog n_strings_Join #[(.slice (some ⟨m3h, Int.toNat (0 : Int), none⟩) (Int.toNat (glen 1 cs3)) (Int.toNat (gtot 1 cs3 tl3))), (.string (⟨#[]⟩ : ByteArray))] (V12.put m3h (.cells (List.toArray (cs11l ++ tl3)) 9)) fun v12 V13 =>
        ∃ s16 : ByteArray, v12 = (.string s16) ∧
        ((p0_0.n = true → (decide (((1 : Int) + ((s16).size : Int)) ≤ (9223372036854775807 : Int))) = true ∧
         R (.string ((⟨#[45]⟩ : ByteArray) ++ s16)) V13) ∧
        (p0_0.n = false → R (.string s16) V13)))))))))) :
    CSpec Tryz.prog n_integer_Int_Text #[(R2.v p0_0)] V0 R :=
  enter (l := calTryz) (bor := borTryz) (own := ownTryz) (giv := givTryz) (grw := true) calOkTryz mixTryz Tryz.func124 (args := [.agg [.bool (.var p0_0.a), .val p0_0.b]]) (fuel := 3000) (hh := [.own []]) (by kernel_rfl) (Eq.mpr (by kernel_rfl) h)
-- (dowel/rational.Rat).Number
theorem E_rational_Rat_Number (p0_0 : R4) (V0 : VH) (R : Value → VH → Prop)
    (h : ∀ m0 : Nat, CSpec Tryz.prog n_rational_Rat_whole #[(R4.v p0_0)] V0 fun v0 V1 =>
    ∃ b1 : Bool, v0 = (.bool b1) ∧
    ((b1 = true → CSpec Tryz.prog n_integer_Int_Text #[(R2.v p0_0.x)] V1 fun v1 V2 =>
     ∃ s2 : ByteArray, v1 = (.string s2) ∧
     R (.string s2) V2) ∧
    (b1 = false → CSpec Tryz.prog n_integer_Int_Text #[(R2.v p0_0.x)] V1 fun v2 V3 =>
     ∃ s3 : ByteArray, v2 = (.string s3) ∧
     (decide ((((s3).size : Int) + (1 : Int)) ≤ (9223372036854775807 : Int))) = true ∧
     CSpec Tryz.prog n_integer_Int_Text #[(R2.v p0_0.y)] V3 fun v3 V4 =>
     ∃ s4 : ByteArray, v3 = (.string s4) ∧
     (decide (((((s3 ++ (⟨#[47]⟩ : ByteArray))).size : Int) + ((s4).size : Int)) ≤ (9223372036854775807 : Int))) = true ∧
     R (.string ((s3 ++ (⟨#[47]⟩ : ByteArray)) ++ s4)) V4))) :
    CSpec Tryz.prog n_rational_Rat_Number #[(R4.v p0_0)] V0 R :=
  enter (l := calTryz) (bor := borTryz) (own := ownTryz) (giv := givTryz) (grw := false) calOkTryz mixTryz Tryz.func80 (args := [.agg [.bool (.var p0_0.x.a), .val p0_0.x.b, .bool (.var p0_0.y.a), .val p0_0.y.b]]) (fuel := 3000) (hh := []) (by kernel_rfl) (Eq.mpr (by kernel_rfl) h)
end Go.Proofs.YtpcigcogcgpldaaGreatDoor
