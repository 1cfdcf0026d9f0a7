/- A text of this claim's own: SD.EInt. -/
import Derived.Test.YtpcigcogcgpldaaGreatDoorSDNames
set_option linter.unusedVariables false
set_option linter.unusedSimpArgs false
set_option linter.unusedVariables false
set_option maxRecDepth 100000
namespace Go.Proofs.YtpcigcogcgpldaaGreatDoor
open Go Go.Dx
-- dowel/integer.trim
theorem E_integer_trim (Ap0_0 : Option Addr) (cp0_0 : Nat) (lp0_0 : List Int) (V0 : VH) (R : Value → VH → Prop)
    (h : ∃ (I0 : List OV → VH → Prop) (μ0 : List OV → Nat), I0 [(OV.sl Ap0_0 cp0_0 lp0_0)] V0 ∧
    ∀ V1 : VH, V0.le V1 → ∀ x1 : OV, (I0 [x1] V1 →
     (isSlV x1.v) = true ∧
     (((decide ((0 : Int) < (lenV x1.v))) = true → (isSlV x1.v) = true ∧
      (hasBV x1.v) = true ∧
      (decide ((0 : Int) ≤ (IntKind.wrap .i64 ((lenV x1.v) - (1 : Int))))) = true ∧
      (decide ((IntKind.wrap .i64 ((lenV x1.v) - (1 : Int))) < (lenV x1.v))) = true ∧
      RdV V1 .u32 x1 ∧
      (decide ((0 : Int) ≤ (IntKind.wrap .i64 ((lenV x1.v) - (1 : Int))))) = true ∧
      (decide ((IntKind.wrap .i64 ((lenV x1.v) - (1 : Int))) < ((List.length x1.l) : Int))) = true ∧
      ((((List.getD x1.l (Int.toNat (IntKind.wrap .i64 ((lenV x1.v) - (1 : Int)))) 0) == (0 : Int)) = true → (isSlV x1.v) = true ∧
       (isSlV x1.v) = true ∧
       (decide ((0 : Int) ≤ (IntKind.wrap .i64 ((lenV x1.v) - (1 : Int))))) = true ∧
       (decide ((IntKind.wrap .i64 ((lenV x1.v) - (1 : Int))) ≤ (capV x1.v))) = true ∧
       (I0 [(cutOV x1 (IntKind.wrap .i64 ((lenV x1.v) - (1 : Int))))] V1 ∧ μ0 [(cutOV x1 (IntKind.wrap .i64 ((lenV x1.v) - (1 : Int))))] < μ0 [x1])) ∧
      (((List.getD x1.l (Int.toNat (IntKind.wrap .i64 ((lenV x1.v) - (1 : Int)))) 0) == (0 : Int)) = false → R x1.v V1))) ∧
     ((decide ((0 : Int) < (lenV x1.v))) = false → R x1.v V1)))) :
    CSpec Tryz.prog n_integer_trim #[(.slice Ap0_0 lp0_0.length cp0_0)] V0 R :=
  enter (l := calTryz) (bor := borTryz) (own := ownTryz) (giv := givTryz) (grw := false) calOkTryz mixTryz Tryz.func194 (args := [.one (.val (OV.sl Ap0_0 cp0_0 lp0_0))]) (fuel := 3000) (hh := [.auto]) (by kernel_rfl) (Eq.mpr (by kernel_rfl) h)
-- dowel/integer.signed
theorem E_integer_signed (p0_0 : Bool) (Ap1_0 : Option Addr) (cp1_0 : Nat) (lp1_0 : List Int) (V0 : VH) (R : Value → VH → Prop)
    (h : ∀ m0 : Nat, CSpec Tryz.prog n_integer_trim #[(.slice Ap1_0 lp1_0.length cp1_0)] V0 fun v0 V1 =>
    ∃ (A1 : Option Addr) (c1 : Nat) (l1 : List Int), v0 = (.slice A1 l1.length c1) ∧
    ((p0_0 = true → (isSlV (.slice A1 l1.length c1)) = true ∧
     R (.agg #[(.bool (decide ((0 : Int) < (l1.length : Int)))), (.slice A1 l1.length c1)]) V1) ∧
    (p0_0 = false → R (.agg #[(.bool false), (.slice A1 l1.length c1)]) V1))) :
    CSpec Tryz.prog n_integer_signed #[(.bool p0_0), (.slice Ap1_0 lp1_0.length cp1_0)] V0 R :=
  enter (l := calTryz) (bor := borTryz) (own := ownTryz) (giv := givTryz) (grw := false) calOkTryz mixTryz Tryz.func154 (args := [.one (.bool (.var (OV.bool p0_0))), .one (.val (OV.sl Ap1_0 cp1_0 lp1_0))]) (fuel := 3000) (hh := []) (by kernel_rfl) (Eq.mpr (by kernel_rfl) h)
-- dowel/integer.From
theorem E_integer_From (p0_0 : Int) (V0 : VH) (R : Value → VH → Prop)
    (h : ∀ m0 : Nat, (((decide (p0_0 < (0 : Int))) = true → ∀ m1 : Nat, (V0.f m1 = none →
     CSpec Tryz.prog n_integer_signed #[(.bool (decide (p0_0 < (0 : Int)))), (.slice (some ⟨m1, Int.toNat (0 : Int), none⟩) (Int.toNat (2 : Int)) (Int.toNat (2 : Int)))] (V0.put m1 (.cells #[(.int .u32 (IntKind.wrap .u32 (IntKind.wrap .u64 ((0 : Int) - (IntKind.wrap .u64 p0_0))))), (.int .u32 (IntKind.wrap .u32 (Int.fdiv (IntKind.wrap .u64 ((0 : Int) - (IntKind.wrap .u64 p0_0))) (4294967296 : Int))))] 216)) fun v0 V1 =>
     ∃ i2 : R2, v0 = (.agg #[(.bool i2.n), (.slice i2.A i2.l.length i2.c)]) ∧
     R (.agg #[(.bool i2.n), (.slice i2.A i2.l.length i2.c)]) V1)) ∧
    ((decide (p0_0 < (0 : Int))) = false → ∀ m3 : Nat, (V0.f m3 = none →
     CSpec Tryz.prog n_integer_signed #[(.bool (decide (p0_0 < (0 : Int)))), (.slice (some ⟨m3, Int.toNat (0 : Int), none⟩) (Int.toNat (2 : Int)) (Int.toNat (2 : Int)))] (V0.put m3 (.cells #[(.int .u32 (IntKind.wrap .u32 (IntKind.wrap .u64 p0_0))), (.int .u32 (IntKind.wrap .u32 (Int.fdiv (IntKind.wrap .u64 p0_0) (4294967296 : Int))))] 216)) fun v1 V2 =>
     ∃ i4 : R2, v1 = (.agg #[(.bool i4.n), (.slice i4.A i4.l.length i4.c)]) ∧
     R (.agg #[(.bool i4.n), (.slice i4.A i4.l.length i4.c)]) V2)))) :
    CSpec Tryz.prog n_integer_From #[(.int .i64 p0_0)] V0 R :=
  enter (l := calTryz) (bor := borTryz) (own := ownTryz) (giv := givTryz) (grw := false) calOkTryz mixTryz Tryz.func135 (args := [.one (.int .i64 (.var (OV.int .i64 p0_0)))]) (fuel := 3000) (hh := []) (by kernel_rfl) (Eq.mpr (by kernel_rfl) h)
-- (dowel/integer.Int).Sign
theorem E_integer_Int_Sign (p0_0 : R2) (V0 : VH) (R : Value → VH → Prop)
    (h : ∀ m0 : Nat, (isSlV (.slice p0_0.A p0_0.l.length p0_0.c)) = true ∧
    ((((p0_0.l.length : Int) == (0 : Int)) = true → R (.int .i64 (0 : Int)) V0) ∧
    (((p0_0.l.length : Int) == (0 : Int)) = false → ((p0_0.n = true → R (.int .i64 (-1 : Int)) V0) ∧
     (p0_0.n = false → R (.int .i64 (1 : Int)) V0))))) :
    CSpec Tryz.prog n_integer_Int_Sign #[(.agg #[(.bool p0_0.n), (.slice p0_0.A p0_0.l.length p0_0.c)])] V0 R :=
  enter (l := calTryz) (bor := borTryz) (own := ownTryz) (giv := givTryz) (grw := false) calOkTryz mixTryz Tryz.func151 (args := [.agg [.bool (.var p0_0.a), .val p0_0.b]]) (fuel := 3000) (hh := []) (by kernel_rfl) (Eq.mpr (by kernel_rfl) h)
-- dowel/rational.one
theorem E_rational_one  (V0 : VH) (R : Value → VH → Prop)
    (h : ∀ m0 : Nat, CSpec Tryz.prog n_integer_From #[(.int .i64 (1 : Int))] V0 fun v0 V1 =>
    ∃ i1 : R2, v0 = (.agg #[(.bool i1.n), (.slice i1.A i1.l.length i1.c)]) ∧
    R (.agg #[(.bool i1.n), (.slice i1.A i1.l.length i1.c)]) V1) :
    CSpec Tryz.prog n_rational_one #[] V0 R :=
  enter (l := calTryz) (bor := borTryz) (own := ownTryz) (giv := givTryz) (grw := false) calOkTryz mixTryz Tryz.func130 (args := []) (fuel := 3000) (hh := []) (by kernel_rfl) (Eq.mpr (by kernel_rfl) h)
-- dowel/integer.Neg
theorem E_integer_Neg (p0_0 : R2) (V0 : VH) (R : Value → VH → Prop)
    (h : ∀ m0 : Nat, ∀ m1 : Nat, (((!p0_0.n) = true → (isSlV (.slice p0_0.A p0_0.l.length p0_0.c)) = true ∧
     R (.agg #[(.bool (decide ((0 : Int) < (p0_0.l.length : Int)))), (.slice p0_0.A p0_0.l.length p0_0.c)]) V0) ∧
    ((!p0_0.n) = false → R (.agg #[(.bool false), (.slice p0_0.A p0_0.l.length p0_0.c)]) V0))) :
    CSpec Tryz.prog n_integer_Neg #[(.agg #[(.bool p0_0.n), (.slice p0_0.A p0_0.l.length p0_0.c)])] V0 R :=
  enter (l := calTryz) (bor := borTryz) (own := ownTryz) (giv := givTryz) (grw := false) calOkTryz mixTryz Tryz.func180 (args := [.agg [.bool (.var p0_0.a), .val p0_0.b]]) (fuel := 3000) (hh := []) (by kernel_rfl) (Eq.mpr (by kernel_rfl) h)
-- dowel/integer.order
theorem E_integer_order (Ap0_0 : Option Addr) (cp0_0 : Nat) (lp0_0 : List Int) (Ap1_0 : Option Addr) (cp1_0 : Nat) (lp1_0 : List Int) (V0 : VH) (R : Value → VH → Prop)
    (h : (isSlV (.slice Ap0_0 lp0_0.length cp0_0)) = true ∧
    (isSlV (.slice Ap1_0 lp1_0.length cp1_0)) = true ∧
    (((!((lp0_0.length : Int) == (lp1_0.length : Int))) = true → (isSlV (.slice Ap0_0 lp0_0.length cp0_0)) = true ∧
     (isSlV (.slice Ap1_0 lp1_0.length cp1_0)) = true ∧
     (((decide ((lp0_0.length : Int) < (lp1_0.length : Int))) = true → R (.int .i64 (-1 : Int)) V0) ∧
     ((decide ((lp0_0.length : Int) < (lp1_0.length : Int))) = false → R (.int .i64 (1 : Int)) V0))) ∧
    ((!((lp0_0.length : Int) == (lp1_0.length : Int))) = false → (isSlV (.slice Ap0_0 lp0_0.length cp0_0)) = true ∧
     ∃ (I0 : List OV → VH → Prop) (μ0 : List OV → Nat), I0 [(OV.int .i64 (0 : Int)), (OV.int .i64 (IntKind.wrap .i64 ((lp0_0.length : Int) - (1 : Int))))] V0 ∧
     ∀ V1 : VH, V0.le V1 → ∀ n1 : Int, ∀ n2 : Int, (I0 [(OV.int .i64 n1), (OV.int .i64 n2)] V1 →
      (((decide ((0 : Int) ≤ n2)) = true → (hasBV (.slice Ap0_0 lp0_0.length cp0_0)) = true ∧
       (decide ((0 : Int) ≤ n2)) = true ∧
       (decide (n2 < (lp0_0.length : Int))) = true ∧
       RdV V1 .u32 (OV.sl Ap0_0 cp0_0 lp0_0) ∧
       (decide ((0 : Int) ≤ n2)) = true ∧
       (decide (n2 < ((List.length lp0_0) : Int))) = true ∧
       (hasBV (.slice Ap1_0 lp1_0.length cp1_0)) = true ∧
       (decide ((0 : Int) ≤ n2)) = true ∧
       (decide (n2 < (lp1_0.length : Int))) = true ∧
       RdV V1 .u32 (OV.sl Ap1_0 cp1_0 lp1_0) ∧
       (decide ((0 : Int) ≤ n2)) = true ∧
       (decide (n2 < ((List.length lp1_0) : Int))) = true ∧
       (((!((List.getD lp0_0 (Int.toNat n2) 0) == (List.getD lp1_0 (Int.toNat n2) 0))) = true → (hasBV (.slice Ap0_0 lp0_0.length cp0_0)) = true ∧
        (decide ((0 : Int) ≤ n2)) = true ∧
        (decide (n2 < (lp0_0.length : Int))) = true ∧
        RdV V1 .u32 (OV.sl Ap0_0 cp0_0 lp0_0) ∧
        (decide ((0 : Int) ≤ n2)) = true ∧
        (decide (n2 < ((List.length lp0_0) : Int))) = true ∧
        (hasBV (.slice Ap1_0 lp1_0.length cp1_0)) = true ∧
        (decide ((0 : Int) ≤ n2)) = true ∧
        (decide (n2 < (lp1_0.length : Int))) = true ∧
        RdV V1 .u32 (OV.sl Ap1_0 cp1_0 lp1_0) ∧
        (decide ((0 : Int) ≤ n2)) = true ∧
        (decide (n2 < ((List.length lp1_0) : Int))) = true ∧
        (((decide ((List.getD lp0_0 (Int.toNat n2) 0) < (List.getD lp1_0 (Int.toNat n2) 0))) = true → R (.int .i64 (-1 : Int)) V1) ∧
        ((decide ((List.getD lp0_0 (Int.toNat n2) 0) < (List.getD lp1_0 (Int.toNat n2) 0))) = false → R (.int .i64 (1 : Int)) V1))) ∧
       ((!((List.getD lp0_0 (Int.toNat n2) 0) == (List.getD lp1_0 (Int.toNat n2) 0))) = false → (I0 [(OV.int .i64 n1), (OV.int .i64 (IntKind.wrap .i64 (n2 - (1 : Int))))] V1 ∧ μ0 [(OV.int .i64 n1), (OV.int .i64 (IntKind.wrap .i64 (n2 - (1 : Int))))] < μ0 [(OV.int .i64 n1), (OV.int .i64 n2)])))) ∧
      ((decide ((0 : Int) ≤ n2)) = false → R (.int .i64 (0 : Int)) V1)))))) :
    CSpec Tryz.prog n_integer_order #[(.slice Ap0_0 lp0_0.length cp0_0), (.slice Ap1_0 lp1_0.length cp1_0)] V0 R :=
  enter (l := calTryz) (bor := borTryz) (own := ownTryz) (giv := givTryz) (grw := false) calOkTryz mixTryz Tryz.func153 (args := [.one (.val (OV.sl Ap0_0 cp0_0 lp0_0)), .one (.val (OV.sl Ap1_0 cp1_0 lp1_0))]) (fuel := 3000) (hh := [.auto]) (by kernel_rfl) (Eq.mpr (by kernel_rfl) h)
-- dowel/integer.Compare
theorem E_integer_Compare (p0_0 : R2) (p1_0 : R2) (V0 : VH) (R : Value → VH → Prop)
    (h : ∀ m0 : Nat, ∀ m1 : Nat, (((!(p0_0.n == p1_0.n)) = true → ((p0_0.n = true → R (.int .i64 (-1 : Int)) V0) ∧
     (p0_0.n = false → R (.int .i64 (1 : Int)) V0))) ∧
    ((!(p0_0.n == p1_0.n)) = false → ((p0_0.n = true → CSpec Tryz.prog n_integer_order #[(.slice p1_0.A p1_0.l.length p1_0.c), (.slice p0_0.A p0_0.l.length p0_0.c)] V0 fun v0 V1 =>
      ∃ n2 : Int, v0 = (.int .i64 n2) ∧
      R (.int .i64 n2) V1) ∧
     (p0_0.n = false → CSpec Tryz.prog n_integer_order #[(.slice p0_0.A p0_0.l.length p0_0.c), (.slice p1_0.A p1_0.l.length p1_0.c)] V0 fun v1 V2 =>
      ∃ n3 : Int, v1 = (.int .i64 n3) ∧
      R (.int .i64 n3) V2))))) :
    CSpec Tryz.prog n_integer_Compare #[(.agg #[(.bool p0_0.n), (.slice p0_0.A p0_0.l.length p0_0.c)]), (.agg #[(.bool p1_0.n), (.slice p1_0.A p1_0.l.length p1_0.c)])] V0 R :=
  enter (l := calTryz) (bor := borTryz) (own := ownTryz) (giv := givTryz) (grw := false) calOkTryz mixTryz Tryz.func114 (args := [.agg [.bool (.var p0_0.a), .val p0_0.b], .agg [.bool (.var p1_0.a), .val p1_0.b]]) (fuel := 3000) (hh := []) (by kernel_rfl) (Eq.mpr (by kernel_rfl) h)
-- dowel/integer.plus
theorem E_integer_plus (Ap0_0 : Option Addr) (cp0_0 : Nat) (lp0_0 : List Int) (Ap1_0 : Option Addr) (cp1_0 : Nat) (lp1_0 : List Int) (V0 : VH) (R : Value → VH → Prop)
    (h : (isSlV (.slice Ap0_0 lp0_0.length cp0_0)) = true ∧
    (isSlV (.slice Ap1_0 lp1_0.length cp1_0)) = true ∧
    (((decide ((lp0_0.length : Int) < (lp1_0.length : Int))) = true → (isSlV (.slice Ap1_0 lp1_0.length cp1_0)) = true ∧
     (decide ((0 : Int) ≤ (IntKind.wrap .i64 ((lp1_0.length : Int) + (1 : Int))))) = true ∧
     (decide ((IntKind.wrap .i64 ((lp1_0.length : Int) + (1 : Int))) ≤ (1099511627776 : Int))) = true ∧
     ∀ m0 : Nat, (isSlV (.slice Ap1_0 lp1_0.length cp1_0)) = true ∧
     ∃ (I1 : List OV → VH → Prop) (μ1 : List OV → Nat), I1 [(OV.int .u64 (0 : Int)), (OV.int .i64 (0 : Int)), (OV.lst (List.replicate (Int.toNat (IntKind.wrap .i64 ((lp1_0.length : Int) + (1 : Int)))) (0 : Int)))] V0 ∧
     ∀ V1 : VH, V0.le V1 → ∀ n2 : Int, ∀ n3 : Int, ∀ l4 : List Int, (I1 [(OV.int .u64 n2), (OV.int .i64 n3), (OV.lst l4)] V1 →
      (((decide (n3 < (lp1_0.length : Int))) = true → (hasBV (.slice Ap1_0 lp1_0.length cp1_0)) = true ∧
       (decide ((0 : Int) ≤ n3)) = true ∧
       (decide (n3 < (lp1_0.length : Int))) = true ∧
       RdV V1 .u32 (OV.sl Ap1_0 cp1_0 lp1_0) ∧
       (decide ((0 : Int) ≤ n3)) = true ∧
       (decide (n3 < ((List.length lp1_0) : Int))) = true ∧
       (isSlV (.slice Ap0_0 lp0_0.length cp0_0)) = true ∧
       (((decide (n3 < (lp0_0.length : Int))) = true → (hasBV (.slice Ap0_0 lp0_0.length cp0_0)) = true ∧
        (decide ((0 : Int) ≤ n3)) = true ∧
        (decide (n3 < (lp0_0.length : Int))) = true ∧
        RdV V1 .u32 (OV.sl Ap0_0 cp0_0 lp0_0) ∧
        (decide ((0 : Int) ≤ n3)) = true ∧
        (decide (n3 < ((List.length lp0_0) : Int))) = true ∧
        (decide ((0 : Int) ≤ n3)) = true ∧
        (decide (n3 < (IntKind.wrap .i64 ((lp1_0.length : Int) + (1 : Int))))) = true ∧
        (decide ((0 : Int) ≤ n3)) = true ∧
        (decide (n3 < ((List.length l4) : Int))) = true ∧
        (I1 [(OV.int .u64 (Int.fdiv (IntKind.wrap .u64 ((IntKind.wrap .u64 (n2 + (IntKind.wrap .u64 (List.getD lp1_0 (Int.toNat n3) 0)))) + (IntKind.wrap .u64 (List.getD lp0_0 (Int.toNat n3) 0)))) (4294967296 : Int))), (OV.int .i64 (IntKind.wrap .i64 (n3 + (1 : Int)))), (OV.lst (List.set l4 (Int.toNat n3) (IntKind.wrap .u32 (IntKind.wrap .u64 ((IntKind.wrap .u64 (n2 + (IntKind.wrap .u64 (List.getD lp1_0 (Int.toNat n3) 0)))) + (IntKind.wrap .u64 (List.getD lp0_0 (Int.toNat n3) 0)))))))] V1 ∧ μ1 [(OV.int .u64 (Int.fdiv (IntKind.wrap .u64 ((IntKind.wrap .u64 (n2 + (IntKind.wrap .u64 (List.getD lp1_0 (Int.toNat n3) 0)))) + (IntKind.wrap .u64 (List.getD lp0_0 (Int.toNat n3) 0)))) (4294967296 : Int))), (OV.int .i64 (IntKind.wrap .i64 (n3 + (1 : Int)))), (OV.lst (List.set l4 (Int.toNat n3) (IntKind.wrap .u32 (IntKind.wrap .u64 ((IntKind.wrap .u64 (n2 + (IntKind.wrap .u64 (List.getD lp1_0 (Int.toNat n3) 0)))) + (IntKind.wrap .u64 (List.getD lp0_0 (Int.toNat n3) 0)))))))] < μ1 [(OV.int .u64 n2), (OV.int .i64 n3), (OV.lst l4)])) ∧
       ((decide (n3 < (lp0_0.length : Int))) = false → (decide ((0 : Int) ≤ n3)) = true ∧
        (decide (n3 < (IntKind.wrap .i64 ((lp1_0.length : Int) + (1 : Int))))) = true ∧
        (decide ((0 : Int) ≤ n3)) = true ∧
        (decide (n3 < ((List.length l4) : Int))) = true ∧
        (I1 [(OV.int .u64 (Int.fdiv (IntKind.wrap .u64 (n2 + (IntKind.wrap .u64 (List.getD lp1_0 (Int.toNat n3) 0)))) (4294967296 : Int))), (OV.int .i64 (IntKind.wrap .i64 (n3 + (1 : Int)))), (OV.lst (List.set l4 (Int.toNat n3) (IntKind.wrap .u32 (IntKind.wrap .u64 (n2 + (IntKind.wrap .u64 (List.getD lp1_0 (Int.toNat n3) 0)))))))] V1 ∧ μ1 [(OV.int .u64 (Int.fdiv (IntKind.wrap .u64 (n2 + (IntKind.wrap .u64 (List.getD lp1_0 (Int.toNat n3) 0)))) (4294967296 : Int))), (OV.int .i64 (IntKind.wrap .i64 (n3 + (1 : Int)))), (OV.lst (List.set l4 (Int.toNat n3) (IntKind.wrap .u32 (IntKind.wrap .u64 (n2 + (IntKind.wrap .u64 (List.getD lp1_0 (Int.toNat n3) 0)))))))] < μ1 [(OV.int .u64 n2), (OV.int .i64 n3), (OV.lst l4)])))) ∧
      ((decide (n3 < (lp1_0.length : Int))) = false → (isSlV (.slice Ap1_0 lp1_0.length cp1_0)) = true ∧
       (decide ((0 : Int) ≤ (lp1_0.length : Int))) = true ∧
       (decide ((lp1_0.length : Int) < (IntKind.wrap .i64 ((lp1_0.length : Int) + (1 : Int))))) = true ∧
       (decide ((0 : Int) ≤ (lp1_0.length : Int))) = true ∧
       (decide ((lp1_0.length : Int) < ((List.length l4) : Int))) = true ∧
       (V1.f m0 = none →
       R (.slice (some ⟨m0, Int.toNat (0 : Int), none⟩) (Int.toNat (IntKind.wrap .i64 ((lp1_0.length : Int) + (1 : Int)))) (Int.toNat (IntKind.wrap .i64 ((lp1_0.length : Int) + (1 : Int))))) (V1.put m0 (.cells (List.toArray (List.map (Value.int .u32) (List.set l4 (Int.toNat (lp1_0.length : Int)) (IntKind.wrap .u32 n2)))) 216))))))) ∧
    ((decide ((lp0_0.length : Int) < (lp1_0.length : Int))) = false → (isSlV (.slice Ap0_0 lp0_0.length cp0_0)) = true ∧
     (decide ((0 : Int) ≤ (IntKind.wrap .i64 ((lp0_0.length : Int) + (1 : Int))))) = true ∧
     (decide ((IntKind.wrap .i64 ((lp0_0.length : Int) + (1 : Int))) ≤ (1099511627776 : Int))) = true ∧
     ∀ m5 : Nat, (isSlV (.slice Ap0_0 lp0_0.length cp0_0)) = true ∧
     ∃ (I6 : List OV → VH → Prop) (μ6 : List OV → Nat), I6 [(OV.int .u64 (0 : Int)), (OV.int .i64 (0 : Int)), (OV.lst (List.replicate (Int.toNat (IntKind.wrap .i64 ((lp0_0.length : Int) + (1 : Int)))) (0 : Int)))] V0 ∧
     ∀ V2 : VH, V0.le V2 → ∀ n7 : Int, ∀ n8 : Int, ∀ l9 : List Int, (I6 [(OV.int .u64 n7), (OV.int .i64 n8), (OV.lst l9)] V2 →
      (((decide (n8 < (lp0_0.length : Int))) = true → (hasBV (.slice Ap0_0 lp0_0.length cp0_0)) = true ∧
       (decide ((0 : Int) ≤ n8)) = true ∧
       (decide (n8 < (lp0_0.length : Int))) = true ∧
       RdV V2 .u32 (OV.sl Ap0_0 cp0_0 lp0_0) ∧
       (decide ((0 : Int) ≤ n8)) = true ∧
       (decide (n8 < ((List.length lp0_0) : Int))) = true ∧
       (isSlV (.slice Ap1_0 lp1_0.length cp1_0)) = true ∧
       (((decide (n8 < (lp1_0.length : Int))) = true → (hasBV (.slice Ap1_0 lp1_0.length cp1_0)) = true ∧
        (decide ((0 : Int) ≤ n8)) = true ∧
        (decide (n8 < (lp1_0.length : Int))) = true ∧
        RdV V2 .u32 (OV.sl Ap1_0 cp1_0 lp1_0) ∧
        (decide ((0 : Int) ≤ n8)) = true ∧
        (decide (n8 < ((List.length lp1_0) : Int))) = true ∧
        (decide ((0 : Int) ≤ n8)) = true ∧
        (decide (n8 < (IntKind.wrap .i64 ((lp0_0.length : Int) + (1 : Int))))) = true ∧
        (decide ((0 : Int) ≤ n8)) = true ∧
        (decide (n8 < ((List.length l9) : Int))) = true ∧
        (I6 [(OV.int .u64 (Int.fdiv (IntKind.wrap .u64 ((IntKind.wrap .u64 (n7 + (IntKind.wrap .u64 (List.getD lp0_0 (Int.toNat n8) 0)))) + (IntKind.wrap .u64 (List.getD lp1_0 (Int.toNat n8) 0)))) (4294967296 : Int))), (OV.int .i64 (IntKind.wrap .i64 (n8 + (1 : Int)))), (OV.lst (List.set l9 (Int.toNat n8) (IntKind.wrap .u32 (IntKind.wrap .u64 ((IntKind.wrap .u64 (n7 + (IntKind.wrap .u64 (List.getD lp0_0 (Int.toNat n8) 0)))) + (IntKind.wrap .u64 (List.getD lp1_0 (Int.toNat n8) 0)))))))] V2 ∧ μ6 [(OV.int .u64 (Int.fdiv (IntKind.wrap .u64 ((IntKind.wrap .u64 (n7 + (IntKind.wrap .u64 (List.getD lp0_0 (Int.toNat n8) 0)))) + (IntKind.wrap .u64 (List.getD lp1_0 (Int.toNat n8) 0)))) (4294967296 : Int))), (OV.int .i64 (IntKind.wrap .i64 (n8 + (1 : Int)))), (OV.lst (List.set l9 (Int.toNat n8) (IntKind.wrap .u32 (IntKind.wrap .u64 ((IntKind.wrap .u64 (n7 + (IntKind.wrap .u64 (List.getD lp0_0 (Int.toNat n8) 0)))) + (IntKind.wrap .u64 (List.getD lp1_0 (Int.toNat n8) 0)))))))] < μ6 [(OV.int .u64 n7), (OV.int .i64 n8), (OV.lst l9)])) ∧
       ((decide (n8 < (lp1_0.length : Int))) = false → (decide ((0 : Int) ≤ n8)) = true ∧
        (decide (n8 < (IntKind.wrap .i64 ((lp0_0.length : Int) + (1 : Int))))) = true ∧
        (decide ((0 : Int) ≤ n8)) = true ∧
        (decide (n8 < ((List.length l9) : Int))) = true ∧
        (I6 [(OV.int .u64 (Int.fdiv (IntKind.wrap .u64 (n7 + (IntKind.wrap .u64 (List.getD lp0_0 (Int.toNat n8) 0)))) (4294967296 : Int))), (OV.int .i64 (IntKind.wrap .i64 (n8 + (1 : Int)))), (OV.lst (List.set l9 (Int.toNat n8) (IntKind.wrap .u32 (IntKind.wrap .u64 (n7 + (IntKind.wrap .u64 (List.getD lp0_0 (Int.toNat n8) 0)))))))] V2 ∧ μ6 [(OV.int .u64 (Int.fdiv (IntKind.wrap .u64 (n7 + (IntKind.wrap .u64 (List.getD lp0_0 (Int.toNat n8) 0)))) (4294967296 : Int))), (OV.int .i64 (IntKind.wrap .i64 (n8 + (1 : Int)))), (OV.lst (List.set l9 (Int.toNat n8) (IntKind.wrap .u32 (IntKind.wrap .u64 (n7 + (IntKind.wrap .u64 (List.getD lp0_0 (Int.toNat n8) 0)))))))] < μ6 [(OV.int .u64 n7), (OV.int .i64 n8), (OV.lst l9)])))) ∧
      ((decide (n8 < (lp0_0.length : Int))) = false → (isSlV (.slice Ap0_0 lp0_0.length cp0_0)) = true ∧
       (decide ((0 : Int) ≤ (lp0_0.length : Int))) = true ∧
       (decide ((lp0_0.length : Int) < (IntKind.wrap .i64 ((lp0_0.length : Int) + (1 : Int))))) = true ∧
       (decide ((0 : Int) ≤ (lp0_0.length : Int))) = true ∧
       (decide ((lp0_0.length : Int) < ((List.length l9) : Int))) = true ∧
       (V2.f m5 = none →
       R (.slice (some ⟨m5, Int.toNat (0 : Int), none⟩) (Int.toNat (IntKind.wrap .i64 ((lp0_0.length : Int) + (1 : Int)))) (Int.toNat (IntKind.wrap .i64 ((lp0_0.length : Int) + (1 : Int))))) (V2.put m5 (.cells (List.toArray (List.map (Value.int .u32) (List.set l9 (Int.toNat (lp0_0.length : Int)) (IntKind.wrap .u32 n7)))) 216))))))))) :
    CSpec Tryz.prog n_integer_plus #[(.slice Ap0_0 lp0_0.length cp0_0), (.slice Ap1_0 lp1_0.length cp1_0)] V0 R :=
  enter (l := calTryz) (bor := borTryz) (own := ownTryz) (giv := givTryz) (grw := false) calOkTryz mixTryz Tryz.func181 (args := [.one (.val (OV.sl Ap0_0 cp0_0 lp0_0)), .one (.val (OV.sl Ap1_0 cp1_0 lp1_0))]) (fuel := 3000) (hh := [.auto]) (by kernel_rfl) (Eq.mpr (by kernel_rfl) h)
-- dowel/integer.minus
theorem E_integer_minus (Ap0_0 : Option Addr) (cp0_0 : Nat) (lp0_0 : List Int) (Ap1_0 : Option Addr) (cp1_0 : Nat) (lp1_0 : List Int) (V0 : VH) (R : Value → VH → Prop)
    (h : (isSlV (.slice Ap0_0 lp0_0.length cp0_0)) = true ∧
    (decide ((0 : Int) ≤ (lp0_0.length : Int))) = true ∧
    (decide ((lp0_0.length : Int) ≤ (1099511627776 : Int))) = true ∧
    ∀ m0 : Nat, (isSlV (.slice Ap0_0 lp0_0.length cp0_0)) = true ∧
    ∃ (I1 : List OV → VH → Prop) (μ1 : List OV → Nat), I1 [(OV.int .i64 (0 : Int)), (OV.int .i64 (0 : Int)), (OV.lst (List.replicate (Int.toNat (lp0_0.length : Int)) (0 : Int)))] V0 ∧
    ∀ V1 : VH, V0.le V1 → ∀ n2 : Int, ∀ n3 : Int, ∀ l4 : List Int, (I1 [(OV.int .i64 n2), (OV.int .i64 n3), (OV.lst l4)] V1 →
     (((decide (n3 < (lp0_0.length : Int))) = true → (hasBV (.slice Ap0_0 lp0_0.length cp0_0)) = true ∧
      (decide ((0 : Int) ≤ n3)) = true ∧
      (decide (n3 < (lp0_0.length : Int))) = true ∧
      RdV V1 .u32 (OV.sl Ap0_0 cp0_0 lp0_0) ∧
      (decide ((0 : Int) ≤ n3)) = true ∧
      (decide (n3 < ((List.length lp0_0) : Int))) = true ∧
      (isSlV (.slice Ap1_0 lp1_0.length cp1_0)) = true ∧
      (((decide (n3 < (lp1_0.length : Int))) = true → (hasBV (.slice Ap1_0 lp1_0.length cp1_0)) = true ∧
       (decide ((0 : Int) ≤ n3)) = true ∧
       (decide (n3 < (lp1_0.length : Int))) = true ∧
       RdV V1 .u32 (OV.sl Ap1_0 cp1_0 lp1_0) ∧
       (decide ((0 : Int) ≤ n3)) = true ∧
       (decide (n3 < ((List.length lp1_0) : Int))) = true ∧
       (((decide ((IntKind.wrap .i64 ((IntKind.wrap .i64 ((IntKind.wrap .i64 (List.getD lp0_0 (Int.toNat n3) 0)) - n2)) - (IntKind.wrap .i64 (List.getD lp1_0 (Int.toNat n3) 0)))) < (0 : Int))) = true → (decide ((0 : Int) ≤ n3)) = true ∧
        (decide (n3 < (lp0_0.length : Int))) = true ∧
        (decide ((0 : Int) ≤ n3)) = true ∧
        (decide (n3 < ((List.length l4) : Int))) = true ∧
        (I1 [(OV.int .i64 (1 : Int)), (OV.int .i64 (IntKind.wrap .i64 (n3 + (1 : Int)))), (OV.lst (List.set l4 (Int.toNat n3) (IntKind.wrap .u32 (IntKind.wrap .i64 ((IntKind.wrap .i64 ((IntKind.wrap .i64 (List.getD lp0_0 (Int.toNat n3) 0)) - n2)) - (IntKind.wrap .i64 (List.getD lp1_0 (Int.toNat n3) 0)))))))] V1 ∧ μ1 [(OV.int .i64 (1 : Int)), (OV.int .i64 (IntKind.wrap .i64 (n3 + (1 : Int)))), (OV.lst (List.set l4 (Int.toNat n3) (IntKind.wrap .u32 (IntKind.wrap .i64 ((IntKind.wrap .i64 ((IntKind.wrap .i64 (List.getD lp0_0 (Int.toNat n3) 0)) - n2)) - (IntKind.wrap .i64 (List.getD lp1_0 (Int.toNat n3) 0)))))))] < μ1 [(OV.int .i64 n2), (OV.int .i64 n3), (OV.lst l4)])) ∧
       ((decide ((IntKind.wrap .i64 ((IntKind.wrap .i64 ((IntKind.wrap .i64 (List.getD lp0_0 (Int.toNat n3) 0)) - n2)) - (IntKind.wrap .i64 (List.getD lp1_0 (Int.toNat n3) 0)))) < (0 : Int))) = false → (decide ((0 : Int) ≤ n3)) = true ∧
        (decide (n3 < (lp0_0.length : Int))) = true ∧
        (decide ((0 : Int) ≤ n3)) = true ∧
        (decide (n3 < ((List.length l4) : Int))) = true ∧
        (I1 [(OV.int .i64 (0 : Int)), (OV.int .i64 (IntKind.wrap .i64 (n3 + (1 : Int)))), (OV.lst (List.set l4 (Int.toNat n3) (IntKind.wrap .u32 (IntKind.wrap .i64 ((IntKind.wrap .i64 ((IntKind.wrap .i64 (List.getD lp0_0 (Int.toNat n3) 0)) - n2)) - (IntKind.wrap .i64 (List.getD lp1_0 (Int.toNat n3) 0)))))))] V1 ∧ μ1 [(OV.int .i64 (0 : Int)), (OV.int .i64 (IntKind.wrap .i64 (n3 + (1 : Int)))), (OV.lst (List.set l4 (Int.toNat n3) (IntKind.wrap .u32 (IntKind.wrap .i64 ((IntKind.wrap .i64 ((IntKind.wrap .i64 (List.getD lp0_0 (Int.toNat n3) 0)) - n2)) - (IntKind.wrap .i64 (List.getD lp1_0 (Int.toNat n3) 0)))))))] < μ1 [(OV.int .i64 n2), (OV.int .i64 n3), (OV.lst l4)])))) ∧
      ((decide (n3 < (lp1_0.length : Int))) = false → (((decide ((IntKind.wrap .i64 ((IntKind.wrap .i64 (List.getD lp0_0 (Int.toNat n3) 0)) - n2)) < (0 : Int))) = true → (decide ((0 : Int) ≤ n3)) = true ∧
        (decide (n3 < (lp0_0.length : Int))) = true ∧
        (decide ((0 : Int) ≤ n3)) = true ∧
        (decide (n3 < ((List.length l4) : Int))) = true ∧
        (I1 [(OV.int .i64 (1 : Int)), (OV.int .i64 (IntKind.wrap .i64 (n3 + (1 : Int)))), (OV.lst (List.set l4 (Int.toNat n3) (IntKind.wrap .u32 (IntKind.wrap .i64 ((IntKind.wrap .i64 (List.getD lp0_0 (Int.toNat n3) 0)) - n2)))))] V1 ∧ μ1 [(OV.int .i64 (1 : Int)), (OV.int .i64 (IntKind.wrap .i64 (n3 + (1 : Int)))), (OV.lst (List.set l4 (Int.toNat n3) (IntKind.wrap .u32 (IntKind.wrap .i64 ((IntKind.wrap .i64 (List.getD lp0_0 (Int.toNat n3) 0)) - n2)))))] < μ1 [(OV.int .i64 n2), (OV.int .i64 n3), (OV.lst l4)])) ∧
       ((decide ((IntKind.wrap .i64 ((IntKind.wrap .i64 (List.getD lp0_0 (Int.toNat n3) 0)) - n2)) < (0 : Int))) = false → (decide ((0 : Int) ≤ n3)) = true ∧
        (decide (n3 < (lp0_0.length : Int))) = true ∧
        (decide ((0 : Int) ≤ n3)) = true ∧
        (decide (n3 < ((List.length l4) : Int))) = true ∧
        (I1 [(OV.int .i64 (0 : Int)), (OV.int .i64 (IntKind.wrap .i64 (n3 + (1 : Int)))), (OV.lst (List.set l4 (Int.toNat n3) (IntKind.wrap .u32 (IntKind.wrap .i64 ((IntKind.wrap .i64 (List.getD lp0_0 (Int.toNat n3) 0)) - n2)))))] V1 ∧ μ1 [(OV.int .i64 (0 : Int)), (OV.int .i64 (IntKind.wrap .i64 (n3 + (1 : Int)))), (OV.lst (List.set l4 (Int.toNat n3) (IntKind.wrap .u32 (IntKind.wrap .i64 ((IntKind.wrap .i64 (List.getD lp0_0 (Int.toNat n3) 0)) - n2)))))] < μ1 [(OV.int .i64 n2), (OV.int .i64 n3), (OV.lst l4)])))))) ∧
     ((decide (n3 < (lp0_0.length : Int))) = false → (V1.f m0 = none →
      R (.slice (some ⟨m0, Int.toNat (0 : Int), none⟩) (Int.toNat (lp0_0.length : Int)) (Int.toNat (lp0_0.length : Int))) (V1.put m0 (.cells (List.toArray (List.map (Value.int .u32) l4)) 216))))))) :
    CSpec Tryz.prog n_integer_minus #[(.slice Ap0_0 lp0_0.length cp0_0), (.slice Ap1_0 lp1_0.length cp1_0)] V0 R :=
  enter (l := calTryz) (bor := borTryz) (own := ownTryz) (giv := givTryz) (grw := false) calOkTryz mixTryz Tryz.func182 (args := [.one (.val (OV.sl Ap0_0 cp0_0 lp0_0)), .one (.val (OV.sl Ap1_0 cp1_0 lp1_0))]) (fuel := 3000) (hh := [.auto]) (by kernel_rfl) (Eq.mpr (by kernel_rfl) h)
-- dowel/integer.Add
theorem E_integer_Add (p0_0 : R2) (p1_0 : R2) (V0 : VH) (R : Value → VH → Prop)
    (h : ∀ m0 : Nat, ∀ m1 : Nat, ∀ m2 : Nat, (((p0_0.n == p1_0.n) = true → CSpec Tryz.prog n_integer_plus #[(.slice p0_0.A p0_0.l.length p0_0.c), (.slice p1_0.A p1_0.l.length p1_0.c)] V0 fun v0 V1 =>
     ∃ (A3 : Option Addr) (c3 : Nat) (l3 : List Int), v0 = (.slice A3 l3.length c3) ∧
     CSpec Tryz.prog n_integer_signed #[(.bool p0_0.n), (.slice A3 l3.length c3)] V1 fun v1 V2 =>
     ∃ i4 : R2, v1 = (.agg #[(.bool i4.n), (.slice i4.A i4.l.length i4.c)]) ∧
     R (.agg #[(.bool i4.n), (.slice i4.A i4.l.length i4.c)]) V2) ∧
    ((p0_0.n == p1_0.n) = false → CSpec Tryz.prog n_integer_order #[(.slice p0_0.A p0_0.l.length p0_0.c), (.slice p1_0.A p1_0.l.length p1_0.c)] V0 fun v2 V3 =>
     ∃ n5 : Int, v2 = (.int .i64 n5) ∧
     (((decide ((0 : Int) ≤ n5)) = true → CSpec Tryz.prog n_integer_minus #[(.slice p0_0.A p0_0.l.length p0_0.c), (.slice p1_0.A p1_0.l.length p1_0.c)] V3 fun v3 V4 =>
      ∃ (A6 : Option Addr) (c6 : Nat) (l6 : List Int), v3 = (.slice A6 l6.length c6) ∧
      CSpec Tryz.prog n_integer_signed #[(.bool p0_0.n), (.slice A6 l6.length c6)] V4 fun v4 V5 =>
      ∃ i7 : R2, v4 = (.agg #[(.bool i7.n), (.slice i7.A i7.l.length i7.c)]) ∧
      R (.agg #[(.bool i7.n), (.slice i7.A i7.l.length i7.c)]) V5) ∧
     ((decide ((0 : Int) ≤ n5)) = false → CSpec Tryz.prog n_integer_minus #[(.slice p1_0.A p1_0.l.length p1_0.c), (.slice p0_0.A p0_0.l.length p0_0.c)] V3 fun v5 V6 =>
      ∃ (A8 : Option Addr) (c8 : Nat) (l8 : List Int), v5 = (.slice A8 l8.length c8) ∧
      CSpec Tryz.prog n_integer_signed #[(.bool p1_0.n), (.slice A8 l8.length c8)] V6 fun v6 V7 =>
      ∃ i9 : R2, v6 = (.agg #[(.bool i9.n), (.slice i9.A i9.l.length i9.c)]) ∧
      R (.agg #[(.bool i9.n), (.slice i9.A i9.l.length i9.c)]) V7))))) :
    CSpec Tryz.prog n_integer_Add #[(.agg #[(.bool p0_0.n), (.slice p0_0.A p0_0.l.length p0_0.c)]), (.agg #[(.bool p1_0.n), (.slice p1_0.A p1_0.l.length p1_0.c)])] V0 R :=
  enter (l := calTryz) (bor := borTryz) (own := ownTryz) (giv := givTryz) (grw := false) calOkTryz mixTryz Tryz.func136 (args := [.agg [.bool (.var p0_0.a), .val p0_0.b], .agg [.bool (.var p1_0.a), .val p1_0.b]]) (fuel := 3000) (hh := []) (by kernel_rfl) (Eq.mpr (by kernel_rfl) h)
-- dowel/integer.Sub
theorem E_integer_Sub (p0_0 : R2) (p1_0 : R2) (V0 : VH) (R : Value → VH → Prop)
    (h : ∀ m0 : Nat, ∀ m1 : Nat, ∀ m2 : Nat, CSpec Tryz.prog n_integer_Neg #[(.agg #[(.bool p1_0.n), (.slice p1_0.A p1_0.l.length p1_0.c)])] V0 fun v0 V1 =>
    ∃ i3 : R2, v0 = (.agg #[(.bool i3.n), (.slice i3.A i3.l.length i3.c)]) ∧
    CSpec Tryz.prog n_integer_Add #[(.agg #[(.bool p0_0.n), (.slice p0_0.A p0_0.l.length p0_0.c)]), (.agg #[(.bool i3.n), (.slice i3.A i3.l.length i3.c)])] V1 fun v1 V2 =>
    ∃ i4 : R2, v1 = (.agg #[(.bool i4.n), (.slice i4.A i4.l.length i4.c)]) ∧
    R (.agg #[(.bool i4.n), (.slice i4.A i4.l.length i4.c)]) V2) :
    CSpec Tryz.prog n_integer_Sub #[(.agg #[(.bool p0_0.n), (.slice p0_0.A p0_0.l.length p0_0.c)]), (.agg #[(.bool p1_0.n), (.slice p1_0.A p1_0.l.length p1_0.c)])] V0 R :=
  enter (l := calTryz) (bor := borTryz) (own := ownTryz) (giv := givTryz) (grw := false) calOkTryz mixTryz Tryz.func195 (args := [.agg [.bool (.var p0_0.a), .val p0_0.b], .agg [.bool (.var p1_0.a), .val p1_0.b]]) (fuel := 3000) (hh := []) (by kernel_rfl) (Eq.mpr (by kernel_rfl) h)
-- dowel/integer.Mul
theorem E_integer_Mul (p0_0 : R2) (p1_0 : R2) (V0 : VH) (R : Value → VH → Prop)
    (h : ∀ m0 : Nat, ∀ m1 : Nat, ∀ m2 : Nat, (isSlV (.slice p0_0.A p0_0.l.length p0_0.c)) = true ∧
    (isSlV (.slice p1_0.A p1_0.l.length p1_0.c)) = true ∧
    (decide ((0 : Int) ≤ (IntKind.wrap .i64 ((p0_0.l.length : Int) + (p1_0.l.length : Int))))) = true ∧
    (decide ((IntKind.wrap .i64 ((p0_0.l.length : Int) + (p1_0.l.length : Int))) ≤ (1099511627776 : Int))) = true ∧
    ∀ m3 : Nat, (isSlV (.slice p0_0.A p0_0.l.length p0_0.c)) = true ∧
    ∃ (I4 : List OV → VH → Prop) (μ4 : List OV → Nat), I4 [(OV.int .i64 (0 : Int)), (OV.lst (List.replicate (Int.toNat (IntKind.wrap .i64 ((p0_0.l.length : Int) + (p1_0.l.length : Int)))) (0 : Int)))] V0 ∧
    ∀ V1 : VH, V0.le V1 → ∀ n5 : Int, ∀ l6 : List Int, (I4 [(OV.int .i64 n5), (OV.lst l6)] V1 →
     (((decide (n5 < (p0_0.l.length : Int))) = true → (hasBV (.slice p0_0.A p0_0.l.length p0_0.c)) = true ∧
      (decide ((0 : Int) ≤ n5)) = true ∧
      (decide (n5 < (p0_0.l.length : Int))) = true ∧
      RdV V1 .u32 p0_0.b ∧
      (decide ((0 : Int) ≤ n5)) = true ∧
      (decide (n5 < ((List.length p0_0.l) : Int))) = true ∧
      (isSlV (.slice p1_0.A p1_0.l.length p1_0.c)) = true ∧
      ∃ (I7 : List OV → VH → Prop) (μ7 : List OV → Nat), I7 [(OV.int .u64 (0 : Int)), (OV.int .i64 (0 : Int)), (OV.lst l6)] V1 ∧
      ∀ V2 : VH, V1.le V2 → ∀ n8 : Int, ∀ n9 : Int, ∀ l10 : List Int, (I7 [(OV.int .u64 n8), (OV.int .i64 n9), (OV.lst l10)] V2 →
       (((decide (n9 < (p1_0.l.length : Int))) = true → (hasBV (.slice p1_0.A p1_0.l.length p1_0.c)) = true ∧
        (decide ((0 : Int) ≤ n9)) = true ∧
        (decide (n9 < (p1_0.l.length : Int))) = true ∧
        RdV V2 .u32 p1_0.b ∧
        (decide ((0 : Int) ≤ n9)) = true ∧
        (decide (n9 < ((List.length p1_0.l) : Int))) = true ∧
        (decide ((0 : Int) ≤ (IntKind.wrap .i64 (n5 + n9)))) = true ∧
        (decide ((IntKind.wrap .i64 (n5 + n9)) < (IntKind.wrap .i64 ((p0_0.l.length : Int) + (p1_0.l.length : Int))))) = true ∧
        (decide ((0 : Int) ≤ (IntKind.wrap .i64 (n5 + n9)))) = true ∧
        (decide ((IntKind.wrap .i64 (n5 + n9)) < ((List.length l10) : Int))) = true ∧
        (decide ((0 : Int) ≤ (IntKind.wrap .i64 (n5 + n9)))) = true ∧
        (decide ((IntKind.wrap .i64 (n5 + n9)) < (IntKind.wrap .i64 ((p0_0.l.length : Int) + (p1_0.l.length : Int))))) = true ∧
        (decide ((0 : Int) ≤ (IntKind.wrap .i64 (n5 + n9)))) = true ∧
        (decide ((IntKind.wrap .i64 (n5 + n9)) < ((List.length l10) : Int))) = true ∧
        (I7 [(OV.int .u64 (Int.fdiv (IntKind.wrap .u64 (n8 + (IntKind.wrap .u64 ((IntKind.wrap .u64 ((IntKind.wrap .u64 (List.getD p0_0.l (Int.toNat n5) 0)) * (IntKind.wrap .u64 (List.getD p1_0.l (Int.toNat n9) 0)))) + (IntKind.wrap .u64 (List.getD l10 (Int.toNat (IntKind.wrap .i64 (n5 + n9))) 0)))))) (4294967296 : Int))), (OV.int .i64 (IntKind.wrap .i64 (n9 + (1 : Int)))), (OV.lst (List.set l10 (Int.toNat (IntKind.wrap .i64 (n5 + n9))) (IntKind.wrap .u32 (IntKind.wrap .u64 (n8 + (IntKind.wrap .u64 ((IntKind.wrap .u64 ((IntKind.wrap .u64 (List.getD p0_0.l (Int.toNat n5) 0)) * (IntKind.wrap .u64 (List.getD p1_0.l (Int.toNat n9) 0)))) + (IntKind.wrap .u64 (List.getD l10 (Int.toNat (IntKind.wrap .i64 (n5 + n9))) 0)))))))))] V2 ∧ μ7 [(OV.int .u64 (Int.fdiv (IntKind.wrap .u64 (n8 + (IntKind.wrap .u64 ((IntKind.wrap .u64 ((IntKind.wrap .u64 (List.getD p0_0.l (Int.toNat n5) 0)) * (IntKind.wrap .u64 (List.getD p1_0.l (Int.toNat n9) 0)))) + (IntKind.wrap .u64 (List.getD l10 (Int.toNat (IntKind.wrap .i64 (n5 + n9))) 0)))))) (4294967296 : Int))), (OV.int .i64 (IntKind.wrap .i64 (n9 + (1 : Int)))), (OV.lst (List.set l10 (Int.toNat (IntKind.wrap .i64 (n5 + n9))) (IntKind.wrap .u32 (IntKind.wrap .u64 (n8 + (IntKind.wrap .u64 ((IntKind.wrap .u64 ((IntKind.wrap .u64 (List.getD p0_0.l (Int.toNat n5) 0)) * (IntKind.wrap .u64 (List.getD p1_0.l (Int.toNat n9) 0)))) + (IntKind.wrap .u64 (List.getD l10 (Int.toNat (IntKind.wrap .i64 (n5 + n9))) 0)))))))))] < μ7 [(OV.int .u64 n8), (OV.int .i64 n9), (OV.lst l10)])) ∧
       ((decide (n9 < (p1_0.l.length : Int))) = false → (isSlV (.slice p1_0.A p1_0.l.length p1_0.c)) = true ∧
        (decide ((0 : Int) ≤ (IntKind.wrap .i64 (n5 + (p1_0.l.length : Int))))) = true ∧
        (decide ((IntKind.wrap .i64 (n5 + (p1_0.l.length : Int))) < (IntKind.wrap .i64 ((p0_0.l.length : Int) + (p1_0.l.length : Int))))) = true ∧
        (decide ((0 : Int) ≤ (IntKind.wrap .i64 (n5 + (p1_0.l.length : Int))))) = true ∧
        (decide ((IntKind.wrap .i64 (n5 + (p1_0.l.length : Int))) < ((List.length l10) : Int))) = true ∧
        (I4 [(OV.int .i64 (IntKind.wrap .i64 (n5 + (1 : Int)))), (OV.lst (List.set l10 (Int.toNat (IntKind.wrap .i64 (n5 + (p1_0.l.length : Int)))) (IntKind.wrap .u32 n8)))] V2 ∧ μ4 [(OV.int .i64 (IntKind.wrap .i64 (n5 + (1 : Int)))), (OV.lst (List.set l10 (Int.toNat (IntKind.wrap .i64 (n5 + (p1_0.l.length : Int)))) (IntKind.wrap .u32 n8)))] < μ4 [(OV.int .i64 n5), (OV.lst l6)]))))) ∧
     ((decide (n5 < (p0_0.l.length : Int))) = false → (V1.f m3 = none →
      CSpec Tryz.prog n_integer_signed #[(.bool (!(p0_0.n == p1_0.n))), (.slice (some ⟨m3, Int.toNat (0 : Int), none⟩) (Int.toNat (IntKind.wrap .i64 ((p0_0.l.length : Int) + (p1_0.l.length : Int)))) (Int.toNat (IntKind.wrap .i64 ((p0_0.l.length : Int) + (p1_0.l.length : Int)))))] (V1.put m3 (.cells (List.toArray (List.map (Value.int .u32) l6)) 216)) fun v2 V3 =>
      ∃ i11 : R2, v2 = (.agg #[(.bool i11.n), (.slice i11.A i11.l.length i11.c)]) ∧
      R (.agg #[(.bool i11.n), (.slice i11.A i11.l.length i11.c)]) V3))))) :
    CSpec Tryz.prog n_integer_Mul #[(.agg #[(.bool p0_0.n), (.slice p0_0.A p0_0.l.length p0_0.c)]), (.agg #[(.bool p1_0.n), (.slice p1_0.A p1_0.l.length p1_0.c)])] V0 R :=
  enter (l := calTryz) (bor := borTryz) (own := ownTryz) (giv := givTryz) (grw := false) calOkTryz mixTryz Tryz.func115 (args := [.agg [.bool (.var p0_0.a), .val p0_0.b], .agg [.bool (.var p1_0.a), .val p1_0.b]]) (fuel := 3000) (hh := [.auto, .auto]) (by kernel_rfl) (Eq.mpr (by kernel_rfl) h)
-- dowel/integer.short
theorem E_integer_short (Ap0_0 : Option Addr) (cp0_0 : Nat) (lp0_0 : List Int) (p1_0 : Int) (V0 : VH) (R : Value → VH → Prop)
    (h : (isSlV (.slice Ap0_0 lp0_0.length cp0_0)) = true ∧
    (decide ((0 : Int) ≤ (lp0_0.length : Int))) = true ∧
    (decide ((lp0_0.length : Int) ≤ (1099511627776 : Int))) = true ∧
    ∀ m0 : Nat, (isSlV (.slice Ap0_0 lp0_0.length cp0_0)) = true ∧
    ∃ (I1 : List OV → VH → Prop) (μ1 : List OV → Nat), I1 [(OV.int .u64 (0 : Int)), (OV.int .i64 (IntKind.wrap .i64 ((lp0_0.length : Int) - (1 : Int)))), (OV.lst (List.replicate (Int.toNat (lp0_0.length : Int)) (0 : Int)))] V0 ∧
    ∀ V1 : VH, V0.le V1 → ∀ n2 : Int, ∀ n3 : Int, ∀ l4 : List Int, (I1 [(OV.int .u64 n2), (OV.int .i64 n3), (OV.lst l4)] V1 →
     (((decide ((0 : Int) ≤ n3)) = true → (hasBV (.slice Ap0_0 lp0_0.length cp0_0)) = true ∧
      (decide ((0 : Int) ≤ n3)) = true ∧
      (decide (n3 < (lp0_0.length : Int))) = true ∧
      RdV V1 .u32 (OV.sl Ap0_0 cp0_0 lp0_0) ∧
      (decide ((0 : Int) ≤ n3)) = true ∧
      (decide (n3 < ((List.length lp0_0) : Int))) = true ∧
      (!((IntKind.wrap .u64 p1_0) == (0 : Int))) = true ∧
      (decide ((0 : Int) ≤ n3)) = true ∧
      (decide (n3 < (lp0_0.length : Int))) = true ∧
      (decide ((0 : Int) ≤ n3)) = true ∧
      (decide (n3 < ((List.length l4) : Int))) = true ∧
      (!((IntKind.wrap .u64 p1_0) == (0 : Int))) = true ∧
      (I1 [(OV.int .u64 (Int.tmod (op2V .or .u64 (IntKind.wrap .u64 (n2 * (4294967296 : Int))) (IntKind.wrap .u64 (List.getD lp0_0 (Int.toNat n3) 0))) (IntKind.wrap .u64 p1_0))), (OV.int .i64 (IntKind.wrap .i64 (n3 - (1 : Int)))), (OV.lst (List.set l4 (Int.toNat n3) (IntKind.wrap .u32 (IntKind.wrap .u64 (Int.tdiv (op2V .or .u64 (IntKind.wrap .u64 (n2 * (4294967296 : Int))) (IntKind.wrap .u64 (List.getD lp0_0 (Int.toNat n3) 0))) (IntKind.wrap .u64 p1_0))))))] V1 ∧ μ1 [(OV.int .u64 (Int.tmod (op2V .or .u64 (IntKind.wrap .u64 (n2 * (4294967296 : Int))) (IntKind.wrap .u64 (List.getD lp0_0 (Int.toNat n3) 0))) (IntKind.wrap .u64 p1_0))), (OV.int .i64 (IntKind.wrap .i64 (n3 - (1 : Int)))), (OV.lst (List.set l4 (Int.toNat n3) (IntKind.wrap .u32 (IntKind.wrap .u64 (Int.tdiv (op2V .or .u64 (IntKind.wrap .u64 (n2 * (4294967296 : Int))) (IntKind.wrap .u64 (List.getD lp0_0 (Int.toNat n3) 0))) (IntKind.wrap .u64 p1_0))))))] < μ1 [(OV.int .u64 n2), (OV.int .i64 n3), (OV.lst l4)])) ∧
     ((decide ((0 : Int) ≤ n3)) = false → (V1.f m0 = none →
      CSpec Tryz.prog n_integer_trim #[(.slice (some ⟨m0, Int.toNat (0 : Int), none⟩) (Int.toNat (lp0_0.length : Int)) (Int.toNat (lp0_0.length : Int)))] (V1.put m0 (.cells (List.toArray (List.map (Value.int .u32) l4)) 216)) fun v1 V2 =>
      ∃ (A5 : Option Addr) (c5 : Nat) (l5 : List Int), v1 = (.slice A5 l5.length c5) ∧
      R (.tuple #[(.slice A5 l5.length c5), (.int .u32 (IntKind.wrap .u32 n2))]) V2))))) :
    CSpec Tryz.prog n_integer_short #[(.slice Ap0_0 lp0_0.length cp0_0), (.int .u32 p1_0)] V0 R :=
  enter (l := calTryz) (bor := borTryz) (own := ownTryz) (giv := givTryz) (grw := false) calOkTryz mixTryz Tryz.func159 (args := [.one (.val (OV.sl Ap0_0 cp0_0 lp0_0)), .one (.int .u32 (.var (OV.int .u32 p1_0)))]) (fuel := 3000) (hh := [.auto]) (by kernel_rfl) (Eq.mpr (by kernel_rfl) h)
-- dowel/integer.raised
theorem E_integer_raised (Ap0_0 : Option Addr) (cp0_0 : Nat) (lp0_0 : List Int) (p1_0 : Int) (V0 : VH) (R : Value → VH → List Int → Prop)
    (h : (isSlV (.slice Ap0_0 lp0_0.length cp0_0)) = true ∧
    (decide ((0 : Int) ≤ (IntKind.wrap .i64 ((lp0_0.length : Int) + (1 : Int))))) = true ∧
    (decide ((IntKind.wrap .i64 ((lp0_0.length : Int) + (1 : Int))) ≤ (1099511627776 : Int))) = true ∧
    ∀ m0 : Nat, (isSlV (.slice Ap0_0 lp0_0.length cp0_0)) = true ∧
    ∃ (I1 : List OV → VH → Prop) (μ1 : List OV → Nat), I1 [(OV.int .i64 (0 : Int)), (OV.lst (List.replicate (Int.toNat (IntKind.wrap .i64 ((lp0_0.length : Int) + (1 : Int)))) (0 : Int)))] V0 ∧
    ∀ V1 : VH, V0.le V1 → ∀ n2 : Int, ∀ l3 : List Int, (I1 [(OV.int .i64 n2), (OV.lst l3)] V1 →
     (((decide (n2 < (lp0_0.length : Int))) = true → (hasBV (.slice Ap0_0 lp0_0.length cp0_0)) = true ∧
      (decide ((0 : Int) ≤ n2)) = true ∧
      (decide (n2 < (lp0_0.length : Int))) = true ∧
      RdV V1 .u32 (OV.sl Ap0_0 cp0_0 lp0_0) ∧
      (decide ((0 : Int) ≤ n2)) = true ∧
      (decide (n2 < ((List.length lp0_0) : Int))) = true ∧
      (decide ((0 : Int) ≤ n2)) = true ∧
      (decide (n2 < (IntKind.wrap .i64 ((lp0_0.length : Int) + (1 : Int))))) = true ∧
      (decide ((0 : Int) ≤ p1_0)) = true ∧
      (decide ((0 : Int) ≤ n2)) = true ∧
      (decide (n2 < ((List.length l3) : Int))) = true ∧
      (decide ((0 : Int) ≤ n2)) = true ∧
      (decide (n2 < (IntKind.wrap .i64 ((lp0_0.length : Int) + (1 : Int))))) = true ∧
      (decide ((0 : Int) ≤ n2)) = true ∧
      (decide (n2 < ((List.length l3) : Int))) = true ∧
      (decide ((0 : Int) ≤ p1_0)) = true ∧
      (decide ((0 : Int) ≤ (IntKind.wrap .i64 (n2 + (1 : Int))))) = true ∧
      (decide ((IntKind.wrap .i64 (n2 + (1 : Int))) < (IntKind.wrap .i64 ((lp0_0.length : Int) + (1 : Int))))) = true ∧
      (decide ((0 : Int) ≤ (IntKind.wrap .i64 (n2 + (1 : Int))))) = true ∧
      (decide ((IntKind.wrap .i64 (n2 + (1 : Int))) < ((List.length (List.set l3 (Int.toNat n2) (op2V .or .u32 (List.getD l3 (Int.toNat n2) 0) (op2V .shl .u32 (List.getD lp0_0 (Int.toNat n2) 0) p1_0)))) : Int))) = true ∧
      (I1 [(OV.int .i64 (IntKind.wrap .i64 (n2 + (1 : Int)))), (OV.lst (List.set (List.set l3 (Int.toNat n2) (op2V .or .u32 (List.getD l3 (Int.toNat n2) 0) (op2V .shl .u32 (List.getD lp0_0 (Int.toNat n2) 0) p1_0))) (Int.toNat (IntKind.wrap .i64 (n2 + (1 : Int)))) (IntKind.wrap .u32 (Int.fdiv (op2V .shl .u64 (IntKind.wrap .u64 (List.getD lp0_0 (Int.toNat n2) 0)) p1_0) (4294967296 : Int)))))] V1 ∧ μ1 [(OV.int .i64 (IntKind.wrap .i64 (n2 + (1 : Int)))), (OV.lst (List.set (List.set l3 (Int.toNat n2) (op2V .or .u32 (List.getD l3 (Int.toNat n2) 0) (op2V .shl .u32 (List.getD lp0_0 (Int.toNat n2) 0) p1_0))) (Int.toNat (IntKind.wrap .i64 (n2 + (1 : Int)))) (IntKind.wrap .u32 (Int.fdiv (op2V .shl .u64 (IntKind.wrap .u64 (List.getD lp0_0 (Int.toNat n2) 0)) p1_0) (4294967296 : Int)))))] < μ1 [(OV.int .i64 n2), (OV.lst l3)])) ∧
     ((decide (n2 < (lp0_0.length : Int))) = false → R (.slice (some ⟨m0, Int.toNat (0 : Int), none⟩) (Int.toNat (IntKind.wrap .i64 ((lp0_0.length : Int) + (1 : Int)))) (Int.toNat (IntKind.wrap .i64 ((lp0_0.length : Int) + (1 : Int))))) V1 l3)))) :
    CSpecO Tryz.prog n_integer_raised #[(.slice Ap0_0 lp0_0.length cp0_0), (.int .i64 p1_0)] V0 ELTryz .u32 (fun _ _ => False) (fun v V n0 L => (∃ n c, v = .slice (some ⟨n0, 0, none⟩) n c) ∧ R v V L) :=
  enterO (l := calTryz) (bor := borTryz) (own := ownTryz) (giv := givTryz) (grw := false) calOkTryz mixTryz Tryz.func214 (args := [.one (.val (OV.sl Ap0_0 cp0_0 lp0_0)), .one (.int .i64 (.var (OV.int .i64 p1_0)))]) (fuel := 3000) (hh := [.auto]) (by kernel_rfl) (Eq.mpr (by kernel_rfl) h)
-- dowel/integer.lowered
theorem E_integer_lowered (Ap0_0 : Option Addr) (cp0_0 : Nat) (lp0_0 : List Int) (p1_0 : Int) (V0 : VH) (R : Value → VH → Prop)
    (h : CSpecO Tryz.prog n_slices_Clone_uint32_uint32 #[(.slice Ap0_0 lp0_0.length cp0_0)] V0 216 .u32 (fun v0 V1 =>
    ∃ (A0 : Option Addr) (c0 : Nat) (l0 : List Int), v0 = (.slice A0 l0.length c0) ∧
     (isSlV (.slice A0 l0.length c0)) = true ∧
     ∃ (I1 : List OV → VH → Prop) (μ1 : List OV → Nat), I1 [(OV.int .i64 (0 : Int))] V1 ∧
     ∀ V2 : VH, V1.le V2 → ∀ n2 : Int, (I1 [(OV.int .i64 n2)] V2 →
      (((decide (n2 < (l0.length : Int))) = true → (hasBV (.slice A0 l0.length c0)) = true ∧
       (decide ((0 : Int) ≤ n2)) = true ∧
       (decide (n2 < (l0.length : Int))) = true ∧
       RdV V2 .u32 (OV.sl A0 c0 l0) ∧
       (decide ((0 : Int) ≤ n2)) = true ∧
       (decide (n2 < ((List.length l0) : Int))) = true ∧
       (decide ((0 : Int) ≤ p1_0)) = true ∧
       (hasBV (.slice A0 l0.length c0)) = true ∧
       (decide ((0 : Int) ≤ n2)) = true ∧
       (decide (n2 < (l0.length : Int))) = true ∧
       False /- FAIL_store -/) ∧
      ((decide (n2 < (l0.length : Int))) = false → CSpec Tryz.prog n_integer_trim #[(.slice A0 l0.length c0)] V2 fun v2 V3 =>
       ∃ (A3 : Option Addr) (c3 : Nat) (l3 : List Int), v2 = (.slice A3 l3.length c3) ∧
       R (.slice A3 l3.length c3) V3))))
    (fun v0 V1 m0 L0 =>
    ∃ n4 : Int, ∃ n5 : Int, v0 = (.slice (some ⟨m0, Int.toNat (0 : Int), none⟩) (Int.toNat n4) (Int.toNat n5)) ∧
     (decide ((0 : Int) ≤ n4)) = true ∧
     ∃ (I6 : List OV → VH → Prop) (μ6 : List OV → Nat), I6 [(OV.int .i64 (0 : Int)), (OV.lst L0)] V1 ∧
     ∀ V4 : VH, V1.le V4 → ∀ n7 : Int, ∀ l8 : List Int, (I6 [(OV.int .i64 n7), (OV.lst l8)] V4 →
      (((decide (n7 < n4)) = true → (decide ((0 : Int) ≤ n7)) = true ∧
       (decide (n7 < n4)) = true ∧
       (decide ((0 : Int) ≤ n7)) = true ∧
       (decide (n7 < ((List.length l8) : Int))) = true ∧
       (decide ((0 : Int) ≤ p1_0)) = true ∧
       (decide ((0 : Int) ≤ n7)) = true ∧
       (decide (n7 < n4)) = true ∧
       (decide ((0 : Int) ≤ n7)) = true ∧
       (decide (n7 < ((List.length l8) : Int))) = true ∧
       (isSlV (.slice Ap0_0 lp0_0.length cp0_0)) = true ∧
       (((decide ((IntKind.wrap .i64 (n7 + (1 : Int))) < (lp0_0.length : Int))) = true → (decide ((0 : Int) ≤ n7)) = true ∧
        (decide (n7 < n4)) = true ∧
        (hasBV (.slice Ap0_0 lp0_0.length cp0_0)) = true ∧
        (decide ((0 : Int) ≤ (IntKind.wrap .i64 (n7 + (1 : Int))))) = true ∧
        (decide ((IntKind.wrap .i64 (n7 + (1 : Int))) < (lp0_0.length : Int))) = true ∧
        RdV V4 .u32 (OV.sl Ap0_0 cp0_0 lp0_0) ∧
        (decide ((0 : Int) ≤ (IntKind.wrap .i64 (n7 + (1 : Int))))) = true ∧
        (decide ((IntKind.wrap .i64 (n7 + (1 : Int))) < ((List.length lp0_0) : Int))) = true ∧
        (decide ((0 : Int) ≤ p1_0)) = true ∧
        (decide ((0 : Int) ≤ n7)) = true ∧
        (decide (n7 < ((List.length (List.set l8 (Int.toNat n7) (op2V .shr .u32 (List.getD l8 (Int.toNat n7) 0) p1_0))) : Int))) = true ∧
        (decide ((0 : Int) ≤ n7)) = true ∧
        (decide (n7 < n4)) = true ∧
        (decide ((0 : Int) ≤ n7)) = true ∧
        (decide (n7 < ((List.length (List.set l8 (Int.toNat n7) (op2V .shr .u32 (List.getD l8 (Int.toNat n7) 0) p1_0))) : Int))) = true ∧
        (I6 [(OV.int .i64 (IntKind.wrap .i64 (n7 + (1 : Int)))), (OV.lst (List.set (List.set l8 (Int.toNat n7) (op2V .shr .u32 (List.getD l8 (Int.toNat n7) 0) p1_0)) (Int.toNat n7) (op2V .or .u32 (List.getD (List.set l8 (Int.toNat n7) (op2V .shr .u32 (List.getD l8 (Int.toNat n7) 0) p1_0)) (Int.toNat n7) 0) (IntKind.wrap .u32 (op2V .shr .u64 (IntKind.wrap .u64 ((IntKind.wrap .u64 (List.getD lp0_0 (Int.toNat (IntKind.wrap .i64 (n7 + (1 : Int)))) 0)) * (4294967296 : Int))) p1_0)))))] V4 ∧ μ6 [(OV.int .i64 (IntKind.wrap .i64 (n7 + (1 : Int)))), (OV.lst (List.set (List.set l8 (Int.toNat n7) (op2V .shr .u32 (List.getD l8 (Int.toNat n7) 0) p1_0)) (Int.toNat n7) (op2V .or .u32 (List.getD (List.set l8 (Int.toNat n7) (op2V .shr .u32 (List.getD l8 (Int.toNat n7) 0) p1_0)) (Int.toNat n7) 0) (IntKind.wrap .u32 (op2V .shr .u64 (IntKind.wrap .u64 ((IntKind.wrap .u64 (List.getD lp0_0 (Int.toNat (IntKind.wrap .i64 (n7 + (1 : Int)))) 0)) * (4294967296 : Int))) p1_0)))))] < μ6 [(OV.int .i64 n7), (OV.lst l8)])) ∧
       ((decide ((IntKind.wrap .i64 (n7 + (1 : Int))) < (lp0_0.length : Int))) = false → (I6 [(OV.int .i64 (IntKind.wrap .i64 (n7 + (1 : Int)))), (OV.lst (List.set l8 (Int.toNat n7) (op2V .shr .u32 (List.getD l8 (Int.toNat n7) 0) p1_0)))] V4 ∧ μ6 [(OV.int .i64 (IntKind.wrap .i64 (n7 + (1 : Int)))), (OV.lst (List.set l8 (Int.toNat n7) (op2V .shr .u32 (List.getD l8 (Int.toNat n7) 0) p1_0)))] < μ6 [(OV.int .i64 n7), (OV.lst l8)])))) ∧
      ((decide (n7 < n4)) = false → (V4.f m0 = none →
       CSpec Tryz.prog n_integer_trim #[(.slice (some ⟨m0, Int.toNat (0 : Int), none⟩) (Int.toNat n4) (Int.toNat n5))] (V4.put m0 (.cells (List.toArray (List.map (Value.int .u32) l8)) 216)) fun v4 V5 =>
       ∃ (A9 : Option Addr) (c9 : Nat) (l9 : List Int), v4 = (.slice A9 l9.length c9) ∧
       R (.slice A9 l9.length c9) V5)))))) :
    CSpec Tryz.prog n_integer_lowered #[(.slice Ap0_0 lp0_0.length cp0_0), (.int .i64 p1_0)] V0 R :=
  enter (l := calTryz) (bor := borTryz) (own := ownTryz) (giv := givTryz) (grw := false) calOkTryz mixTryz Tryz.func216 (args := [.one (.val (OV.sl Ap0_0 cp0_0 lp0_0)), .one (.int .i64 (.var (OV.int .i64 p1_0)))]) (fuel := 3000) (hh := [.auto]) (by kernel_rfl) (Eq.mpr (by kernel_rfl) h)
-- dowel/integer.digit
theorem E_integer_digit0bor (m : Nat) (L : List Int) (o n c : Int) (Ap1_0 : Option Addr) (cp1_0 : Nat) (lp1_0 : List Int) (V0 : VH) (R : Value → VH → List Int → Prop)
    (h : (isSlV (.slice Ap1_0 lp1_0.length cp1_0)) = true ∧
    (decide ((0 : Int) ≤ o)) = true ∧
    (decide ((0 : Int) ≤ (lp1_0.length : Int))) = true ∧
    (decide ((lp1_0.length : Int) < n)) = true ∧
    (decide ((0 : Int) ≤ (o + (lp1_0.length : Int)))) = true ∧
    (decide ((o + (lp1_0.length : Int)) < ((List.length L) : Int))) = true ∧
    (decide ((0 : Int) ≤ o)) = true ∧
    (decide ((0 : Int) ≤ (IntKind.wrap .i64 ((lp1_0.length : Int) - (1 : Int))))) = true ∧
    (decide ((IntKind.wrap .i64 ((lp1_0.length : Int) - (1 : Int))) < n)) = true ∧
    (decide ((0 : Int) ≤ (o + (IntKind.wrap .i64 ((lp1_0.length : Int) - (1 : Int)))))) = true ∧
    (decide ((o + (IntKind.wrap .i64 ((lp1_0.length : Int) - (1 : Int)))) < ((List.length L) : Int))) = true ∧
    (hasBV (.slice Ap1_0 lp1_0.length cp1_0)) = true ∧
    (decide ((0 : Int) ≤ (IntKind.wrap .i64 ((lp1_0.length : Int) - (1 : Int))))) = true ∧
    (decide ((IntKind.wrap .i64 ((lp1_0.length : Int) - (1 : Int))) < (lp1_0.length : Int))) = true ∧
    RdV V0 .u32 (OV.sl Ap1_0 cp1_0 lp1_0) ∧
    (decide ((0 : Int) ≤ (IntKind.wrap .i64 ((lp1_0.length : Int) - (1 : Int))))) = true ∧
    (decide ((IntKind.wrap .i64 ((lp1_0.length : Int) - (1 : Int))) < ((List.length lp1_0) : Int))) = true ∧
    (!((IntKind.wrap .u64 (List.getD lp1_0 (Int.toNat (IntKind.wrap .i64 ((lp1_0.length : Int) - (1 : Int)))) 0)) == (0 : Int))) = true ∧
    (hasBV (.slice Ap1_0 lp1_0.length cp1_0)) = true ∧
    (decide ((0 : Int) ≤ (IntKind.wrap .i64 ((lp1_0.length : Int) - (1 : Int))))) = true ∧
    (decide ((IntKind.wrap .i64 ((lp1_0.length : Int) - (1 : Int))) < (lp1_0.length : Int))) = true ∧
    RdV V0 .u32 (OV.sl Ap1_0 cp1_0 lp1_0) ∧
    (decide ((0 : Int) ≤ (IntKind.wrap .i64 ((lp1_0.length : Int) - (1 : Int))))) = true ∧
    (decide ((IntKind.wrap .i64 ((lp1_0.length : Int) - (1 : Int))) < ((List.length lp1_0) : Int))) = true ∧
    (!((IntKind.wrap .u64 (List.getD lp1_0 (Int.toNat (IntKind.wrap .i64 ((lp1_0.length : Int) - (1 : Int)))) 0)) == (0 : Int))) = true ∧
    ∃ (I0 : List OV → VH → Prop) (μ0 : List OV → Nat), I0 [(OV.int .u64 (IntKind.wrap .u64 (Int.tdiv (op2V .or .u64 (IntKind.wrap .u64 ((IntKind.wrap .u64 (List.getD L (Int.toNat (o + (lp1_0.length : Int))) 0)) * (4294967296 : Int))) (IntKind.wrap .u64 (List.getD L (Int.toNat (o + (IntKind.wrap .i64 ((lp1_0.length : Int) - (1 : Int))))) 0))) (IntKind.wrap .u64 (List.getD lp1_0 (Int.toNat (IntKind.wrap .i64 ((lp1_0.length : Int) - (1 : Int)))) 0))))), (OV.int .u64 (Int.tmod (op2V .or .u64 (IntKind.wrap .u64 ((IntKind.wrap .u64 (List.getD L (Int.toNat (o + (lp1_0.length : Int))) 0)) * (4294967296 : Int))) (IntKind.wrap .u64 (List.getD L (Int.toNat (o + (IntKind.wrap .i64 ((lp1_0.length : Int) - (1 : Int))))) 0))) (IntKind.wrap .u64 (List.getD lp1_0 (Int.toNat (IntKind.wrap .i64 ((lp1_0.length : Int) - (1 : Int)))) 0)))), (OV.lst L)] V0 ∧
    ∀ V1 : VH, V0.le V1 → ∀ n1 : Int, ∀ n2 : Int, ∀ l3 : List Int, (I0 [(OV.int .u64 n1), (OV.int .u64 n2), (OV.lst l3)] V1 →
     (((decide (n2 < (4294967296 : Int))) = true → (((decide ((4294967296 : Int) ≤ n1)) = true → (hasBV (.slice Ap1_0 lp1_0.length cp1_0)) = true ∧
       (decide ((0 : Int) ≤ (IntKind.wrap .i64 ((lp1_0.length : Int) - (1 : Int))))) = true ∧
       (decide ((IntKind.wrap .i64 ((lp1_0.length : Int) - (1 : Int))) < (lp1_0.length : Int))) = true ∧
       RdV V1 .u32 (OV.sl Ap1_0 cp1_0 lp1_0) ∧
       (decide ((0 : Int) ≤ (IntKind.wrap .i64 ((lp1_0.length : Int) - (1 : Int))))) = true ∧
       (decide ((IntKind.wrap .i64 ((lp1_0.length : Int) - (1 : Int))) < ((List.length lp1_0) : Int))) = true ∧
       (I0 [(OV.int .u64 (IntKind.wrap .u64 (n1 - (1 : Int)))), (OV.int .u64 (IntKind.wrap .u64 (n2 + (IntKind.wrap .u64 (List.getD lp1_0 (Int.toNat (IntKind.wrap .i64 ((lp1_0.length : Int) - (1 : Int)))) 0))))), (OV.lst l3)] V1 ∧ μ0 [(OV.int .u64 (IntKind.wrap .u64 (n1 - (1 : Int)))), (OV.int .u64 (IntKind.wrap .u64 (n2 + (IntKind.wrap .u64 (List.getD lp1_0 (Int.toNat (IntKind.wrap .i64 ((lp1_0.length : Int) - (1 : Int)))) 0))))), (OV.lst l3)] < μ0 [(OV.int .u64 n1), (OV.int .u64 n2), (OV.lst l3)])) ∧
      ((decide ((4294967296 : Int) ≤ n1)) = false → (hasBV (.slice Ap1_0 lp1_0.length cp1_0)) = true ∧
       (decide ((0 : Int) ≤ (IntKind.wrap .i64 ((lp1_0.length : Int) - (2 : Int))))) = true ∧
       (decide ((IntKind.wrap .i64 ((lp1_0.length : Int) - (2 : Int))) < (lp1_0.length : Int))) = true ∧
       RdV V1 .u32 (OV.sl Ap1_0 cp1_0 lp1_0) ∧
       (decide ((0 : Int) ≤ (IntKind.wrap .i64 ((lp1_0.length : Int) - (2 : Int))))) = true ∧
       (decide ((IntKind.wrap .i64 ((lp1_0.length : Int) - (2 : Int))) < ((List.length lp1_0) : Int))) = true ∧
       (decide ((0 : Int) ≤ o)) = true ∧
       (decide ((0 : Int) ≤ (IntKind.wrap .i64 ((lp1_0.length : Int) - (2 : Int))))) = true ∧
       (decide ((IntKind.wrap .i64 ((lp1_0.length : Int) - (2 : Int))) < n)) = true ∧
       (decide ((0 : Int) ≤ (o + (IntKind.wrap .i64 ((lp1_0.length : Int) - (2 : Int)))))) = true ∧
       (decide ((o + (IntKind.wrap .i64 ((lp1_0.length : Int) - (2 : Int)))) < ((List.length l3) : Int))) = true ∧
       (((decide ((op2V .or .u64 (IntKind.wrap .u64 (n2 * (4294967296 : Int))) (IntKind.wrap .u64 (List.getD l3 (Int.toNat (o + (IntKind.wrap .i64 ((lp1_0.length : Int) - (2 : Int))))) 0))) < (IntKind.wrap .u64 (n1 * (IntKind.wrap .u64 (List.getD lp1_0 (Int.toNat (IntKind.wrap .i64 ((lp1_0.length : Int) - (2 : Int)))) 0)))))) = true → (hasBV (.slice Ap1_0 lp1_0.length cp1_0)) = true ∧
        (decide ((0 : Int) ≤ (IntKind.wrap .i64 ((lp1_0.length : Int) - (1 : Int))))) = true ∧
        (decide ((IntKind.wrap .i64 ((lp1_0.length : Int) - (1 : Int))) < (lp1_0.length : Int))) = true ∧
        RdV V1 .u32 (OV.sl Ap1_0 cp1_0 lp1_0) ∧
        (decide ((0 : Int) ≤ (IntKind.wrap .i64 ((lp1_0.length : Int) - (1 : Int))))) = true ∧
        (decide ((IntKind.wrap .i64 ((lp1_0.length : Int) - (1 : Int))) < ((List.length lp1_0) : Int))) = true ∧
        (I0 [(OV.int .u64 (IntKind.wrap .u64 (n1 - (1 : Int)))), (OV.int .u64 (IntKind.wrap .u64 (n2 + (IntKind.wrap .u64 (List.getD lp1_0 (Int.toNat (IntKind.wrap .i64 ((lp1_0.length : Int) - (1 : Int)))) 0))))), (OV.lst l3)] V1 ∧ μ0 [(OV.int .u64 (IntKind.wrap .u64 (n1 - (1 : Int)))), (OV.int .u64 (IntKind.wrap .u64 (n2 + (IntKind.wrap .u64 (List.getD lp1_0 (Int.toNat (IntKind.wrap .i64 ((lp1_0.length : Int) - (1 : Int)))) 0))))), (OV.lst l3)] < μ0 [(OV.int .u64 n1), (OV.int .u64 n2), (OV.lst l3)])) ∧
       ((decide ((op2V .or .u64 (IntKind.wrap .u64 (n2 * (4294967296 : Int))) (IntKind.wrap .u64 (List.getD l3 (Int.toNat (o + (IntKind.wrap .i64 ((lp1_0.length : Int) - (2 : Int))))) 0))) < (IntKind.wrap .u64 (n1 * (IntKind.wrap .u64 (List.getD lp1_0 (Int.toNat (IntKind.wrap .i64 ((lp1_0.length : Int) - (2 : Int)))) 0)))))) = false → (isSlV (.slice Ap1_0 lp1_0.length cp1_0)) = true ∧
        ∃ (I4 : List OV → VH → Prop) (μ4 : List OV → Nat), I4 [(OV.int .u64 (0 : Int)), (OV.int .i64 (0 : Int)), (OV.int .i64 (0 : Int)), (OV.lst l3)] V1 ∧
        ∀ V2 : VH, V1.le V2 → ∀ n5 : Int, ∀ n6 : Int, ∀ n7 : Int, ∀ l8 : List Int, (I4 [(OV.int .u64 n5), (OV.int .i64 n6), (OV.int .i64 n7), (OV.lst l8)] V2 →
         (((decide (n7 < (lp1_0.length : Int))) = true → (hasBV (.slice Ap1_0 lp1_0.length cp1_0)) = true ∧
          (decide ((0 : Int) ≤ n7)) = true ∧
          (decide (n7 < (lp1_0.length : Int))) = true ∧
          RdV V2 .u32 (OV.sl Ap1_0 cp1_0 lp1_0) ∧
          (decide ((0 : Int) ≤ n7)) = true ∧
          (decide (n7 < ((List.length lp1_0) : Int))) = true ∧
          (decide ((0 : Int) ≤ o)) = true ∧
          (decide ((0 : Int) ≤ n7)) = true ∧
          (decide (n7 < n)) = true ∧
          (decide ((0 : Int) ≤ (o + n7))) = true ∧
          (decide ((o + n7) < ((List.length l8) : Int))) = true ∧
          (decide ((0 : Int) ≤ o)) = true ∧
          (decide ((0 : Int) ≤ n7)) = true ∧
          (decide (n7 < n)) = true ∧
          (decide ((0 : Int) ≤ (o + n7))) = true ∧
          (decide ((o + n7) < ((List.length l8) : Int))) = true ∧
          (((decide ((IntKind.wrap .i64 ((IntKind.wrap .i64 ((IntKind.wrap .i64 (List.getD l8 (Int.toNat (o + n7)) 0)) - n6)) - (IntKind.wrap .i64 (IntKind.wrap .u32 (IntKind.wrap .u64 (n5 + (IntKind.wrap .u64 (n1 * (IntKind.wrap .u64 (List.getD lp1_0 (Int.toNat n7) 0)))))))))) < (0 : Int))) = true → (I4 [(OV.int .u64 (Int.fdiv (IntKind.wrap .u64 (n5 + (IntKind.wrap .u64 (n1 * (IntKind.wrap .u64 (List.getD lp1_0 (Int.toNat n7) 0)))))) (4294967296 : Int))), (OV.int .i64 (1 : Int)), (OV.int .i64 (IntKind.wrap .i64 (n7 + (1 : Int)))), (OV.lst (List.set l8 (Int.toNat (o + n7)) (IntKind.wrap .u32 (IntKind.wrap .i64 ((IntKind.wrap .i64 ((IntKind.wrap .i64 (List.getD l8 (Int.toNat (o + n7)) 0)) - n6)) - (IntKind.wrap .i64 (IntKind.wrap .u32 (IntKind.wrap .u64 (n5 + (IntKind.wrap .u64 (n1 * (IntKind.wrap .u64 (List.getD lp1_0 (Int.toNat n7) 0)))))))))))))] V2 ∧ μ4 [(OV.int .u64 (Int.fdiv (IntKind.wrap .u64 (n5 + (IntKind.wrap .u64 (n1 * (IntKind.wrap .u64 (List.getD lp1_0 (Int.toNat n7) 0)))))) (4294967296 : Int))), (OV.int .i64 (1 : Int)), (OV.int .i64 (IntKind.wrap .i64 (n7 + (1 : Int)))), (OV.lst (List.set l8 (Int.toNat (o + n7)) (IntKind.wrap .u32 (IntKind.wrap .i64 ((IntKind.wrap .i64 ((IntKind.wrap .i64 (List.getD l8 (Int.toNat (o + n7)) 0)) - n6)) - (IntKind.wrap .i64 (IntKind.wrap .u32 (IntKind.wrap .u64 (n5 + (IntKind.wrap .u64 (n1 * (IntKind.wrap .u64 (List.getD lp1_0 (Int.toNat n7) 0)))))))))))))] < μ4 [(OV.int .u64 n5), (OV.int .i64 n6), (OV.int .i64 n7), (OV.lst l8)])) ∧
          ((decide ((IntKind.wrap .i64 ((IntKind.wrap .i64 ((IntKind.wrap .i64 (List.getD l8 (Int.toNat (o + n7)) 0)) - n6)) - (IntKind.wrap .i64 (IntKind.wrap .u32 (IntKind.wrap .u64 (n5 + (IntKind.wrap .u64 (n1 * (IntKind.wrap .u64 (List.getD lp1_0 (Int.toNat n7) 0)))))))))) < (0 : Int))) = false → (I4 [(OV.int .u64 (Int.fdiv (IntKind.wrap .u64 (n5 + (IntKind.wrap .u64 (n1 * (IntKind.wrap .u64 (List.getD lp1_0 (Int.toNat n7) 0)))))) (4294967296 : Int))), (OV.int .i64 (0 : Int)), (OV.int .i64 (IntKind.wrap .i64 (n7 + (1 : Int)))), (OV.lst (List.set l8 (Int.toNat (o + n7)) (IntKind.wrap .u32 (IntKind.wrap .i64 ((IntKind.wrap .i64 ((IntKind.wrap .i64 (List.getD l8 (Int.toNat (o + n7)) 0)) - n6)) - (IntKind.wrap .i64 (IntKind.wrap .u32 (IntKind.wrap .u64 (n5 + (IntKind.wrap .u64 (n1 * (IntKind.wrap .u64 (List.getD lp1_0 (Int.toNat n7) 0)))))))))))))] V2 ∧ μ4 [(OV.int .u64 (Int.fdiv (IntKind.wrap .u64 (n5 + (IntKind.wrap .u64 (n1 * (IntKind.wrap .u64 (List.getD lp1_0 (Int.toNat n7) 0)))))) (4294967296 : Int))), (OV.int .i64 (0 : Int)), (OV.int .i64 (IntKind.wrap .i64 (n7 + (1 : Int)))), (OV.lst (List.set l8 (Int.toNat (o + n7)) (IntKind.wrap .u32 (IntKind.wrap .i64 ((IntKind.wrap .i64 ((IntKind.wrap .i64 (List.getD l8 (Int.toNat (o + n7)) 0)) - n6)) - (IntKind.wrap .i64 (IntKind.wrap .u32 (IntKind.wrap .u64 (n5 + (IntKind.wrap .u64 (n1 * (IntKind.wrap .u64 (List.getD lp1_0 (Int.toNat n7) 0)))))))))))))] < μ4 [(OV.int .u64 n5), (OV.int .i64 n6), (OV.int .i64 n7), (OV.lst l8)])))) ∧
         ((decide (n7 < (lp1_0.length : Int))) = false → (decide ((0 : Int) ≤ o)) = true ∧
          (decide ((0 : Int) ≤ (lp1_0.length : Int))) = true ∧
          (decide ((lp1_0.length : Int) < n)) = true ∧
          (decide ((0 : Int) ≤ (o + (lp1_0.length : Int)))) = true ∧
          (decide ((o + (lp1_0.length : Int)) < ((List.length l8) : Int))) = true ∧
          (decide ((0 : Int) ≤ o)) = true ∧
          (decide ((0 : Int) ≤ (lp1_0.length : Int))) = true ∧
          (decide ((lp1_0.length : Int) < n)) = true ∧
          (decide ((0 : Int) ≤ (o + (lp1_0.length : Int)))) = true ∧
          (decide ((o + (lp1_0.length : Int)) < ((List.length l8) : Int))) = true ∧
          (((decide ((0 : Int) ≤ (IntKind.wrap .i64 ((IntKind.wrap .i64 ((IntKind.wrap .i64 (List.getD l8 (Int.toNat (o + (lp1_0.length : Int))) 0)) - n6)) - (IntKind.wrap .i64 n5))))) = true → R (.int .u32 (IntKind.wrap .u32 n1)) V2 (List.set l8 (Int.toNat (o + (lp1_0.length : Int))) (IntKind.wrap .u32 (IntKind.wrap .i64 ((IntKind.wrap .i64 ((IntKind.wrap .i64 (List.getD l8 (Int.toNat (o + (lp1_0.length : Int))) 0)) - n6)) - (IntKind.wrap .i64 n5)))))) ∧
          ((decide ((0 : Int) ≤ (IntKind.wrap .i64 ((IntKind.wrap .i64 ((IntKind.wrap .i64 (List.getD l8 (Int.toNat (o + (lp1_0.length : Int))) 0)) - n6)) - (IntKind.wrap .i64 n5))))) = false → (isSlV (.slice Ap1_0 lp1_0.length cp1_0)) = true ∧
           ∃ (I9 : List OV → VH → Prop) (μ9 : List OV → Nat), I9 [(OV.int .u64 (0 : Int)), (OV.int .i64 (0 : Int)), (OV.lst (List.set l8 (Int.toNat (o + (lp1_0.length : Int))) (IntKind.wrap .u32 (IntKind.wrap .i64 ((IntKind.wrap .i64 ((IntKind.wrap .i64 (List.getD l8 (Int.toNat (o + (lp1_0.length : Int))) 0)) - n6)) - (IntKind.wrap .i64 n5))))))] V2 ∧
           ∀ V3 : VH, V2.le V3 → ∀ n10 : Int, ∀ n11 : Int, ∀ l12 : List Int, (I9 [(OV.int .u64 n10), (OV.int .i64 n11), (OV.lst l12)] V3 →
            (((decide (n11 < (lp1_0.length : Int))) = true → (hasBV (.slice Ap1_0 lp1_0.length cp1_0)) = true ∧
             (decide ((0 : Int) ≤ n11)) = true ∧
             (decide (n11 < (lp1_0.length : Int))) = true ∧
             RdV V3 .u32 (OV.sl Ap1_0 cp1_0 lp1_0) ∧
             (decide ((0 : Int) ≤ n11)) = true ∧
             (decide (n11 < ((List.length lp1_0) : Int))) = true ∧
             (decide ((0 : Int) ≤ o)) = true ∧
             (decide ((0 : Int) ≤ n11)) = true ∧
             (decide (n11 < n)) = true ∧
             (decide ((0 : Int) ≤ (o + n11))) = true ∧
             (decide ((o + n11) < ((List.length l12) : Int))) = true ∧
             (decide ((0 : Int) ≤ o)) = true ∧
             (decide ((0 : Int) ≤ n11)) = true ∧
             (decide (n11 < n)) = true ∧
             (decide ((0 : Int) ≤ (o + n11))) = true ∧
             (decide ((o + n11) < ((List.length l12) : Int))) = true ∧
             (I9 [(OV.int .u64 (Int.fdiv (IntKind.wrap .u64 (n10 + (IntKind.wrap .u64 ((IntKind.wrap .u64 (List.getD l12 (Int.toNat (o + n11)) 0)) + (IntKind.wrap .u64 (List.getD lp1_0 (Int.toNat n11) 0)))))) (4294967296 : Int))), (OV.int .i64 (IntKind.wrap .i64 (n11 + (1 : Int)))), (OV.lst (List.set l12 (Int.toNat (o + n11)) (IntKind.wrap .u32 (IntKind.wrap .u64 (n10 + (IntKind.wrap .u64 ((IntKind.wrap .u64 (List.getD l12 (Int.toNat (o + n11)) 0)) + (IntKind.wrap .u64 (List.getD lp1_0 (Int.toNat n11) 0)))))))))] V3 ∧ μ9 [(OV.int .u64 (Int.fdiv (IntKind.wrap .u64 (n10 + (IntKind.wrap .u64 ((IntKind.wrap .u64 (List.getD l12 (Int.toNat (o + n11)) 0)) + (IntKind.wrap .u64 (List.getD lp1_0 (Int.toNat n11) 0)))))) (4294967296 : Int))), (OV.int .i64 (IntKind.wrap .i64 (n11 + (1 : Int)))), (OV.lst (List.set l12 (Int.toNat (o + n11)) (IntKind.wrap .u32 (IntKind.wrap .u64 (n10 + (IntKind.wrap .u64 ((IntKind.wrap .u64 (List.getD l12 (Int.toNat (o + n11)) 0)) + (IntKind.wrap .u64 (List.getD lp1_0 (Int.toNat n11) 0)))))))))] < μ9 [(OV.int .u64 n10), (OV.int .i64 n11), (OV.lst l12)])) ∧
            ((decide (n11 < (lp1_0.length : Int))) = false → (decide ((0 : Int) ≤ o)) = true ∧
             (decide ((0 : Int) ≤ (lp1_0.length : Int))) = true ∧
             (decide ((lp1_0.length : Int) < n)) = true ∧
             (decide ((0 : Int) ≤ (o + (lp1_0.length : Int)))) = true ∧
             (decide ((o + (lp1_0.length : Int)) < ((List.length l12) : Int))) = true ∧
             (decide ((0 : Int) ≤ o)) = true ∧
             (decide ((0 : Int) ≤ (lp1_0.length : Int))) = true ∧
             (decide ((lp1_0.length : Int) < n)) = true ∧
             (decide ((0 : Int) ≤ (o + (lp1_0.length : Int)))) = true ∧
             (decide ((o + (lp1_0.length : Int)) < ((List.length l12) : Int))) = true ∧
             R (.int .u32 (IntKind.wrap .u32 (IntKind.wrap .u64 (n1 - (1 : Int))))) V3 (List.set l12 (Int.toNat (o + (lp1_0.length : Int))) (IntKind.wrap .u32 ((List.getD l12 (Int.toNat (o + (lp1_0.length : Int))) 0) + (IntKind.wrap .u32 n10))))))))))))))))) ∧
     ((decide (n2 < (4294967296 : Int))) = false → (isSlV (.slice Ap1_0 lp1_0.length cp1_0)) = true ∧
      ∃ (I13 : List OV → VH → Prop) (μ13 : List OV → Nat), I13 [(OV.int .u64 (0 : Int)), (OV.int .i64 (0 : Int)), (OV.int .i64 (0 : Int)), (OV.lst l3)] V1 ∧
      ∀ V4 : VH, V1.le V4 → ∀ n14 : Int, ∀ n15 : Int, ∀ n16 : Int, ∀ l17 : List Int, (I13 [(OV.int .u64 n14), (OV.int .i64 n15), (OV.int .i64 n16), (OV.lst l17)] V4 →
       (((decide (n16 < (lp1_0.length : Int))) = true → (hasBV (.slice Ap1_0 lp1_0.length cp1_0)) = true ∧
        (decide ((0 : Int) ≤ n16)) = true ∧
        (decide (n16 < (lp1_0.length : Int))) = true ∧
        RdV V4 .u32 (OV.sl Ap1_0 cp1_0 lp1_0) ∧
        (decide ((0 : Int) ≤ n16)) = true ∧
        (decide (n16 < ((List.length lp1_0) : Int))) = true ∧
        (decide ((0 : Int) ≤ o)) = true ∧
        (decide ((0 : Int) ≤ n16)) = true ∧
        (decide (n16 < n)) = true ∧
        (decide ((0 : Int) ≤ (o + n16))) = true ∧
        (decide ((o + n16) < ((List.length l17) : Int))) = true ∧
        (decide ((0 : Int) ≤ o)) = true ∧
        (decide ((0 : Int) ≤ n16)) = true ∧
        (decide (n16 < n)) = true ∧
        (decide ((0 : Int) ≤ (o + n16))) = true ∧
        (decide ((o + n16) < ((List.length l17) : Int))) = true ∧
        (((decide ((IntKind.wrap .i64 ((IntKind.wrap .i64 ((IntKind.wrap .i64 (List.getD l17 (Int.toNat (o + n16)) 0)) - n15)) - (IntKind.wrap .i64 (IntKind.wrap .u32 (IntKind.wrap .u64 (n14 + (IntKind.wrap .u64 (n1 * (IntKind.wrap .u64 (List.getD lp1_0 (Int.toNat n16) 0)))))))))) < (0 : Int))) = true → (I13 [(OV.int .u64 (Int.fdiv (IntKind.wrap .u64 (n14 + (IntKind.wrap .u64 (n1 * (IntKind.wrap .u64 (List.getD lp1_0 (Int.toNat n16) 0)))))) (4294967296 : Int))), (OV.int .i64 (1 : Int)), (OV.int .i64 (IntKind.wrap .i64 (n16 + (1 : Int)))), (OV.lst (List.set l17 (Int.toNat (o + n16)) (IntKind.wrap .u32 (IntKind.wrap .i64 ((IntKind.wrap .i64 ((IntKind.wrap .i64 (List.getD l17 (Int.toNat (o + n16)) 0)) - n15)) - (IntKind.wrap .i64 (IntKind.wrap .u32 (IntKind.wrap .u64 (n14 + (IntKind.wrap .u64 (n1 * (IntKind.wrap .u64 (List.getD lp1_0 (Int.toNat n16) 0)))))))))))))] V4 ∧ μ13 [(OV.int .u64 (Int.fdiv (IntKind.wrap .u64 (n14 + (IntKind.wrap .u64 (n1 * (IntKind.wrap .u64 (List.getD lp1_0 (Int.toNat n16) 0)))))) (4294967296 : Int))), (OV.int .i64 (1 : Int)), (OV.int .i64 (IntKind.wrap .i64 (n16 + (1 : Int)))), (OV.lst (List.set l17 (Int.toNat (o + n16)) (IntKind.wrap .u32 (IntKind.wrap .i64 ((IntKind.wrap .i64 ((IntKind.wrap .i64 (List.getD l17 (Int.toNat (o + n16)) 0)) - n15)) - (IntKind.wrap .i64 (IntKind.wrap .u32 (IntKind.wrap .u64 (n14 + (IntKind.wrap .u64 (n1 * (IntKind.wrap .u64 (List.getD lp1_0 (Int.toNat n16) 0)))))))))))))] < μ13 [(OV.int .u64 n14), (OV.int .i64 n15), (OV.int .i64 n16), (OV.lst l17)])) ∧
        ((decide ((IntKind.wrap .i64 ((IntKind.wrap .i64 ((IntKind.wrap .i64 (List.getD l17 (Int.toNat (o + n16)) 0)) - n15)) - (IntKind.wrap .i64 (IntKind.wrap .u32 (IntKind.wrap .u64 (n14 + (IntKind.wrap .u64 (n1 * (IntKind.wrap .u64 (List.getD lp1_0 (Int.toNat n16) 0)))))))))) < (0 : Int))) = false → (I13 [(OV.int .u64 (Int.fdiv (IntKind.wrap .u64 (n14 + (IntKind.wrap .u64 (n1 * (IntKind.wrap .u64 (List.getD lp1_0 (Int.toNat n16) 0)))))) (4294967296 : Int))), (OV.int .i64 (0 : Int)), (OV.int .i64 (IntKind.wrap .i64 (n16 + (1 : Int)))), (OV.lst (List.set l17 (Int.toNat (o + n16)) (IntKind.wrap .u32 (IntKind.wrap .i64 ((IntKind.wrap .i64 ((IntKind.wrap .i64 (List.getD l17 (Int.toNat (o + n16)) 0)) - n15)) - (IntKind.wrap .i64 (IntKind.wrap .u32 (IntKind.wrap .u64 (n14 + (IntKind.wrap .u64 (n1 * (IntKind.wrap .u64 (List.getD lp1_0 (Int.toNat n16) 0)))))))))))))] V4 ∧ μ13 [(OV.int .u64 (Int.fdiv (IntKind.wrap .u64 (n14 + (IntKind.wrap .u64 (n1 * (IntKind.wrap .u64 (List.getD lp1_0 (Int.toNat n16) 0)))))) (4294967296 : Int))), (OV.int .i64 (0 : Int)), (OV.int .i64 (IntKind.wrap .i64 (n16 + (1 : Int)))), (OV.lst (List.set l17 (Int.toNat (o + n16)) (IntKind.wrap .u32 (IntKind.wrap .i64 ((IntKind.wrap .i64 ((IntKind.wrap .i64 (List.getD l17 (Int.toNat (o + n16)) 0)) - n15)) - (IntKind.wrap .i64 (IntKind.wrap .u32 (IntKind.wrap .u64 (n14 + (IntKind.wrap .u64 (n1 * (IntKind.wrap .u64 (List.getD lp1_0 (Int.toNat n16) 0)))))))))))))] < μ13 [(OV.int .u64 n14), (OV.int .i64 n15), (OV.int .i64 n16), (OV.lst l17)])))) ∧
       ((decide (n16 < (lp1_0.length : Int))) = false → (decide ((0 : Int) ≤ o)) = true ∧
        (decide ((0 : Int) ≤ (lp1_0.length : Int))) = true ∧
        (decide ((lp1_0.length : Int) < n)) = true ∧
        (decide ((0 : Int) ≤ (o + (lp1_0.length : Int)))) = true ∧
        (decide ((o + (lp1_0.length : Int)) < ((List.length l17) : Int))) = true ∧
        (decide ((0 : Int) ≤ o)) = true ∧
        (decide ((0 : Int) ≤ (lp1_0.length : Int))) = true ∧
        (decide ((lp1_0.length : Int) < n)) = true ∧
        (decide ((0 : Int) ≤ (o + (lp1_0.length : Int)))) = true ∧
        (decide ((o + (lp1_0.length : Int)) < ((List.length l17) : Int))) = true ∧
        (((decide ((0 : Int) ≤ (IntKind.wrap .i64 ((IntKind.wrap .i64 ((IntKind.wrap .i64 (List.getD l17 (Int.toNat (o + (lp1_0.length : Int))) 0)) - n15)) - (IntKind.wrap .i64 n14))))) = true → R (.int .u32 (IntKind.wrap .u32 n1)) V4 (List.set l17 (Int.toNat (o + (lp1_0.length : Int))) (IntKind.wrap .u32 (IntKind.wrap .i64 ((IntKind.wrap .i64 ((IntKind.wrap .i64 (List.getD l17 (Int.toNat (o + (lp1_0.length : Int))) 0)) - n15)) - (IntKind.wrap .i64 n14)))))) ∧
        ((decide ((0 : Int) ≤ (IntKind.wrap .i64 ((IntKind.wrap .i64 ((IntKind.wrap .i64 (List.getD l17 (Int.toNat (o + (lp1_0.length : Int))) 0)) - n15)) - (IntKind.wrap .i64 n14))))) = false → (isSlV (.slice Ap1_0 lp1_0.length cp1_0)) = true ∧
         ∃ (I18 : List OV → VH → Prop) (μ18 : List OV → Nat), I18 [(OV.int .u64 (0 : Int)), (OV.int .i64 (0 : Int)), (OV.lst (List.set l17 (Int.toNat (o + (lp1_0.length : Int))) (IntKind.wrap .u32 (IntKind.wrap .i64 ((IntKind.wrap .i64 ((IntKind.wrap .i64 (List.getD l17 (Int.toNat (o + (lp1_0.length : Int))) 0)) - n15)) - (IntKind.wrap .i64 n14))))))] V4 ∧
         ∀ V5 : VH, V4.le V5 → ∀ n19 : Int, ∀ n20 : Int, ∀ l21 : List Int, (I18 [(OV.int .u64 n19), (OV.int .i64 n20), (OV.lst l21)] V5 →
          (((decide (n20 < (lp1_0.length : Int))) = true → (hasBV (.slice Ap1_0 lp1_0.length cp1_0)) = true ∧
           (decide ((0 : Int) ≤ n20)) = true ∧
           (decide (n20 < (lp1_0.length : Int))) = true ∧
           RdV V5 .u32 (OV.sl Ap1_0 cp1_0 lp1_0) ∧
           (decide ((0 : Int) ≤ n20)) = true ∧
           (decide (n20 < ((List.length lp1_0) : Int))) = true ∧
           (decide ((0 : Int) ≤ o)) = true ∧
           (decide ((0 : Int) ≤ n20)) = true ∧
           (decide (n20 < n)) = true ∧
           (decide ((0 : Int) ≤ (o + n20))) = true ∧
           (decide ((o + n20) < ((List.length l21) : Int))) = true ∧
           (decide ((0 : Int) ≤ o)) = true ∧
           (decide ((0 : Int) ≤ n20)) = true ∧
           (decide (n20 < n)) = true ∧
           (decide ((0 : Int) ≤ (o + n20))) = true ∧
           (decide ((o + n20) < ((List.length l21) : Int))) = true ∧
           (I18 [(OV.int .u64 (Int.fdiv (IntKind.wrap .u64 (n19 + (IntKind.wrap .u64 ((IntKind.wrap .u64 (List.getD l21 (Int.toNat (o + n20)) 0)) + (IntKind.wrap .u64 (List.getD lp1_0 (Int.toNat n20) 0)))))) (4294967296 : Int))), (OV.int .i64 (IntKind.wrap .i64 (n20 + (1 : Int)))), (OV.lst (List.set l21 (Int.toNat (o + n20)) (IntKind.wrap .u32 (IntKind.wrap .u64 (n19 + (IntKind.wrap .u64 ((IntKind.wrap .u64 (List.getD l21 (Int.toNat (o + n20)) 0)) + (IntKind.wrap .u64 (List.getD lp1_0 (Int.toNat n20) 0)))))))))] V5 ∧ μ18 [(OV.int .u64 (Int.fdiv (IntKind.wrap .u64 (n19 + (IntKind.wrap .u64 ((IntKind.wrap .u64 (List.getD l21 (Int.toNat (o + n20)) 0)) + (IntKind.wrap .u64 (List.getD lp1_0 (Int.toNat n20) 0)))))) (4294967296 : Int))), (OV.int .i64 (IntKind.wrap .i64 (n20 + (1 : Int)))), (OV.lst (List.set l21 (Int.toNat (o + n20)) (IntKind.wrap .u32 (IntKind.wrap .u64 (n19 + (IntKind.wrap .u64 ((IntKind.wrap .u64 (List.getD l21 (Int.toNat (o + n20)) 0)) + (IntKind.wrap .u64 (List.getD lp1_0 (Int.toNat n20) 0)))))))))] < μ18 [(OV.int .u64 n19), (OV.int .i64 n20), (OV.lst l21)])) ∧
          ((decide (n20 < (lp1_0.length : Int))) = false → (decide ((0 : Int) ≤ o)) = true ∧
           (decide ((0 : Int) ≤ (lp1_0.length : Int))) = true ∧
           (decide ((lp1_0.length : Int) < n)) = true ∧
           (decide ((0 : Int) ≤ (o + (lp1_0.length : Int)))) = true ∧
           (decide ((o + (lp1_0.length : Int)) < ((List.length l21) : Int))) = true ∧
           (decide ((0 : Int) ≤ o)) = true ∧
           (decide ((0 : Int) ≤ (lp1_0.length : Int))) = true ∧
           (decide ((lp1_0.length : Int) < n)) = true ∧
           (decide ((0 : Int) ≤ (o + (lp1_0.length : Int)))) = true ∧
           (decide ((o + (lp1_0.length : Int)) < ((List.length l21) : Int))) = true ∧
           R (.int .u32 (IntKind.wrap .u32 (IntKind.wrap .u64 (n1 - (1 : Int))))) V5 (List.set l21 (Int.toNat (o + (lp1_0.length : Int))) (IntKind.wrap .u32 ((List.getD l21 (Int.toNat (o + (lp1_0.length : Int))) 0) + (IntKind.wrap .u32 n19)))))))))))))))) :
    CSpecB Tryz.prog n_integer_digit #[(.slice (some ⟨m, Int.toNat o, none⟩) (Int.toNat n) (Int.toNat c)), (.slice Ap1_0 lp1_0.length cp1_0)] V0 m ELTryz .u32 L R :=
  enterB (l := calTryz) (bor := borTryz) (own := ownTryz) (giv := givTryz) (grw := false) calOkTryz mixTryz Tryz.func215 (args := [.one (.slice 0 (.var (OV.int .i64 o)) (.var (OV.int .i64 n)) (.var (OV.int .i64 c))), .one (.val (OV.sl Ap1_0 cp1_0 lp1_0))]) (fuel := 3000) (hh := [.auto, .auto, .auto, .auto]) (by kernel_rfl) (Eq.mpr (by kernel_rfl) h)
-- dowel/integer.divide
theorem E_integer_divide (Ap0_0 : Option Addr) (cp0_0 : Nat) (lp0_0 : List Int) (Ap1_0 : Option Addr) (cp1_0 : Nat) (lp1_0 : List Int) (V0 : VH) (R : Value → VH → Prop)
    (h : CSpec Tryz.prog n_integer_order #[(.slice Ap0_0 lp0_0.length cp0_0), (.slice Ap1_0 lp1_0.length cp1_0)] V0 fun v0 V1 =>
    ∃ n0 : Int, v0 = (.int .i64 n0) ∧
    (((decide (n0 < (0 : Int))) = true → R (.tuple #[(.slice none 0 0), (.slice Ap0_0 lp0_0.length cp0_0)]) V1) ∧
    ((decide (n0 < (0 : Int))) = false → (isSlV (.slice Ap1_0 lp1_0.length cp1_0)) = true ∧
     ((((lp1_0.length : Int) == (1 : Int)) = true → (hasBV (.slice Ap1_0 lp1_0.length cp1_0)) = true ∧
      (decide ((0 : Int) < (lp1_0.length : Int))) = true ∧
      RdV V1 .u32 (OV.sl Ap1_0 cp1_0 lp1_0) ∧
      (decide ((0 : Int) < ((List.length lp1_0) : Int))) = true ∧
      CSpec Tryz.prog n_integer_short #[(.slice Ap0_0 lp0_0.length cp0_0), (.int .u32 (List.getD lp1_0 (Int.toNat (0 : Int)) 0))] V1 fun v1 V2 =>
      ∃ (A1 : Option Addr) (c1 : Nat) (l1 : List Int), ∃ n2 : Int, v1 = (.tuple #[(.slice A1 l1.length c1), (.int .u32 n2)]) ∧
      ∀ m3 : Nat, (V2.f m3 = none →
      CSpec Tryz.prog n_integer_trim #[(.slice (some ⟨m3, Int.toNat (0 : Int), none⟩) (Int.toNat (1 : Int)) (Int.toNat (1 : Int)))] (V2.put m3 (.cells #[(.int .u32 n2)] 216)) fun v2 V3 =>
      ∃ (A4 : Option Addr) (c4 : Nat) (l4 : List Int), v2 = (.slice A4 l4.length c4) ∧
      R (.tuple #[(.slice A1 l1.length c1), (.slice A4 l4.length c4)]) V3)) ∧
     (((lp1_0.length : Int) == (1 : Int)) = false → (isSlV (.slice Ap1_0 lp1_0.length cp1_0)) = true ∧
      (hasBV (.slice Ap1_0 lp1_0.length cp1_0)) = true ∧
      (decide ((0 : Int) ≤ (IntKind.wrap .i64 ((lp1_0.length : Int) - (1 : Int))))) = true ∧
      (decide ((IntKind.wrap .i64 ((lp1_0.length : Int) - (1 : Int))) < (lp1_0.length : Int))) = true ∧
      RdV V1 .u32 (OV.sl Ap1_0 cp1_0 lp1_0) ∧
      (decide ((0 : Int) ≤ (IntKind.wrap .i64 ((lp1_0.length : Int) - (1 : Int))))) = true ∧
      (decide ((IntKind.wrap .i64 ((lp1_0.length : Int) - (1 : Int))) < ((List.length lp1_0) : Int))) = true ∧
      CSpec Tryz.prog n_math_bits_LeadingZeros32 #[(.int .u32 (List.getD lp1_0 (Int.toNat (IntKind.wrap .i64 ((lp1_0.length : Int) - (1 : Int)))) 0))] V1 fun v3 V4 =>
      ∃ n5 : Int, v3 = (.int .i64 n5) ∧
      CSpecO Tryz.prog n_integer_raised #[(.slice Ap0_0 lp0_0.length cp0_0), (.int .i64 n5)] V4 216 .u32 (fun v4 V5 =>
      False /- FAIL_none -/)
      (fun v4 V5 m4 L4 =>
      ∃ n6 : Int, ∃ n7 : Int, v4 = (.slice (some ⟨m4, Int.toNat (0 : Int), none⟩) (Int.toNat n6) (Int.toNat n7)) ∧
       CSpecO Tryz.prog n_integer_raised #[(.slice Ap1_0 lp1_0.length cp1_0), (.int .i64 n5)] V5 216 .u32 (fun v5 V6 =>
       False /- FAIL_none -/)
       (fun v5 V6 m5 L5 =>
       ∃ n8 : Int, ∃ n9 : Int, v5 = (.slice (some ⟨m5, Int.toNat (0 : Int), none⟩) (Int.toNat n8) (Int.toNat n9)) ∧
        (V6.f m5 = none →
        CSpec Tryz.prog n_integer_trim #[(.slice (some ⟨m5, Int.toNat (0 : Int), none⟩) (Int.toNat n8) (Int.toNat n9))] (V6.put m5 (.cells (List.toArray (List.map (Value.int .u32) L5)) 216)) fun v6 V7 =>
        ∃ (A10 : Option Addr) (c10 : Nat) (l10 : List Int), v6 = (.slice A10 l10.length c10) ∧
        (isSlV (.slice Ap0_0 lp0_0.length cp0_0)) = true ∧
        (isSlV (.slice Ap1_0 lp1_0.length cp1_0)) = true ∧
        (decide ((0 : Int) ≤ (IntKind.wrap .i64 ((IntKind.wrap .i64 ((lp0_0.length : Int) - (lp1_0.length : Int))) + (1 : Int))))) = true ∧
        (decide ((IntKind.wrap .i64 ((IntKind.wrap .i64 ((lp0_0.length : Int) - (lp1_0.length : Int))) + (1 : Int))) ≤ (1099511627776 : Int))) = true ∧
        ∀ m11 : Nat, (decide ((0 : Int) ≤ (IntKind.wrap .i64 ((IntKind.wrap .i64 ((lp0_0.length : Int) - (lp1_0.length : Int))) + (1 : Int))))) = true ∧
        ∃ (I12 : List OV → VH → Prop) (μ12 : List OV → Nat), I12 [(OV.int .i64 (IntKind.wrap .i64 ((IntKind.wrap .i64 ((IntKind.wrap .i64 ((lp0_0.length : Int) - (lp1_0.length : Int))) + (1 : Int))) - (1 : Int)))), (OV.lst (List.replicate (Int.toNat (IntKind.wrap .i64 ((IntKind.wrap .i64 ((lp0_0.length : Int) - (lp1_0.length : Int))) + (1 : Int)))) (0 : Int))), (OV.lst L4)] V7 ∧
        ∀ V8 : VH, V7.le V8 → ∀ n13 : Int, ∀ l14 : List Int, ∀ l15 : List Int, (I12 [(OV.int .i64 n13), (OV.lst l14), (OV.lst l15)] V8 →
         (((decide ((0 : Int) ≤ n13)) = true → (isSlV (.slice A10 l10.length c10)) = true ∧
          (decide ((0 : Int) ≤ n13)) = true ∧
          (decide (n13 ≤ (IntKind.wrap .i64 ((IntKind.wrap .i64 (n13 + (l10.length : Int))) + (1 : Int))))) = true ∧
          (decide ((IntKind.wrap .i64 ((IntKind.wrap .i64 (n13 + (l10.length : Int))) + (1 : Int))) ≤ n7)) = true ∧
          (decide (n13 < n7)) = true ∧
          CSpecB Tryz.prog n_integer_digit #[(.slice (some ⟨m4, Int.toNat n13, none⟩) (Int.toNat ((IntKind.wrap .i64 ((IntKind.wrap .i64 (n13 + (l10.length : Int))) + (1 : Int))) - n13)) (Int.toNat (n7 - n13))), (.slice A10 l10.length c10)] V8 m4 216 .u32 l15 fun v8 V9 L8 =>
          ∃ n16 : Int, v8 = (.int .u32 n16) ∧
          (decide ((0 : Int) ≤ n13)) = true ∧
          (decide (n13 < (IntKind.wrap .i64 ((IntKind.wrap .i64 ((lp0_0.length : Int) - (lp1_0.length : Int))) + (1 : Int))))) = true ∧
          (decide ((0 : Int) ≤ n13)) = true ∧
          (decide (n13 < ((List.length l14) : Int))) = true ∧
          (I12 [(OV.int .i64 (IntKind.wrap .i64 (n13 - (1 : Int)))), (OV.lst (List.set l14 (Int.toNat n13) n16)), (OV.lst L8)] V9 ∧ μ12 [(OV.int .i64 (IntKind.wrap .i64 (n13 - (1 : Int)))), (OV.lst (List.set l14 (Int.toNat n13) n16)), (OV.lst L8)] < μ12 [(OV.int .i64 n13), (OV.lst l14), (OV.lst l15)])) ∧
         ((decide ((0 : Int) ≤ n13)) = false → (V8.f m11 = none →
          CSpec Tryz.prog n_integer_trim #[(.slice (some ⟨m11, Int.toNat (0 : Int), none⟩) (Int.toNat (IntKind.wrap .i64 ((IntKind.wrap .i64 ((lp0_0.length : Int) - (lp1_0.length : Int))) + (1 : Int)))) (Int.toNat (IntKind.wrap .i64 ((IntKind.wrap .i64 ((lp0_0.length : Int) - (lp1_0.length : Int))) + (1 : Int)))))] (V8.put m11 (.cells (List.toArray (List.map (Value.int .u32) l14)) 216)) fun v9 V10 =>
          ∃ (A17 : Option Addr) (c17 : Nat) (l17 : List Int), v9 = (.slice A17 l17.length c17) ∧
          (V10.f m4 = none →
          CSpec Tryz.prog n_integer_trim #[(.slice (some ⟨m4, Int.toNat (0 : Int), none⟩) (Int.toNat n6) (Int.toNat n7))] (V10.put m4 (.cells (List.toArray (List.map (Value.int .u32) l15)) 216)) fun v10 V11 =>
          ∃ (A18 : Option Addr) (c18 : Nat) (l18 : List Int), v10 = (.slice A18 l18.length c18) ∧
          CSpec Tryz.prog n_integer_lowered #[(.slice A18 l18.length c18), (.int .i64 n5)] V11 fun v11 V12 =>
          ∃ (A19 : Option Addr) (c19 : Nat) (l19 : List Int), v11 = (.slice A19 l19.length c19) ∧
          R (.tuple #[(.slice A17 l17.length c17), (.slice A19 l19.length c19)]) V12))))))))))))) :
    CSpec Tryz.prog n_integer_divide #[(.slice Ap0_0 lp0_0.length cp0_0), (.slice Ap1_0 lp1_0.length cp1_0)] V0 R :=
  enter (l := calTryz) (bor := borTryz) (own := ownTryz) (giv := givTryz) (grw := false) calOkTryz mixTryz Tryz.func178 (args := [.one (.val (OV.sl Ap0_0 cp0_0 lp0_0)), .one (.val (OV.sl Ap1_0 cp1_0 lp1_0))]) (fuel := 3000) (hh := [.auto]) (by kernel_rfl) (Eq.mpr (by kernel_rfl) h)
-- dowel/integer.DivMod
theorem E_integer_DivMod (p0_0 : R2) (p1_0 : R2) (V0 : VH) (R : Value → VH → Prop)
    (h : ∀ m0 : Nat, ∀ m1 : Nat, ∀ m2 : Nat, ∀ m3 : Nat, CSpec Tryz.prog n_integer_Int_Sign #[(.agg #[(.bool p1_0.n), (.slice p1_0.A p1_0.l.length p1_0.c)])] V0 fun v0 V1 =>
    ∃ n4 : Int, v0 = (.int .i64 n4) ∧
    (((n4 == (0 : Int)) = true → R (.tuple #[(.agg #[(.bool false), (.slice none 0 0)]), (.agg #[(.bool false), (.slice none 0 0)]), (.int .i64 (19 : Int))]) V1) ∧
    ((n4 == (0 : Int)) = false → CSpec Tryz.prog n_integer_divide #[(.slice p0_0.A p0_0.l.length p0_0.c), (.slice p1_0.A p1_0.l.length p1_0.c)] V1 fun v1 V2 =>
     ∃ (A5 : Option Addr) (c5 : Nat) (l5 : List Int), ∃ (A6 : Option Addr) (c6 : Nat) (l6 : List Int), v1 = (.tuple #[(.slice A5 l5.length c5), (.slice A6 l6.length c6)]) ∧
     CSpec Tryz.prog n_integer_signed #[(.bool (!(p0_0.n == p1_0.n))), (.slice A5 l5.length c5)] V2 fun v2 V3 =>
     ∃ i7 : R2, v2 = (.agg #[(.bool i7.n), (.slice i7.A i7.l.length i7.c)]) ∧
     CSpec Tryz.prog n_integer_signed #[(.bool p0_0.n), (.slice A6 l6.length c6)] V3 fun v3 V4 =>
     ∃ i8 : R2, v3 = (.agg #[(.bool i8.n), (.slice i8.A i8.l.length i8.c)]) ∧
     CSpec Tryz.prog n_integer_Int_Sign #[(.agg #[(.bool i8.n), (.slice i8.A i8.l.length i8.c)])] V4 fun v4 V5 =>
     ∃ n9 : Int, v4 = (.int .i64 n9) ∧
     (((!(n9 == (0 : Int))) = true → (((!(i8.n == p1_0.n)) = true → ((((CSpec Tryz.prog n_integer_From #[(.int .i64 (1 : Int))] V5 fun v5 V6 =>
         ∃ i10 : R2, v5 = (.agg #[(.bool i10.n), (.slice i10.A i10.l.length i10.c)]) ∧
         ((CSpec Tryz.prog n_integer_Sub #[(.agg #[(.bool i7.n), (.slice i7.A i7.l.length i7.c)]), (.agg #[(.bool i10.n), (.slice i10.A i10.l.length i10.c)])] V6 fun v6 V7 =>
          ∃ i11 : R2, v6 = (.agg #[(.bool i11.n), (.slice i11.A i11.l.length i11.c)]) ∧
          CSpec Tryz.prog n_integer_Add #[(.agg #[(.bool i8.n), (.slice i8.A i8.l.length i8.c)]), (.agg #[(.bool p1_0.n), (.slice p1_0.A p1_0.l.length p1_0.c)])] V7 fun v7 V8 =>
          ∃ i12 : R2, v7 = (.agg #[(.bool i12.n), (.slice i12.A i12.l.length i12.c)]) ∧
          ((((R (.tuple #[(.agg #[(.bool i11.n), (.slice i11.A i11.l.length i11.c)]), (.agg #[(.bool i12.n), (.slice i12.A i12.l.length i12.c)]), (.int .i64 (0 : Int))]) V8) ∧
           (R (.tuple #[(.agg #[(.bool i11.n), (.slice i11.A i11.l.length i11.c)]), (.agg #[(.bool i12.n), (.slice i12.A i12.l.length i12.c)]), (.int .i64 (0 : Int))]) V8))) ∧
          (R (.tuple #[(.agg #[(.bool i11.n), (.slice i11.A i11.l.length i11.c)]), (.agg #[(.bool i12.n), (.slice i12.A i12.l.length i12.c)]), (.int .i64 (0 : Int))]) V8))) ∧
         (CSpec Tryz.prog n_integer_Sub #[(.agg #[(.bool i7.n), (.slice i7.A i7.l.length i7.c)]), (.agg #[(.bool i10.n), (.slice i10.A i10.l.length i10.c)])] V6 fun v8 V9 =>
          ∃ i13 : R2, v8 = (.agg #[(.bool i13.n), (.slice i13.A i13.l.length i13.c)]) ∧
          CSpec Tryz.prog n_integer_Add #[(.agg #[(.bool i8.n), (.slice i8.A i8.l.length i8.c)]), (.agg #[(.bool p1_0.n), (.slice p1_0.A p1_0.l.length p1_0.c)])] V9 fun v9 V10 =>
          ∃ i14 : R2, v9 = (.agg #[(.bool i14.n), (.slice i14.A i14.l.length i14.c)]) ∧
          ((((R (.tuple #[(.agg #[(.bool i13.n), (.slice i13.A i13.l.length i13.c)]), (.agg #[(.bool i14.n), (.slice i14.A i14.l.length i14.c)]), (.int .i64 (0 : Int))]) V10) ∧
           (R (.tuple #[(.agg #[(.bool i13.n), (.slice i13.A i13.l.length i13.c)]), (.agg #[(.bool i14.n), (.slice i14.A i14.l.length i14.c)]), (.int .i64 (0 : Int))]) V10))) ∧
          (R (.tuple #[(.agg #[(.bool i13.n), (.slice i13.A i13.l.length i13.c)]), (.agg #[(.bool i14.n), (.slice i14.A i14.l.length i14.c)]), (.int .i64 (0 : Int))]) V10))))) ∧
        (CSpec Tryz.prog n_integer_From #[(.int .i64 (1 : Int))] V5 fun v10 V11 =>
         ∃ i15 : R2, v10 = (.agg #[(.bool i15.n), (.slice i15.A i15.l.length i15.c)]) ∧
         CSpec Tryz.prog n_integer_Sub #[(.agg #[(.bool i7.n), (.slice i7.A i7.l.length i7.c)]), (.agg #[(.bool i15.n), (.slice i15.A i15.l.length i15.c)])] V11 fun v11 V12 =>
         ∃ i16 : R2, v11 = (.agg #[(.bool i16.n), (.slice i16.A i16.l.length i16.c)]) ∧
         CSpec Tryz.prog n_integer_Add #[(.agg #[(.bool i8.n), (.slice i8.A i8.l.length i8.c)]), (.agg #[(.bool p1_0.n), (.slice p1_0.A p1_0.l.length p1_0.c)])] V12 fun v12 V13 =>
         ∃ i17 : R2, v12 = (.agg #[(.bool i17.n), (.slice i17.A i17.l.length i17.c)]) ∧
         ((((R (.tuple #[(.agg #[(.bool i16.n), (.slice i16.A i16.l.length i16.c)]), (.agg #[(.bool i17.n), (.slice i17.A i17.l.length i17.c)]), (.int .i64 (0 : Int))]) V13) ∧
          (R (.tuple #[(.agg #[(.bool i16.n), (.slice i16.A i16.l.length i16.c)]), (.agg #[(.bool i17.n), (.slice i17.A i17.l.length i17.c)]), (.int .i64 (0 : Int))]) V13))) ∧
         (R (.tuple #[(.agg #[(.bool i16.n), (.slice i16.A i16.l.length i16.c)]), (.agg #[(.bool i17.n), (.slice i17.A i17.l.length i17.c)]), (.int .i64 (0 : Int))]) V13))))) ∧
       (((CSpec Tryz.prog n_integer_From #[(.int .i64 (1 : Int))] V5 fun v13 V14 =>
         ∃ i18 : R2, v13 = (.agg #[(.bool i18.n), (.slice i18.A i18.l.length i18.c)]) ∧
         ((((CSpec Tryz.prog n_integer_Sub #[(.agg #[(.bool i7.n), (.slice i7.A i7.l.length i7.c)]), (.agg #[(.bool i18.n), (.slice i18.A i18.l.length i18.c)])] V14 fun v14 V15 =>
           ∃ i19 : R2, v14 = (.agg #[(.bool i19.n), (.slice i19.A i19.l.length i19.c)]) ∧
           CSpec Tryz.prog n_integer_Add #[(.agg #[(.bool i8.n), (.slice i8.A i8.l.length i8.c)]), (.agg #[(.bool p1_0.n), (.slice p1_0.A p1_0.l.length p1_0.c)])] V15 fun v15 V16 =>
           ∃ i20 : R2, v15 = (.agg #[(.bool i20.n), (.slice i20.A i20.l.length i20.c)]) ∧
           ((((R (.tuple #[(.agg #[(.bool i19.n), (.slice i19.A i19.l.length i19.c)]), (.agg #[(.bool i20.n), (.slice i20.A i20.l.length i20.c)]), (.int .i64 (0 : Int))]) V16) ∧
            (R (.tuple #[(.agg #[(.bool i19.n), (.slice i19.A i19.l.length i19.c)]), (.agg #[(.bool i20.n), (.slice i20.A i20.l.length i20.c)]), (.int .i64 (0 : Int))]) V16))) ∧
           (R (.tuple #[(.agg #[(.bool i19.n), (.slice i19.A i19.l.length i19.c)]), (.agg #[(.bool i20.n), (.slice i20.A i20.l.length i20.c)]), (.int .i64 (0 : Int))]) V16))) ∧
          (CSpec Tryz.prog n_integer_Sub #[(.agg #[(.bool i7.n), (.slice i7.A i7.l.length i7.c)]), (.agg #[(.bool i18.n), (.slice i18.A i18.l.length i18.c)])] V14 fun v16 V17 =>
           ∃ i21 : R2, v16 = (.agg #[(.bool i21.n), (.slice i21.A i21.l.length i21.c)]) ∧
           CSpec Tryz.prog n_integer_Add #[(.agg #[(.bool i8.n), (.slice i8.A i8.l.length i8.c)]), (.agg #[(.bool p1_0.n), (.slice p1_0.A p1_0.l.length p1_0.c)])] V17 fun v17 V18 =>
           ∃ i22 : R2, v17 = (.agg #[(.bool i22.n), (.slice i22.A i22.l.length i22.c)]) ∧
           ((((R (.tuple #[(.agg #[(.bool i21.n), (.slice i21.A i21.l.length i21.c)]), (.agg #[(.bool i22.n), (.slice i22.A i22.l.length i22.c)]), (.int .i64 (0 : Int))]) V18) ∧
            (R (.tuple #[(.agg #[(.bool i21.n), (.slice i21.A i21.l.length i21.c)]), (.agg #[(.bool i22.n), (.slice i22.A i22.l.length i22.c)]), (.int .i64 (0 : Int))]) V18))) ∧
           (R (.tuple #[(.agg #[(.bool i21.n), (.slice i21.A i21.l.length i21.c)]), (.agg #[(.bool i22.n), (.slice i22.A i22.l.length i22.c)]), (.int .i64 (0 : Int))]) V18))))) ∧
         (CSpec Tryz.prog n_integer_Sub #[(.agg #[(.bool i7.n), (.slice i7.A i7.l.length i7.c)]), (.agg #[(.bool i18.n), (.slice i18.A i18.l.length i18.c)])] V14 fun v18 V19 =>
          ∃ i23 : R2, v18 = (.agg #[(.bool i23.n), (.slice i23.A i23.l.length i23.c)]) ∧
          CSpec Tryz.prog n_integer_Add #[(.agg #[(.bool i8.n), (.slice i8.A i8.l.length i8.c)]), (.agg #[(.bool p1_0.n), (.slice p1_0.A p1_0.l.length p1_0.c)])] V19 fun v19 V20 =>
          ∃ i24 : R2, v19 = (.agg #[(.bool i24.n), (.slice i24.A i24.l.length i24.c)]) ∧
          ((((R (.tuple #[(.agg #[(.bool i23.n), (.slice i23.A i23.l.length i23.c)]), (.agg #[(.bool i24.n), (.slice i24.A i24.l.length i24.c)]), (.int .i64 (0 : Int))]) V20) ∧
           (R (.tuple #[(.agg #[(.bool i23.n), (.slice i23.A i23.l.length i23.c)]), (.agg #[(.bool i24.n), (.slice i24.A i24.l.length i24.c)]), (.int .i64 (0 : Int))]) V20))) ∧
          (R (.tuple #[(.agg #[(.bool i23.n), (.slice i23.A i23.l.length i23.c)]), (.agg #[(.bool i24.n), (.slice i24.A i24.l.length i24.c)]), (.int .i64 (0 : Int))]) V20))))) ∧
        (((CSpec Tryz.prog n_integer_From #[(.int .i64 (1 : Int))] V5 fun v20 V21 =>
          ∃ i25 : R2, v20 = (.agg #[(.bool i25.n), (.slice i25.A i25.l.length i25.c)]) ∧
          CSpec Tryz.prog n_integer_Sub #[(.agg #[(.bool i7.n), (.slice i7.A i7.l.length i7.c)]), (.agg #[(.bool i25.n), (.slice i25.A i25.l.length i25.c)])] V21 fun v21 V22 =>
          ∃ i26 : R2, v21 = (.agg #[(.bool i26.n), (.slice i26.A i26.l.length i26.c)]) ∧
          CSpec Tryz.prog n_integer_Add #[(.agg #[(.bool i8.n), (.slice i8.A i8.l.length i8.c)]), (.agg #[(.bool p1_0.n), (.slice p1_0.A p1_0.l.length p1_0.c)])] V22 fun v22 V23 =>
          ∃ i27 : R2, v22 = (.agg #[(.bool i27.n), (.slice i27.A i27.l.length i27.c)]) ∧
          ((((R (.tuple #[(.agg #[(.bool i26.n), (.slice i26.A i26.l.length i26.c)]), (.agg #[(.bool i27.n), (.slice i27.A i27.l.length i27.c)]), (.int .i64 (0 : Int))]) V23) ∧
           (R (.tuple #[(.agg #[(.bool i26.n), (.slice i26.A i26.l.length i26.c)]), (.agg #[(.bool i27.n), (.slice i27.A i27.l.length i27.c)]), (.int .i64 (0 : Int))]) V23))) ∧
          (R (.tuple #[(.agg #[(.bool i26.n), (.slice i26.A i26.l.length i26.c)]), (.agg #[(.bool i27.n), (.slice i27.A i27.l.length i27.c)]), (.int .i64 (0 : Int))]) V23))) ∧
         (CSpec Tryz.prog n_integer_From #[(.int .i64 (1 : Int))] V5 fun v23 V24 =>
          ∃ i28 : R2, v23 = (.agg #[(.bool i28.n), (.slice i28.A i28.l.length i28.c)]) ∧
          CSpec Tryz.prog n_integer_Sub #[(.agg #[(.bool i7.n), (.slice i7.A i7.l.length i7.c)]), (.agg #[(.bool i28.n), (.slice i28.A i28.l.length i28.c)])] V24 fun v24 V25 =>
          ∃ i29 : R2, v24 = (.agg #[(.bool i29.n), (.slice i29.A i29.l.length i29.c)]) ∧
          CSpec Tryz.prog n_integer_Add #[(.agg #[(.bool i8.n), (.slice i8.A i8.l.length i8.c)]), (.agg #[(.bool p1_0.n), (.slice p1_0.A p1_0.l.length p1_0.c)])] V25 fun v25 V26 =>
          ∃ i30 : R2, v25 = (.agg #[(.bool i30.n), (.slice i30.A i30.l.length i30.c)]) ∧
          ((((R (.tuple #[(.agg #[(.bool i29.n), (.slice i29.A i29.l.length i29.c)]), (.agg #[(.bool i30.n), (.slice i30.A i30.l.length i30.c)]), (.int .i64 (0 : Int))]) V26) ∧
           (R (.tuple #[(.agg #[(.bool i29.n), (.slice i29.A i29.l.length i29.c)]), (.agg #[(.bool i30.n), (.slice i30.A i30.l.length i30.c)]), (.int .i64 (0 : Int))]) V26))) ∧
          (R (.tuple #[(.agg #[(.bool i29.n), (.slice i29.A i29.l.length i29.c)]), (.agg #[(.bool i30.n), (.slice i30.A i30.l.length i30.c)]), (.int .i64 (0 : Int))]) V26))))))))) ∧
      ((!(i8.n == p1_0.n)) = false → ((((R (.tuple #[(.agg #[(.bool i7.n), (.slice i7.A i7.l.length i7.c)]), (.agg #[(.bool i8.n), (.slice i8.A i8.l.length i8.c)]), (.int .i64 (0 : Int))]) V5) ∧
        (R (.tuple #[(.agg #[(.bool i7.n), (.slice i7.A i7.l.length i7.c)]), (.agg #[(.bool i8.n), (.slice i8.A i8.l.length i8.c)]), (.int .i64 (0 : Int))]) V5))) ∧
       (R (.tuple #[(.agg #[(.bool i7.n), (.slice i7.A i7.l.length i7.c)]), (.agg #[(.bool i8.n), (.slice i8.A i8.l.length i8.c)]), (.int .i64 (0 : Int))]) V5))))) ∧
     ((!(n9 == (0 : Int))) = false → ((((R (.tuple #[(.agg #[(.bool i7.n), (.slice i7.A i7.l.length i7.c)]), (.agg #[(.bool i8.n), (.slice i8.A i8.l.length i8.c)]), (.int .i64 (0 : Int))]) V5) ∧
       (R (.tuple #[(.agg #[(.bool i7.n), (.slice i7.A i7.l.length i7.c)]), (.agg #[(.bool i8.n), (.slice i8.A i8.l.length i8.c)]), (.int .i64 (0 : Int))]) V5))) ∧
      (R (.tuple #[(.agg #[(.bool i7.n), (.slice i7.A i7.l.length i7.c)]), (.agg #[(.bool i8.n), (.slice i8.A i8.l.length i8.c)]), (.int .i64 (0 : Int))]) V5))))))) :
    CSpec Tryz.prog n_integer_DivMod #[(.agg #[(.bool p0_0.n), (.slice p0_0.A p0_0.l.length p0_0.c)]), (.agg #[(.bool p1_0.n), (.slice p1_0.A p1_0.l.length p1_0.c)])] V0 R :=
  enter (l := calTryz) (bor := borTryz) (own := ownTryz) (giv := givTryz) (grw := false) calOkTryz mixTryz Tryz.func156 (args := [.agg [.bool (.var p0_0.a), .val p0_0.b], .agg [.bool (.var p1_0.a), .val p1_0.b]]) (fuel := 3000) (hh := []) (by kernel_rfl) (Eq.mpr (by kernel_rfl) h)
-- dowel/integer.Gcd
theorem E_integer_Gcd (p0_0 : R2) (p1_0 : R2) (V0 : VH) (R : Value → VH → Prop)
    (h : ∀ m0 : Nat, ∀ m1 : Nat, ∀ m2 : Nat, ∃ (I3 : List OV → VH → Prop) (μ3 : List OV → Nat), I3 [p0_0.b, p1_0.b] V0 ∧
    ∀ V1 : VH, V0.le V1 → ∀ x4 : OV, ∀ x5 : OV, (I3 [x4, x5] V1 →
     (isSlV x5.v) = true ∧
     (((decide ((0 : Int) < (lenV x5.v))) = true → CSpec Tryz.prog n_integer_divide #[x4.v, x5.v] V1 fun v1 V2 =>
      ∃ (A6 : Option Addr) (c6 : Nat) (l6 : List Int), ∃ (A7 : Option Addr) (c7 : Nat) (l7 : List Int), v1 = (.tuple #[(.slice A6 l6.length c6), (.slice A7 l7.length c7)]) ∧
      (I3 [x5, (OV.sl A7 c7 l7)] V2 ∧ μ3 [x5, (OV.sl A7 c7 l7)] < μ3 [x4, x5])) ∧
     ((decide ((0 : Int) < (lenV x5.v))) = false → R (.agg #[(.bool false), x4.v]) V1)))) :
    CSpec Tryz.prog n_integer_Gcd #[(.agg #[(.bool p0_0.n), (.slice p0_0.A p0_0.l.length p0_0.c)]), (.agg #[(.bool p1_0.n), (.slice p1_0.A p1_0.l.length p1_0.c)])] V0 R :=
  enter (l := calTryz) (bor := borTryz) (own := ownTryz) (giv := givTryz) (grw := false) calOkTryz mixTryz Tryz.func131 (args := [.agg [.bool (.var p0_0.a), .val p0_0.b], .agg [.bool (.var p1_0.a), .val p1_0.b]]) (fuel := 3000) (hh := [.auto]) (by kernel_rfl) (Eq.mpr (by kernel_rfl) h)
-- math/bits.LeadingZeros32
theorem E_math_bits_LeadingZeros32 (p0_0 : Int) (V0 : VH) (R : Value → VH → Prop)
    (h : CSpec Tryz.prog n_math_bits_Len32 #[(.int .u32 p0_0)] V0 fun v0 V1 =>
    ∃ n0 : Int, v0 = (.int .i64 n0) ∧
    R (.int .i64 (IntKind.wrap .i64 ((32 : Int) - n0))) V1) :
    CSpec Tryz.prog n_math_bits_LeadingZeros32 #[(.int .u32 p0_0)] V0 R :=
  enter (l := calTryz) (bor := borTryz) (own := ownTryz) (giv := givTryz) (grw := false) calOkTryz mixTryz Tryz.func213 (args := [.one (.int .u32 (.var (OV.int .u32 p0_0)))]) (fuel := 3000) (hh := []) (by kernel_rfl) (Eq.mpr (by kernel_rfl) h)
-- math/bits.Len32
theorem E_math_bits_Len32 (p0_0 : Int) (V0 : VH) (R : Value → VH → Prop)
    (h : (((decide ((65536 : Int) ≤ p0_0)) = true → (((decide ((256 : Int) ≤ (Int.fdiv p0_0 (65536 : Int)))) = true → (decide ((0 : Int) ≤ (IntKind.wrap .u8 (Int.fdiv (Int.fdiv p0_0 (65536 : Int)) (256 : Int))))) = true ∧
      (decide ((IntKind.wrap .u8 (Int.fdiv (Int.fdiv p0_0 (65536 : Int)) (256 : Int))) < (256 : Int))) = true ∧
      R (.int .i64 (IntKind.wrap .i64 ((24 : Int) + (IntKind.wrap .i64 (btV (⟨#[0, 1, 2, 2, 3, 3, 3, 3, 4, 4, 4, 4, 4, 4, 4, 4, 5, 5, 5, 5, 5, 5, 5, 5, 5, 5, 5, 5, 5, 5, 5, 5, 6, 6, 6, 6, 6, 6, 6, 6, 6, 6, 6, 6, 6, 6, 6, 6, 6, 6, 6, 6, 6, 6, 6, 6, 6, 6, 6, 6, 6, 6, 6, 6, 7, 7, 7, 7, 7, 7, 7, 7, 7, 7, 7, 7, 7, 7, 7, 7, 7, 7, 7, 7, 7, 7, 7, 7, 7, 7, 7, 7, 7, 7, 7, 7, 7, 7, 7, 7, 7, 7, 7, 7, 7, 7, 7, 7, 7, 7, 7, 7, 7, 7, 7, 7, 7, 7, 7, 7, 7, 7, 7, 7, 7, 7, 7, 7, 8, 8, 8, 8, 8, 8, 8, 8, 8, 8, 8, 8, 8, 8, 8, 8, 8, 8, 8, 8, 8, 8, 8, 8, 8, 8, 8, 8, 8, 8, 8, 8, 8, 8, 8, 8, 8, 8, 8, 8, 8, 8, 8, 8, 8, 8, 8, 8, 8, 8, 8, 8, 8, 8, 8, 8, 8, 8, 8, 8, 8, 8, 8, 8, 8, 8, 8, 8, 8, 8, 8, 8, 8, 8, 8, 8, 8, 8, 8, 8, 8, 8, 8, 8, 8, 8, 8, 8, 8, 8, 8, 8, 8, 8, 8, 8, 8, 8, 8, 8, 8, 8, 8, 8, 8, 8, 8, 8, 8, 8, 8, 8, 8, 8, 8, 8, 8, 8, 8, 8, 8, 8, 8, 8, 8, 8, 8, 8]⟩ : ByteArray) (IntKind.wrap .u8 (Int.fdiv (Int.fdiv p0_0 (65536 : Int)) (256 : Int)))))))) V0) ∧
     ((decide ((256 : Int) ≤ (Int.fdiv p0_0 (65536 : Int)))) = false → (decide ((0 : Int) ≤ (IntKind.wrap .u8 (Int.fdiv p0_0 (65536 : Int))))) = true ∧
      (decide ((IntKind.wrap .u8 (Int.fdiv p0_0 (65536 : Int))) < (256 : Int))) = true ∧
      R (.int .i64 (IntKind.wrap .i64 ((16 : Int) + (IntKind.wrap .i64 (btV (⟨#[0, 1, 2, 2, 3, 3, 3, 3, 4, 4, 4, 4, 4, 4, 4, 4, 5, 5, 5, 5, 5, 5, 5, 5, 5, 5, 5, 5, 5, 5, 5, 5, 6, 6, 6, 6, 6, 6, 6, 6, 6, 6, 6, 6, 6, 6, 6, 6, 6, 6, 6, 6, 6, 6, 6, 6, 6, 6, 6, 6, 6, 6, 6, 6, 7, 7, 7, 7, 7, 7, 7, 7, 7, 7, 7, 7, 7, 7, 7, 7, 7, 7, 7, 7, 7, 7, 7, 7, 7, 7, 7, 7, 7, 7, 7, 7, 7, 7, 7, 7, 7, 7, 7, 7, 7, 7, 7, 7, 7, 7, 7, 7, 7, 7, 7, 7, 7, 7, 7, 7, 7, 7, 7, 7, 7, 7, 7, 7, 8, 8, 8, 8, 8, 8, 8, 8, 8, 8, 8, 8, 8, 8, 8, 8, 8, 8, 8, 8, 8, 8, 8, 8, 8, 8, 8, 8, 8, 8, 8, 8, 8, 8, 8, 8, 8, 8, 8, 8, 8, 8, 8, 8, 8, 8, 8, 8, 8, 8, 8, 8, 8, 8, 8, 8, 8, 8, 8, 8, 8, 8, 8, 8, 8, 8, 8, 8, 8, 8, 8, 8, 8, 8, 8, 8, 8, 8, 8, 8, 8, 8, 8, 8, 8, 8, 8, 8, 8, 8, 8, 8, 8, 8, 8, 8, 8, 8, 8, 8, 8, 8, 8, 8, 8, 8, 8, 8, 8, 8, 8, 8, 8, 8, 8, 8, 8, 8, 8, 8, 8, 8, 8, 8, 8, 8, 8, 8]⟩ : ByteArray) (IntKind.wrap .u8 (Int.fdiv p0_0 (65536 : Int)))))))) V0))) ∧
    ((decide ((65536 : Int) ≤ p0_0)) = false → (((decide ((256 : Int) ≤ p0_0)) = true → (decide ((0 : Int) ≤ (IntKind.wrap .u8 (Int.fdiv p0_0 (256 : Int))))) = true ∧
      (decide ((IntKind.wrap .u8 (Int.fdiv p0_0 (256 : Int))) < (256 : Int))) = true ∧
      R (.int .i64 (IntKind.wrap .i64 ((8 : Int) + (IntKind.wrap .i64 (btV (⟨#[0, 1, 2, 2, 3, 3, 3, 3, 4, 4, 4, 4, 4, 4, 4, 4, 5, 5, 5, 5, 5, 5, 5, 5, 5, 5, 5, 5, 5, 5, 5, 5, 6, 6, 6, 6, 6, 6, 6, 6, 6, 6, 6, 6, 6, 6, 6, 6, 6, 6, 6, 6, 6, 6, 6, 6, 6, 6, 6, 6, 6, 6, 6, 6, 7, 7, 7, 7, 7, 7, 7, 7, 7, 7, 7, 7, 7, 7, 7, 7, 7, 7, 7, 7, 7, 7, 7, 7, 7, 7, 7, 7, 7, 7, 7, 7, 7, 7, 7, 7, 7, 7, 7, 7, 7, 7, 7, 7, 7, 7, 7, 7, 7, 7, 7, 7, 7, 7, 7, 7, 7, 7, 7, 7, 7, 7, 7, 7, 8, 8, 8, 8, 8, 8, 8, 8, 8, 8, 8, 8, 8, 8, 8, 8, 8, 8, 8, 8, 8, 8, 8, 8, 8, 8, 8, 8, 8, 8, 8, 8, 8, 8, 8, 8, 8, 8, 8, 8, 8, 8, 8, 8, 8, 8, 8, 8, 8, 8, 8, 8, 8, 8, 8, 8, 8, 8, 8, 8, 8, 8, 8, 8, 8, 8, 8, 8, 8, 8, 8, 8, 8, 8, 8, 8, 8, 8, 8, 8, 8, 8, 8, 8, 8, 8, 8, 8, 8, 8, 8, 8, 8, 8, 8, 8, 8, 8, 8, 8, 8, 8, 8, 8, 8, 8, 8, 8, 8, 8, 8, 8, 8, 8, 8, 8, 8, 8, 8, 8, 8, 8, 8, 8, 8, 8, 8, 8]⟩ : ByteArray) (IntKind.wrap .u8 (Int.fdiv p0_0 (256 : Int)))))))) V0) ∧
     ((decide ((256 : Int) ≤ p0_0)) = false → (decide ((0 : Int) ≤ (IntKind.wrap .u8 p0_0))) = true ∧
      (decide ((IntKind.wrap .u8 p0_0) < (256 : Int))) = true ∧
      R (.int .i64 (IntKind.wrap .i64 (IntKind.wrap .i64 (btV (⟨#[0, 1, 2, 2, 3, 3, 3, 3, 4, 4, 4, 4, 4, 4, 4, 4, 5, 5, 5, 5, 5, 5, 5, 5, 5, 5, 5, 5, 5, 5, 5, 5, 6, 6, 6, 6, 6, 6, 6, 6, 6, 6, 6, 6, 6, 6, 6, 6, 6, 6, 6, 6, 6, 6, 6, 6, 6, 6, 6, 6, 6, 6, 6, 6, 7, 7, 7, 7, 7, 7, 7, 7, 7, 7, 7, 7, 7, 7, 7, 7, 7, 7, 7, 7, 7, 7, 7, 7, 7, 7, 7, 7, 7, 7, 7, 7, 7, 7, 7, 7, 7, 7, 7, 7, 7, 7, 7, 7, 7, 7, 7, 7, 7, 7, 7, 7, 7, 7, 7, 7, 7, 7, 7, 7, 7, 7, 7, 7, 8, 8, 8, 8, 8, 8, 8, 8, 8, 8, 8, 8, 8, 8, 8, 8, 8, 8, 8, 8, 8, 8, 8, 8, 8, 8, 8, 8, 8, 8, 8, 8, 8, 8, 8, 8, 8, 8, 8, 8, 8, 8, 8, 8, 8, 8, 8, 8, 8, 8, 8, 8, 8, 8, 8, 8, 8, 8, 8, 8, 8, 8, 8, 8, 8, 8, 8, 8, 8, 8, 8, 8, 8, 8, 8, 8, 8, 8, 8, 8, 8, 8, 8, 8, 8, 8, 8, 8, 8, 8, 8, 8, 8, 8, 8, 8, 8, 8, 8, 8, 8, 8, 8, 8, 8, 8, 8, 8, 8, 8, 8, 8, 8, 8, 8, 8, 8, 8, 8, 8, 8, 8, 8, 8, 8, 8, 8, 8]⟩ : ByteArray) (IntKind.wrap .u8 p0_0))))) V0))))) :
    CSpec Tryz.prog n_math_bits_Len32 #[(.int .u32 p0_0)] V0 R :=
  enter (l := calTryz) (bor := borTryz) (own := ownTryz) (giv := givTryz) (grw := false) calOkTryz mixTryz Tryz.func241 (args := [.one (.int .u32 (.var (OV.int .u32 p0_0)))]) (fuel := 3000) (hh := []) (by kernel_rfl) (Eq.mpr (by kernel_rfl) h)
end Go.Proofs.YtpcigcogcgpldaaGreatDoor
