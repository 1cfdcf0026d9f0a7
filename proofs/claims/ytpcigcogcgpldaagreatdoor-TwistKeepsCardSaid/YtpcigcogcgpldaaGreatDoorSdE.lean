/- A text of this claim's own: SD.RatC, SD.RatD. -/
import Derived.Test.YtpcigcogcgpldaaGreatDoorSdD
import Derived.Test.YtpcigcogcgpldaaGreatDoorSDERat
set_option linter.unusedVariables false
set_option linter.unusedSimpArgs false
set_option linter.unusedVariables false
set_option linter.unusedSimpArgs false
set_option maxRecDepth 100000
namespace Go.Proofs.YtpcigcogcgpldaaGreatDoor
open Go Go.Dx Dw
/-- a rational, in memory, of at most n digits above and below -/
def RatR (V : VH) (r : R4) (q : Rat) (n : Nat) : Prop := IntR V r.x q.num ∧ (∃ d : Int, IntR V r.y d ∧ (d = (q.den : Int) ∨ (d = 0 ∧ q.den = 1))) ∧ r.x.l.length ≤ n ∧ r.y.l.length ≤ n
theorem RatR.mono {V V' : VH} {r : R4} {q : Rat} {n : Nat} (h : RatR V r q n) (hl : V.le V') : RatR V' r q n := by
  obtain ⟨h1, ⟨d, h2, h3⟩, h4⟩ := h
  exact ⟨h1.mono hl, ⟨d, h2.mono hl, h3⟩, h4⟩
theorem RatR.up {V : VH} {r : R4} {q : Rat} {n m : Nat} (h : RatR V r q n) (hl : n ≤ m) : RatR V r q m := by
  obtain ⟨h1, h2, h4, h5⟩ := h
  exact ⟨h1, h2, by omega, by omega⟩
def RatV (V : VH) (v : Value) (q : Rat) (n : Nat) : Prop := ∃ r : R4, v = r.v ∧ RatR V r q n
def zero4 : R4 := ⟨⟨false, none, [], 0⟩, ⟨false, none, [], 0⟩⟩
theorem IntR.zero (V : VH) (A : Option Addr) (c : Nat) : IntR V ⟨false, A, [], c⟩ 0 := ⟨RdV.nil _ _ _ _, Digs.nil, Trim.nil, by simp [val], fun h => by cases h⟩
theorem RatR.zero (V : VH) (n : Nat) : RatR V zero4 0 n := ⟨IntR.zero V _ _, ⟨0, IntR.zero V _ _, .inr ⟨rfl, rfl⟩⟩, Nat.zero_le _, Nat.zero_le _⟩
theorem IntR.len_mono {V V' : VH} {r s : R2} {x y : Int} {n : Nat} (h : IntR V r x) (k : IntR V' s y) (hl : r.l.length ≤ n) (hxy : y.natAbs ≤ x.natAbs) : s.l.length ≤ n := by
  apply k.len_le
  have := h.abs_lt
  have := pw_le hl
  omega
theorem natAbs_ediv_le (x : Int) (g : Nat) : (x / (g : Int)).natAbs ≤ x.natAbs := by
  exact Int.natAbs_ediv_le_natAbs _ _
theorem reduced_tail {i j : R2} {x y : Int} {n : Nat} {V : VH} (h : IntR V i x) (k : IntR V j y) (hy : 0 < y) (hl : i.l.length ≤ n) (hm : j.l.length ≤ n) (hn : n < 549755813870) :
    CSpec Tryz.prog n_integer_Gcd #[i.v, j.v] V fun v3 V4 => ∃ i6 : R2, v3 = i6.v ∧ ∀ m7 : Nat, CSpec Tryz.prog n_rational_one #[] V4 fun v4 V5 => ∃ i8 : R2, v4 = i8.v ∧
      CSpec Tryz.prog n_integer_Compare #[i6.v, i8.v] V5 fun v5 V6 => ∃ n9 : Int, v5 = .int .i64 n9 ∧
        (((!(n9 == (0 : Int))) = true → CSpec Tryz.prog n_integer_DivMod #[i.v, i6.v] V6 fun v6 V7 => ∃ i10 : R2, ∃ i11 : R2, ∃ n12 : Int, v6 = (.tuple #[i10.v, i11.v, .int .i64 n12]) ∧
           CSpec Tryz.prog n_integer_DivMod #[j.v, i6.v] V7 fun v7 V8 => ∃ i13 : R2, ∃ i14 : R2, ∃ n15 : Int, v7 = (.tuple #[i13.v, i14.v, .int .i64 n15]) ∧ RatV V8 (R4.mk i10 i13).v (Rat.divInt x y) n) ∧
         ((!(n9 == (0 : Int))) = false → RatV V6 (R4.mk i j).v (Rat.divInt x y) n)) := by
  have hnum := Rat.num_divInt x y
  have hden := Rat.den_divInt x y
  rw [Int.sign_eq_one_of_pos hy, Int.one_mul] at hnum
  rw [if_neg (by omega)] at hden
  have hgc : y.gcd x = x.gcd y := Int.gcd_comm _ _
  rw [hgc] at hnum hden
  have hg0 : 0 < Int.gcd x y := Int.gcd_pos_of_ne_zero_right _ (by omega)
  refine (Gcd_spec h k (by omega) (by omega)).mono ?_
  rintro _ V4 hV4 ⟨i6, rfl, r6, b6⟩
  refine ⟨i6, rfl, fun _ => one_spec.mono ?_⟩
  rintro _ V5 hV5 ⟨i8, rfl, r8, b8⟩
  refine ⟨i8, rfl, (Compare_spec (r6.mono hV5) r8 (by omega) (by omega)).mono ?_⟩
  rintro _ V6 hV6 rfl
  have h' := ((h.mono hV4).mono hV5).mono hV6
  have k' := ((k.mono hV4).mono hV5).mono hV6
  have g' := (r6.mono hV5).mono hV6
  refine ⟨_, rfl, fun e => ?_, fun e => ?_⟩
  · refine (DivMod_spec h' g' (by omega) (by omega) (by omega)).mono ?_
    rintro _ V7 hV7 ⟨i10, i11, rfl, r10, b10, r11, b11⟩
    refine ⟨i10, i11, 0, rfl, (DivMod_spec (k'.mono hV7) (g'.mono hV7) (by omega) (by omega) (by omega)).mono ?_⟩
    rintro _ V8 hV8 ⟨i13, i14, rfl, r13, b13, r14, b14⟩
    refine ⟨i13, i14, 0, rfl, ⟨i10, i13⟩, rfl, ?_, ⟨_, r13, .inl ?_⟩, ?_, ?_⟩
    · rw [hnum]; exact r10.mono hV8
    · rw [hden]
      have : (y.natAbs : Int) = y := by omega
      rw [Int.natCast_ediv, this]
    · exact h.len_mono r10 hl (natAbs_ediv_le _ _)
    · exact k.len_mono r13 hm (natAbs_ediv_le _ _)
  · have e : cmp (Int.gcd x y) 1 = 0 := by simpa using e
    have hg1 : Int.gcd x y = 1 := by
      simp only [cmp] at e
      split at e
      · simp at e
      · split at e
        · omega
        · simp at e
    rw [hg1] at hnum hden
    refine ⟨⟨i, j⟩, rfl, ?_, ⟨_, k', .inl ?_⟩, hl, hm⟩
    · rw [hnum]; simpa using h'
    · rw [hden]; simp; omega
theorem reduced_spec {p q : R2} {x y : Int} {n : Nat} {V : VH} (h : IntR V p x) (k : IntR V q y) (hy : y ≠ 0) (hl : p.l.length ≤ n) (hm : q.l.length ≤ n) (hn : n < 549755813870) :
    CSpec Tryz.prog n_rational_reduced #[p.v, q.v] V fun v V' => RatV V' v (Rat.divInt x y) n := by
  refine E_rational_reduced p q V _ fun _ _ _ => (Sign_spec k).mono ?_
  rintro _ V1 hV1 rfl
  refine ⟨_, rfl, fun e => ?_, fun e => ?_⟩
  · have e : y.sign < 0 := of_decide_eq_true e
    have e : y < 0 := Int.sign_neg_iff.1 e
    rw [← Rat.neg_divInt_neg]
    repeat' apply And.intro
    all_goals
      refine (Neg_spec (h.mono hV1)).mono ?_
      rintro _ V2 hV2 ⟨i4, rfl, r4, b4⟩
      refine ⟨i4, rfl, (Neg_spec ((k.mono hV1).mono hV2)).mono ?_⟩
      rintro _ V3 hV3 ⟨i5, rfl, r5, b5⟩
      exact ⟨i5, rfl, reduced_tail (r4.mono hV3) r5 (by omega) (by omega) (by omega) hn⟩
  · have e : ¬ y.sign < 0 := of_decide_eq_false e
    have e : ¬ y < 0 := fun hc => e (Int.sign_neg_iff.2 hc)
    exact reduced_tail (h.mono hV1) (k.mono hV1) (by omega) hl hm hn
theorem whole_spec {r : R4} {q : Rat} {n : Nat} {V : VH} (h : RatR V r q n) (hn : n < 549755813870) :
    CSpec Tryz.prog n_rational_Rat_whole #[r.v] V fun v V' => v = .bool (decide (q.den = 1)) := by
  obtain ⟨h1, ⟨d, h2, h3⟩, h4, h5⟩ := h
  have hp := q.den_pos
  refine E_rational_Rat_whole r V _ fun _ => (Sign_spec h2).mono ?_
  rintro _ V1 hV1 rfl
  refine ⟨_, rfl, fun e => ?_, fun e => one_spec.mono ?_⟩
  · have e : d.sign = 0 := by simpa using e
    rw [Int.sign_eq_zero_iff_zero] at e
    rw [decide_eq_true (by omega)]
  · have e : ¬ d = 0 := by simpa using e
    rintro _ V2 hV2 ⟨i2, rfl, r2, b2⟩
    refine ⟨i2, rfl, (Compare_spec ((h2.mono hV1).mono hV2) r2 (by omega) (by omega)).mono ?_⟩
    rintro _ V3 hV3 rfl
    refine ⟨_, rfl, ?_⟩
    congr 1
    by_cases h : q.den = 1
    · rw [cmp_eq (by omega)]; simp [h]
    · rw [cmp_gt (by omega)]; simp [h]
theorem Den_spec {r : R4} {q : Rat} {n : Nat} {V : VH} (h : RatR V r q n) (hn : n < 549755813870) :
    CSpec Tryz.prog n_rational_Rat_Den #[r.v] V fun v V' => IntV V' v q.den (max n 2) := by
  obtain ⟨h1, ⟨d, h2, h3⟩, h4, h5⟩ := h
  have hp := q.den_pos
  refine E_rational_Rat_Den r V _ fun _ _ => (Sign_spec h2).mono ?_
  rintro _ V1 hV1 rfl
  refine ⟨_, rfl, fun e => one_spec.mono ?_, fun e => ?_⟩
  · have e : d = 0 := by simpa using e
    rintro _ V2 hV2 ⟨i2, rfl, r2, b2⟩
    have : q.den = 1 := by omega
    exact ⟨i2, rfl, i2, rfl, by rw [this]; exact r2, by omega⟩
  · have e : ¬ d = 0 := by simpa using e
    exact ⟨r.y, rfl, by rw [show (q.den : Int) = d by omega]; exact h2.mono hV1, by omega⟩
theorem Num_spec {r : R4} {q : Rat} {n : Nat} {V : VH} (h : RatR V r q n) :
    CSpec Tryz.prog n_rational_Rat_Num #[r.v] V fun v V' => IntV V' v q.num n :=
  E_rational_Rat_Num r V _ fun _ _ => ⟨r.x, rfl, h.1, h.2.2.1⟩
theorem RSign_spec {r : R4} {q : Rat} {n : Nat} {V : VH} (h : RatR V r q n) :
    CSpec Tryz.prog n_rational_Rat_Sign #[r.v] V fun v V' => v = .int .i64 q.num.sign := by
  refine E_rational_Rat_Sign r V _ fun _ => (Sign_spec h.1).mono ?_
  rintro _ V1 hV1 rfl
  exact ⟨_, rfl, rfl⟩
theorem RFrom_spec {n : Int} {V : VH} (h0 : -9223372036854775808 ≤ n) (h1 : n < 9223372036854775808) :
    CSpec Tryz.prog n_rational_From #[.int .i64 n] V fun v V' => RatV V' v (n : Rat) 2 := by
  refine E_rational_From n V _ fun _ => (From_spec h0 h1).mono ?_
  rintro _ V1 hV1 ⟨i, rfl, r, b⟩
  exact ⟨i, rfl, ⟨i, ⟨false, none, [], 0⟩⟩, rfl, r, ⟨0, IntR.zero _ _ _, .inr ⟨rfl, rfl⟩⟩, b, Nat.zero_le _⟩
theorem RNeg_spec {r : R4} {q : Rat} {n : Nat} {V : VH} (h : RatR V r q n) :
    CSpec Tryz.prog n_rational_Neg #[r.v] V fun v V' => RatV V' v (-q) n := by
  obtain ⟨h1, ⟨d, h2, h3⟩, h4, h5⟩ := h
  refine E_rational_Neg r V _ fun _ _ => (Neg_spec h1).mono ?_
  rintro _ V1 hV1 ⟨i, rfl, ri, b⟩
  exact ⟨i, rfl, ⟨i, r.y⟩, rfl, ri, ⟨d, h2.mono hV1, h3⟩, by show i.l.length ≤ n; omega, h5⟩
theorem Make_spec {p q : R2} {x y : Int} {n : Nat} {V : VH} (h : IntR V p x) (k : IntR V q y) (hy : y ≠ 0) (hl : p.l.length ≤ n) (hm : q.l.length ≤ n) (hn : n < 549755813870) :
    CSpec Tryz.prog n_rational_Make #[p.v, q.v] V fun v V' => ∃ r : R4, v = .tuple #[r.v, .int .i64 0] ∧ RatR V' r (Rat.divInt x y) n := by
  refine E_rational_Make p q V _ fun _ _ _ => (Sign_spec k).mono ?_
  rintro _ V1 hV1 rfl
  refine ⟨_, rfl, fun e => ?_, fun e => (reduced_spec (h.mono hV1) (k.mono hV1) hy hl hm hn).mono ?_⟩
  · exfalso; apply hy; simpa using e
  · rintro _ V2 hV2 ⟨r, rfl, rr⟩
    exact ⟨r, rfl, r, rfl, rr⟩
theorem Make_zero_spec {p q : R2} {x : Int} {V : VH} (k : IntR V q 0) :
    CSpec Tryz.prog n_rational_Make #[p.v, q.v] V fun v V' => v = .tuple #[zero4.v, .int .i64 19] := by
  refine E_rational_Make p q V _ fun _ _ _ => (Sign_spec k).mono ?_
  rintro _ V1 hV1 rfl
  exact ⟨_, rfl, fun e => rfl, fun e => by simp at e⟩
end Go.Proofs.YtpcigcogcgpldaaGreatDoor

set_option linter.unusedVariables false
set_option linter.unusedSimpArgs false
set_option maxRecDepth 100000
namespace Go.Proofs.YtpcigcogcgpldaaGreatDoor
open Go Go.Dx Dw
/-- how two rationals compare, as the code does it -/
def cmpQ (x y : Rat) : Int := cmp (x.num * y.den) (y.num * x.den)
theorem cmpQ_eq_zero {x y : Rat} : cmpQ x y = 0 ↔ x = y := by
  simp only [cmpQ, cmp]
  constructor
  · intro h
    split at h
    · simp at h
    · split at h
      · rename_i h1 h2
        rw [← Rat.num_divInt_den x, ← Rat.num_divInt_den y, Rat.divInt_eq_divInt_iff (by have := x.den_pos; omega) (by have := y.den_pos; omega)]
        exact h2
      · simp at h
  · rintro rfl
    rw [if_neg (by omega), if_pos rfl]
theorem cmpQ_beq {x y : Rat} : (cmpQ x y == 0) = decide (x = y) := by
  by_cases h : x = y
  · rw [decide_eq_true h, beq_iff_eq]; exact cmpQ_eq_zero.2 h
  · rw [decide_eq_false h, beq_eq_false_iff_ne]; exact fun e => h (cmpQ_eq_zero.1 e)
theorem RatV.intro {V : VH} {i : R2} {q : Rat} {n : Nat} (h : IntR V i q.num) (hd : q.den = 1) (hl : i.l.length ≤ n) : RatV V (R4.mk i ⟨false, none, [], 0⟩).v q n :=
  ⟨_, rfl, h, ⟨0, IntR.zero _ _ _, .inr ⟨rfl, hd⟩⟩, hl, Nat.zero_le _⟩
theorem whole_add {x y : Rat} (hx : x.den = 1) (hy : y.den = 1) : (x + y).num = x.num + y.num ∧ (x + y).den = 1 := by
  rw [Rat.add_def']
  simp [hx, hy, Rat.num_mkRat, Rat.den_mkRat]
theorem whole_mul {x y : Rat} (hx : x.den = 1) (hy : y.den = 1) : (x * y).num = x.num * y.num ∧ (x * y).den = 1 := by
  rw [Rat.mul_def']
  simp [hx, hy, Rat.num_mkRat, Rat.den_mkRat]
theorem add_divInt (x y : Rat) : Rat.divInt (x.num * y.den + y.num * x.den) (x.den * y.den) = x + y := by
  rw [Rat.add_def', ← Rat.divInt_ofNat]; simp
theorem mul_divInt (x y : Rat) : Rat.divInt (x.num * y.num) (x.den * y.den) = x * y := by
  rw [Rat.mul_def', ← Rat.divInt_ofNat]; simp
theorem div_divInt (x y : Rat) : Rat.divInt (x.num * y.den) (x.den * y.num) = x / y := by
  rw [Rat.div_def, Rat.inv_def, ← Rat.divInt_mul_divInt, Rat.num_divInt_den]
theorem den_ne (x : Rat) : (x.den : Int) ≠ 0 := by have := x.den_pos; omega
theorem RCompare_spec {r s : R4} {x y : Rat} {n : Nat} {V : VH} (h : RatR V r x n) (k : RatR V s y n) (hn : n < 100000000000) :
    CSpec Tryz.prog n_rational_Compare #[r.v, s.v] V fun v V' => v = .int .i64 (cmpQ x y) := by
  refine E_rational_Compare r s V _ fun _ _ => (whole_spec h (by omega)).mono ?_
  rintro _ V1 L rfl
  refine ⟨_, rfl, fun e => (whole_spec (k.mono L) (by omega)).mono ?_, fun _ => ?_⟩
  · rintro _ V2 hV2 rfl
    have L := VH.le_trans L hV2
    refine ⟨_, rfl, fun f => ?_, fun _ => ?_⟩
    · have e : x.den = 1 := of_decide_eq_true e
      have f : y.den = 1 := of_decide_eq_true f
      refine (Compare_spec (h.1.mono L) (k.1.mono L) (by have := h.2.2.1; omega) (by have := k.2.2.1; omega)).mono ?_
      rintro _ V3 hV3 rfl
      exact ⟨_, rfl, by simp [cmpQ, e, f]⟩
    · refine (Den_spec (k.mono L) (by omega)).mono ?_
      rintro _ V4 hV4 ⟨i5, rfl, r5, b5⟩
      have L := VH.le_trans L hV4
      refine ⟨i5, rfl, (Mul_spec (h.1.mono L) r5 (by have := h.2.2.1; omega) (by omega)).mono ?_⟩
      rintro _ V5 hV5 ⟨i6, rfl, r6, b6⟩
      have L := VH.le_trans L hV5
      refine ⟨i6, rfl, (Den_spec (h.mono L) (by omega)).mono ?_⟩
      rintro _ V6 hV6 ⟨i7, rfl, r7, b7⟩
      have L := VH.le_trans L hV6
      refine ⟨i7, rfl, (Mul_spec (k.1.mono L) r7 (by have := k.2.2.1; omega) (by omega)).mono ?_⟩
      rintro _ V7 hV7 ⟨i8, rfl, r8, b8⟩
      refine ⟨i8, rfl, (Compare_spec ((r6.mono hV6).mono hV7) r8 (by have := h.2.2.1; omega) (by have := k.2.2.1; omega)).mono ?_⟩
      rintro _ V8 hV8 rfl
      exact ⟨_, rfl, rfl⟩
  · refine (Den_spec (k.mono L) (by omega)).mono ?_
    rintro _ V4 hV4 ⟨i5, rfl, r5, b5⟩
    have L := VH.le_trans L hV4
    refine ⟨i5, rfl, (Mul_spec (h.1.mono L) r5 (by have := h.2.2.1; omega) (by omega)).mono ?_⟩
    rintro _ V5 hV5 ⟨i6, rfl, r6, b6⟩
    have L := VH.le_trans L hV5
    refine ⟨i6, rfl, (Den_spec (h.mono L) (by omega)).mono ?_⟩
    rintro _ V6 hV6 ⟨i7, rfl, r7, b7⟩
    have L := VH.le_trans L hV6
    refine ⟨i7, rfl, (Mul_spec (k.1.mono L) r7 (by have := k.2.2.1; omega) (by omega)).mono ?_⟩
    rintro _ V7 hV7 ⟨i8, rfl, r8, b8⟩
    refine ⟨i8, rfl, (Compare_spec ((r6.mono hV6).mono hV7) r8 (by have := h.2.2.1; omega) (by have := k.2.2.1; omega)).mono ?_⟩
    rintro _ V8 hV8 rfl
    exact ⟨_, rfl, rfl⟩
theorem RAdd_spec {r s : R4} {x y : Rat} {n : Nat} {V : VH} (h : RatR V r x n) (k : RatR V s y n) (h2 : 2 ≤ n) (hn : n < 100000000000) :
    CSpec Tryz.prog n_rational_Add #[r.v, s.v] V fun v V' => RatV V' v (x + y) (2 * n + 1) := by
  refine E_rational_Add r s V _ fun _ _ _ => (whole_spec h (by omega)).mono ?_
  rintro _ V1 L rfl
  have hb := h.2.2; have kb := k.2.2
  refine ⟨_, rfl, fun e => (whole_spec (k.mono L) (by omega)).mono ?_, fun _ => ?_⟩
  · rintro _ V2 hV2 rfl
    have L := VH.le_trans L hV2
    refine ⟨_, rfl, fun f => ?_, fun _ => ?_⟩
    · have e : x.den = 1 := of_decide_eq_true e
      have f : y.den = 1 := of_decide_eq_true f
      refine (Add_spec (h.1.mono L) (k.1.mono L) (by omega) (by omega)).mono ?_
      rintro _ V3 hV3 ⟨i5, rfl, r5, b5⟩
      refine ⟨i5, rfl, RatV.intro ?_ (whole_add e f).2 (by omega)⟩
      rw [(whole_add e f).1]; exact r5
    · refine (Den_spec (k.mono L) (by omega)).mono ?_
      rintro _ V4 hV4 ⟨i5, rfl, r5, b5⟩
      have L := VH.le_trans L hV4
      refine ⟨i5, rfl, (Mul_spec (h.1.mono L) r5 (by omega) (by omega)).mono ?_⟩
      rintro _ V5 hV5 ⟨i6, rfl, r6, b6⟩
      have L := VH.le_trans L hV5
      refine ⟨i6, rfl, (Den_spec (h.mono L) (by omega)).mono ?_⟩
      rintro _ V6 hV6 ⟨i7, rfl, r7, b7⟩
      have L := VH.le_trans L hV6
      refine ⟨i7, rfl, (Mul_spec (k.1.mono L) r7 (by omega) (by omega)).mono ?_⟩
      rintro _ V7 hV7 ⟨i8, rfl, r8, b8⟩
      have L := VH.le_trans L hV7
      refine ⟨i8, rfl, (Add_spec ((r6.mono hV6).mono hV7) r8 (by omega) (by omega)).mono ?_⟩
      rintro _ V8 hV8 ⟨i9, rfl, r9, b9⟩
      have L := VH.le_trans L hV8
      refine ⟨i9, rfl, (Den_spec (h.mono L) (by omega)).mono ?_⟩
      rintro _ V9 hV9 ⟨i10, rfl, r10, b10⟩
      have L := VH.le_trans L hV9
      refine ⟨i10, rfl, (Den_spec (k.mono L) (by omega)).mono ?_⟩
      rintro _ V10 hV10 ⟨i11, rfl, r11, b11⟩
      refine ⟨i11, rfl, (Mul_spec (r10.mono hV10) r11 (by omega) (by omega)).mono ?_⟩
      rintro _ V11 hV11 ⟨i12, rfl, r12, b12⟩
      refine ⟨i12, rfl, (reduced_spec (n := 2 * n + 1) (((r9.mono hV9).mono hV10).mono hV11) r12 (Int.mul_ne_zero (den_ne x) (den_ne y)) (by omega) (by omega) (by omega)).mono ?_⟩
      rintro _ V12 hV12 ⟨i13, rfl, r13⟩
      rw [add_divInt] at r13
      exact ⟨i13, rfl, i13, rfl, r13⟩
  · refine (Den_spec (k.mono L) (by omega)).mono ?_
    rintro _ V4 hV4 ⟨i5, rfl, r5, b5⟩
    have L := VH.le_trans L hV4
    refine ⟨i5, rfl, (Mul_spec (h.1.mono L) r5 (by omega) (by omega)).mono ?_⟩
    rintro _ V5 hV5 ⟨i6, rfl, r6, b6⟩
    have L := VH.le_trans L hV5
    refine ⟨i6, rfl, (Den_spec (h.mono L) (by omega)).mono ?_⟩
    rintro _ V6 hV6 ⟨i7, rfl, r7, b7⟩
    have L := VH.le_trans L hV6
    refine ⟨i7, rfl, (Mul_spec (k.1.mono L) r7 (by omega) (by omega)).mono ?_⟩
    rintro _ V7 hV7 ⟨i8, rfl, r8, b8⟩
    have L := VH.le_trans L hV7
    refine ⟨i8, rfl, (Add_spec ((r6.mono hV6).mono hV7) r8 (by omega) (by omega)).mono ?_⟩
    rintro _ V8 hV8 ⟨i9, rfl, r9, b9⟩
    have L := VH.le_trans L hV8
    refine ⟨i9, rfl, (Den_spec (h.mono L) (by omega)).mono ?_⟩
    rintro _ V9 hV9 ⟨i10, rfl, r10, b10⟩
    have L := VH.le_trans L hV9
    refine ⟨i10, rfl, (Den_spec (k.mono L) (by omega)).mono ?_⟩
    rintro _ V10 hV10 ⟨i11, rfl, r11, b11⟩
    refine ⟨i11, rfl, (Mul_spec (r10.mono hV10) r11 (by omega) (by omega)).mono ?_⟩
    rintro _ V11 hV11 ⟨i12, rfl, r12, b12⟩
    refine ⟨i12, rfl, (reduced_spec (n := 2 * n + 1) (((r9.mono hV9).mono hV10).mono hV11) r12 (Int.mul_ne_zero (den_ne x) (den_ne y)) (by omega) (by omega) (by omega)).mono ?_⟩
    rintro _ V12 hV12 ⟨i13, rfl, r13⟩
    rw [add_divInt] at r13
    exact ⟨i13, rfl, i13, rfl, r13⟩
theorem RSub_spec {r s : R4} {x y : Rat} {n : Nat} {V : VH} (h : RatR V r x n) (k : RatR V s y n) (h2 : 2 ≤ n) (hn : n < 100000000000) :
    CSpec Tryz.prog n_rational_Sub #[r.v, s.v] V fun v V' => RatV V' v (x - y) (2 * n + 1) := by
  refine E_rational_Sub r s V _ fun _ _ _ => (RNeg_spec k).mono ?_
  rintro _ V1 hV1 ⟨i, rfl, ri⟩
  refine ⟨i, rfl, (RAdd_spec (h.mono hV1) ri h2 hn).mono ?_⟩
  rintro _ V2 hV2 ⟨j, rfl, rj⟩
  exact ⟨j, rfl, j, rfl, by rw [Rat.sub_eq_add_neg]; exact rj⟩
theorem RMul_spec {r s : R4} {x y : Rat} {n : Nat} {V : VH} (h : RatR V r x n) (k : RatR V s y n) (h2 : 2 ≤ n) (hn : n < 100000000000) :
    CSpec Tryz.prog n_rational_Mul #[r.v, s.v] V fun v V' => RatV V' v (x * y) (2 * n + 1) := by
  refine E_rational_Mul r s V _ fun _ _ _ => (whole_spec h (by omega)).mono ?_
  rintro _ V1 L rfl
  have hb := h.2.2; have kb := k.2.2
  refine ⟨_, rfl, fun e => (whole_spec (k.mono L) (by omega)).mono ?_, fun _ => ?_⟩
  · rintro _ V2 hV2 rfl
    have L := VH.le_trans L hV2
    refine ⟨_, rfl, fun f => ?_, fun _ => ?_⟩
    · have e : x.den = 1 := of_decide_eq_true e
      have f : y.den = 1 := of_decide_eq_true f
      refine (Mul_spec (h.1.mono L) (k.1.mono L) (by omega) (by omega)).mono ?_
      rintro _ V3 hV3 ⟨i5, rfl, r5, b5⟩
      refine ⟨i5, rfl, RatV.intro ?_ (whole_mul e f).2 (by omega)⟩
      rw [(whole_mul e f).1]; exact r5
    · refine (Mul_spec (h.1.mono L) (k.1.mono L) (by omega) (by omega)).mono ?_
      rintro _ V4 hV4 ⟨i9, rfl, r9, b9⟩
      have L := VH.le_trans L hV4
      refine ⟨i9, rfl, (Den_spec (h.mono L) (by omega)).mono ?_⟩
      rintro _ V9 hV9 ⟨i10, rfl, r10, b10⟩
      have L := VH.le_trans L hV9
      refine ⟨i10, rfl, (Den_spec (k.mono L) (by omega)).mono ?_⟩
      rintro _ V10 hV10 ⟨i11, rfl, r11, b11⟩
      refine ⟨i11, rfl, (Mul_spec (r10.mono hV10) r11 (by omega) (by omega)).mono ?_⟩
      rintro _ V11 hV11 ⟨i12, rfl, r12, b12⟩
      refine ⟨i12, rfl, (reduced_spec (n := 2 * n + 1) (((r9.mono hV9).mono hV10).mono hV11) r12 (Int.mul_ne_zero (den_ne x) (den_ne y)) (by omega) (by omega) (by omega)).mono ?_⟩
      rintro _ V12 hV12 ⟨i13, rfl, r13⟩
      rw [mul_divInt] at r13
      exact ⟨i13, rfl, i13, rfl, r13⟩
  · refine (Mul_spec (h.1.mono L) (k.1.mono L) (by omega) (by omega)).mono ?_
    rintro _ V4 hV4 ⟨i9, rfl, r9, b9⟩
    have L := VH.le_trans L hV4
    refine ⟨i9, rfl, (Den_spec (h.mono L) (by omega)).mono ?_⟩
    rintro _ V9 hV9 ⟨i10, rfl, r10, b10⟩
    have L := VH.le_trans L hV9
    refine ⟨i10, rfl, (Den_spec (k.mono L) (by omega)).mono ?_⟩
    rintro _ V10 hV10 ⟨i11, rfl, r11, b11⟩
    refine ⟨i11, rfl, (Mul_spec (r10.mono hV10) r11 (by omega) (by omega)).mono ?_⟩
    rintro _ V11 hV11 ⟨i12, rfl, r12, b12⟩
    refine ⟨i12, rfl, (reduced_spec (n := 2 * n + 1) (((r9.mono hV9).mono hV10).mono hV11) r12 (Int.mul_ne_zero (den_ne x) (den_ne y)) (by omega) (by omega) (by omega)).mono ?_⟩
    rintro _ V12 hV12 ⟨i13, rfl, r13⟩
    rw [mul_divInt] at r13
    exact ⟨i13, rfl, i13, rfl, r13⟩
theorem RDiv_spec {r s : R4} {x y : Rat} {n : Nat} {V : VH} (h : RatR V r x n) (k : RatR V s y n) (h2 : 2 ≤ n) (hn : n < 100000000000) :
    CSpec Tryz.prog n_rational_Div #[r.v, s.v] V fun v V' => ∃ t : R4, v = .tuple #[t.v, .int .i64 (if y = 0 then 19 else 0)] ∧ RatR V' t (x / y) (2 * n + 1) := by
  refine E_rational_Div r s V _ fun _ _ _ => (RSign_spec k).mono ?_
  rintro _ V1 L rfl
  have hb := h.2.2; have kb := k.2.2
  refine ⟨_, rfl, fun e => ?_, fun e => ?_⟩
  · have e : y.num = 0 := by simpa using e
    have e : y = 0 := Rat.num_eq_zero.1 e
    subst e
    refine ⟨zero4, by rw [if_pos rfl]; rfl, ?_⟩
    rw [Rat.div_def, Rat.inv_zero, Rat.mul_zero]
    exact RatR.zero _ _
  · have e : ¬ y.num = 0 := by simpa using e
    have e' : ¬ y = 0 := fun hc => e (by rw [hc]; rfl)
    refine (Den_spec (k.mono L) (by omega)).mono ?_
    rintro _ V4 hV4 ⟨i5, rfl, r5, b5⟩
    have L := VH.le_trans L hV4
    refine ⟨i5, rfl, (Mul_spec (h.1.mono L) r5 (by omega) (by omega)).mono ?_⟩
    rintro _ V5 hV5 ⟨i6, rfl, r6, b6⟩
    have L := VH.le_trans L hV5
    refine ⟨i6, rfl, (Den_spec (h.mono L) (by omega)).mono ?_⟩
    rintro _ V6 hV6 ⟨i7, rfl, r7, b7⟩
    have L := VH.le_trans L hV6
    refine ⟨i7, rfl, (Mul_spec r7 (k.1.mono L) (by omega) (by omega)).mono ?_⟩
    rintro _ V7 hV7 ⟨i8, rfl, r8, b8⟩
    refine ⟨i8, rfl, (reduced_spec (n := 2 * n + 1) ((r6.mono hV6).mono hV7) r8 (Int.mul_ne_zero (den_ne x) e) (by omega) (by omega) (by omega)).mono ?_⟩
    rintro _ V12 hV12 ⟨i13, rfl, r13⟩
    rw [div_divInt] at r13
    exact ⟨i13, rfl, i13, by rw [if_neg e']; rfl, r13⟩
end Go.Proofs.YtpcigcogcgpldaaGreatDoor
