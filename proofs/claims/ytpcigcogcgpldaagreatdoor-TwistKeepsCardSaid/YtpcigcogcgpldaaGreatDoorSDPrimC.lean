/- A text of this claim's own: SD.PrimC. -/
import Derived.Test.YtpcigcogcgpldaaGreatDoorSDVecC
import Derived.Test.YtpcigcogcgpldaaGreatDoorSDEPrim
set_option linter.unusedVariables false
set_option linter.unusedSimpArgs false
set_option linter.unusedVariables false
set_option linter.unusedSimpArgs false
set_option maxRecDepth 100000
namespace Go.Proofs.YtpcigcogcgpldaaGreatDoor
open Go Go.Dx Dw
def lcmD (d : Int) (e : Nat) : Int := d / (Int.gcd d e : Int) * e
def denP (u : Q3) : Int := lcmD (lcmD (lcmD 1 u.x.den) u.y.den) u.z.den
def gcdP (u : Q3) : Int := Int.gcd (Int.gcd (Int.gcd 0 u.x.num) u.y.num) u.z.num
/-- the primitive vector, as the code calculates it -/
def prim (u : Q3) : Q3 := (u.scale (Rat.divInt (denP u) 1)).scale (Rat.divInt 1 (gcdP (u.scale (Rat.divInt (denP u) 1))))
theorem lcmD_pos {d : Int} {e : Nat} (hd : 0 < d) (he : 0 < e) : 0 < lcmD d e := by
  unfold lcmD
  have hg : 0 < Int.gcd d e := Int.gcd_pos_of_ne_zero_left _ (by omega)
  have hdv : (Int.gcd d e : Int) ∣ d := Int.gcd_dvd_left _ _
  have : 0 < d / (Int.gcd d e : Int) := Int.ediv_pos_of_pos_of_dvd hd (by omega) hdv
  exact Int.mul_pos this (by omega)
theorem denP_pos (u : Q3) : 0 < denP u := lcmD_pos (lcmD_pos (lcmD_pos (by decide) u.x.den_pos) u.y.den_pos) u.z.den_pos
theorem lcm_chain {i3 : R2} {d : Int} {r : R4} {q : Rat} {n b : Nat} {V : VH} {K : R2 → VH → Prop} (hd : IntR V i3 d) (hd0 : 0 < d) (hl : i3.l.length ≤ b) (hq : RatR V r q n) (hn2 : 2 ≤ n) (hn : n < 100000000000) (hb : b < 400000000000)
    (hK : ∀ i V', V.le V' → IntR V' i (lcmD d q.den) → i.l.length ≤ b + 3 + n → K i V') :
    CSpec Tryz.prog n_rational_Rat_Den #[r.v] V fun v2 V3 => ∃ i6 : R2, v2 = i6.v ∧ CSpec Tryz.prog n_integer_Gcd #[i3.v, i6.v] V3 fun v3 V4 => ∃ i7 : R2, v3 = i7.v ∧
      CSpec Tryz.prog n_integer_DivMod #[i3.v, i7.v] V4 fun v4 V5 => ∃ i8 : R2, ∃ i9 : R2, ∃ n10 : Int, v4 = .tuple #[i8.v, i9.v, .int .i64 n10] ∧ ∀ m11 : Nat, ∀ m12 : Nat, CSpec Tryz.prog n_rational_Rat_Den #[r.v] V5 fun v5 V6 => ∃ i13 : R2, v5 = i13.v ∧
        CSpec Tryz.prog n_integer_Mul #[i8.v, i13.v] V6 fun v6 V7 => ∃ i14 : R2, v6 = i14.v ∧ K i14 V7 := by
  refine (Den_spec hq (by omega)).mono ?_
  rintro _ V3 h3 ⟨i6, rfl, r6, b6⟩
  refine ⟨i6, rfl, (Gcd_spec (hd.mono h3) r6 (by omega) (by omega)).mono ?_⟩
  rintro _ V4 h4 ⟨i7, rfl, r7, b7⟩
  have hg : 0 < Int.gcd d q.den := Int.gcd_pos_of_ne_zero_left _ (by omega)
  refine ⟨i7, rfl, (DivMod_spec ((hd.mono h3).mono h4) r7 (by omega) (by omega) (by omega)).mono ?_⟩
  rintro _ V5 h5 ⟨i8, i9, rfl, r8, b8, r9, b9⟩
  refine ⟨i8, i9, 0, rfl, fun _ _ => (Den_spec (((hq.mono h3).mono h4).mono h5) (by omega)).mono ?_⟩
  rintro _ V6 h6 ⟨i13, rfl, r13, b13⟩
  refine ⟨i13, rfl, (Mul_spec (r8.mono h6) r13 (by omega) (by omega)).mono ?_⟩
  rintro _ V7 h7 ⟨i14, rfl, r14, b14⟩
  exact ⟨i14, rfl, hK i14 V7 (VH.le_trans h3 (VH.le_trans h4 (VH.le_trans h5 (VH.le_trans h6 h7)))) r14 (by omega)⟩
theorem gcdP_ne {u : Q3} (h : u ≠ Q3.zero) : gcdP u ≠ 0 := by
  intro hc
  apply h
  unfold gcdP at hc
  have hc : Int.gcd (Int.gcd (Int.gcd 0 u.x.num) u.y.num) u.z.num = 0 := by omega
  obtain ⟨h1, h3⟩ := Int.gcd_eq_zero_iff.1 hc
  have h1 : Int.gcd (Int.gcd 0 u.x.num) u.y.num = 0 := by omega
  obtain ⟨h1, h2⟩ := Int.gcd_eq_zero_iff.1 h1
  have h1 : Int.gcd 0 u.x.num = 0 := by omega
  obtain ⟨_, h1⟩ := Int.gcd_eq_zero_iff.1 h1
  obtain ⟨x, y, z⟩ := u
  simp only [Q3.zero, Q3.mk.injEq]
  exact ⟨Rat.num_eq_zero.1 h1, Rat.num_eq_zero.1 h2, Rat.num_eq_zero.1 h3⟩
theorem divInt_one_ne {d : Int} (h : d ≠ 0) : Rat.divInt d 1 ≠ 0 := by
  intro hc
  have := Rat.num_divInt d 1
  rw [hc] at this
  simp at this
  omega
theorem scale_ne {u : Q3} {q : Rat} (h : u ≠ Q3.zero) (hq : q ≠ 0) : u.scale q ≠ Q3.zero := by
  intro hc
  apply h
  obtain ⟨x, y, z⟩ := u
  simp only [Q3.scale, Q3.zero, Q3.mk.injEq] at hc ⊢
  refine ⟨?_, ?_, ?_⟩
  · exact (Rat.mul_eq_zero.1 hc.1).resolve_left hq
  · exact (Rat.mul_eq_zero.1 hc.2.1).resolve_left hq
  · exact (Rat.mul_eq_zero.1 hc.2.2).resolve_left hq
set_option maxHeartbeats 1000000 in
theorem VPrimitive {r : R12} {u : Q3} {k : Nat} {V : VH} (h : VecL V r u k) (hk : k ≤ 16) :
    CSpec Tryz.prog n_vector_Primitive #[r.v] V fun v V' => ∃ t : R12, ∃ e : Int, v = .tuple #[t.v, .int .i64 e] ∧ ((u = Q3.zero ∧ e = 19 ∧ VecL V' t Q3.zero (k + 4)) ∨ (u ≠ Q3.zero ∧ e = 0 ∧ VecL V' t (prim u) (k + 4))) := by
  have hL2 := L_two k
  have hLlt := L_lt (show k ≤ 21 by omega)
  have hL3 : 3 ≤ L k := by
    unfold L
    have : 0 < 3 ^ k := Nat.pow_pos (by omega)
    rw [Nat.pow_succ]; omega
  have hLb : 3 * L k + 11 ≤ L (k + 2) := by
    have e : L (k + 2) = 9 * L k := by unfold L; rw [Nat.pow_succ 3 (k + 2), Nat.pow_succ 3 (k + 1)]; omega
    omega
  refine E_vector_Primitive r.a r.b r.c V _ fun _ _ => (VIsZero h (by omega)).mono ?_
  rintro _ V1 hV1 rfl
  refine ⟨_, rfl, fun e => ?_, fun e => ?_⟩
  · exact ⟨zero12, 19, rfl, .inl ⟨of_decide_eq_true e, rfl, VecL.zero _ _⟩⟩
  have hu : u ≠ Q3.zero := of_decide_eq_false e
  have h := h.mono hV1
  refine (From_spec (by decide) (by decide)).mono ?_
  rintro _ V2 hV2 ⟨i3, rfl, r3, b3⟩
  have h := h.mono hV2
  refine ⟨i3, rfl, fun _ _ => lcm_chain r3 (by decide) b3 h.1 hL2 hLlt (by omega) ?_⟩
  intro i14 V7 hV7 r14 b14
  have h := h.mono hV7
  refine fun _ => lcm_chain r14 (lcmD_pos (by decide) u.x.den_pos) b14 h.2.1 hL2 hLlt (by omega) ?_
  intro i24 V12 hV12 r24 b24
  have h := h.mono hV12
  refine fun _ => lcm_chain r24 (lcmD_pos (lcmD_pos (by decide) u.x.den_pos) u.y.den_pos) b24 h.2.2 hL2 hLlt (by omega) ?_
  intro i34 V17 hV17 r34 b34
  have h := h.mono hV17
  refine (From_spec (by decide) (by decide)).mono ?_
  rintro _ V18 hV18 ⟨i35, rfl, r35, b35⟩
  have h := h.mono hV18
  refine ⟨i35, rfl, (Make_spec (n := L (k + 2)) (r34.mono hV18) r35 (by decide) (by omega) (by omega) (by have := L_lt (show k + 2 ≤ 21 by omega); omega)).mono ?_⟩
  rintro _ V19 hV19 ⟨t36, rfl, r36⟩
  refine ⟨t36, 0, rfl, fun _ => (VScale ((h.mono hV19).up (show k ≤ k + 2 by omega)) (q := Rat.divInt (denP u) 1) r36 (by omega)).mono ?_⟩
  rintro _ V20 hV20 ⟨a, rfl, ha⟩
  have hne : u.scale (Rat.divInt (denP u) 1) ≠ Q3.zero := scale_ne hu (divInt_one_ne (by have := denP_pos u; omega))
  have hgne := gcdP_ne hne
  have hL3 := L_lt (show k + 2 + 1 ≤ 21 by omega)
  have hL32 := L_two (k + 2 + 1)
  refine ⟨a.a, a.b, a.c, rfl, fun _ _ => ?_⟩
  have fin : ∀ (i : R2) (V26 : VH), V20.le V26 → IntR V26 i (gcdP (u.scale (Rat.divInt (denP u) 1))) → i.l.length ≤ L (k + 2 + 1) → CSpec Tryz.prog n_integer_From #[.int .i64 1] V26 fun v26 V27 => ∃ i52 : R2, v26 = i52.v ∧
      CSpec Tryz.prog n_rational_Make #[i52.v, i.v] V27 fun v27 V28 => ∃ r53 : R4, ∃ n54 : Int, v27 = .tuple #[r53.v, .int .i64 n54] ∧ ∀ m55 : Nat, CSpec Tryz.prog n_vector_Scale #[a.v, r53.v] V28 fun v28 V29 => ∃ r56 : R4, ∃ r57 : R4, ∃ r58 : R4, v28 = (R12.mk r56 r57 r58).v ∧
        ∃ t : R12, ∃ e : Int, (.tuple #[(R12.mk r56 r57 r58).v, .int .i64 0] : Value) = .tuple #[t.v, .int .i64 e] ∧ ((u = Q3.zero ∧ e = 19 ∧ VecL V29 t Q3.zero (k + 4)) ∨ (u ≠ Q3.zero ∧ e = 0 ∧ VecL V29 t (prim u) (k + 4))) := by
    intro i V26 hle hi bi
    refine (From_spec (by decide) (by decide)).mono ?_
    rintro _ V27 hV27 ⟨i52, rfl, r52, b52⟩
    refine ⟨i52, rfl, (Make_spec (n := L (k + 2 + 1)) r52 (hi.mono hV27) hgne (by omega) bi (by omega)).mono ?_⟩
    rintro _ V28 hV28 ⟨t53, rfl, r53⟩
    refine ⟨t53, 0, rfl, fun _ => (VScale (((ha.mono hle).mono hV27).mono hV28) (q := Rat.divInt 1 (gcdP (u.scale (Rat.divInt (denP u) 1)))) r53 (by omega)).mono ?_⟩
    rintro _ V29 hV29 ⟨t, rfl, ht⟩
    exact ⟨t.a, t.b, t.c, rfl, t, 0, rfl, .inr ⟨hu, rfl, ht⟩⟩
  have zr : ∀ V, IntR V ⟨false, none, [], 0⟩ 0 := fun V => IntR.zero V _ _
  constructor
  all_goals
    refine (Num_spec ha.1).mono ?_
    rintro _ V21 hV21 ⟨i44, rfl, r44, b44⟩
    refine ⟨i44, rfl, (Gcd_spec (zr V21) r44 (by simp) (by omega)).mono ?_⟩
    rintro _ V22 hV22 ⟨i45, rfl, r45, b45⟩
    have b45 : i45.l.length ≤ L (k + 2 + 1) := by simp at b45; omega
    refine ⟨i45, rfl, fun _ => ?_⟩
    constructor
    all_goals
      refine (Num_spec ((ha.2.1.mono hV21).mono hV22)).mono ?_
      rintro _ V23 hV23 ⟨i47, rfl, r47, b47⟩
      refine ⟨i47, rfl, (Gcd_spec (r45.mono hV23) r47 (by omega) (by omega)).mono ?_⟩
      rintro _ V24 hV24 ⟨i48, rfl, r48, b48⟩
      refine ⟨i48, rfl, fun _ => ?_⟩
      constructor
      all_goals
        refine (Num_spec ((((ha.2.2.mono hV21).mono hV22).mono hV23).mono hV24)).mono ?_
        rintro _ V25 hV25 ⟨i50, rfl, r50, b50⟩
        refine ⟨i50, rfl, (Gcd_spec (r48.mono hV25) r50 (by omega) (by omega)).mono ?_⟩
        rintro _ V26 hV26 ⟨i51, rfl, r51, b51⟩
        exact ⟨i51, rfl, fin i51 V26 (VH.le_trans hV21 (VH.le_trans hV22 (VH.le_trans hV23 (VH.le_trans hV24 (VH.le_trans hV25 hV26))))) r51 (by omega)⟩
end Go.Proofs.YtpcigcogcgpldaaGreatDoor
