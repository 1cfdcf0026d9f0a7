/- A text of this claim's own: SD.LawA. -/
import Derived.Test.YteimfmjojadkfaaDoorSDKnownC
set_option linter.unusedVariables false
set_option linter.unusedSimpArgs false
set_option linter.unusedVariables false
set_option linter.unusedSimpArgs false
set_option maxRecDepth 100000
namespace Go.Proofs.YteimfmjojadkfaaDoor
open Go Go.Dx Dw
theorem sq_nonneg (x : Rat) : 0 ≤ x * x := by
  rcases Rat.le_total (a := 0) (b := x) with h | h
  · exact Rat.mul_nonneg h h
  · have h1 : 0 ≤ -x := by grind
    have := Rat.mul_nonneg h1 h1
    grind
theorem sq_zero {x : Rat} (h : x * x = 0) : x = 0 := by
  rcases Rat.mul_eq_zero.1 h with h | h <;> exact h
theorem dot_self {u : Q3} (h : u ≠ Q3.zero) : u.dot u ≠ 0 := by
  intro hc
  apply h
  obtain ⟨x, y, z⟩ := u
  simp only [Q3.dot] at hc
  have h1 := sq_nonneg x
  have h2 := sq_nonneg y
  have h3 := sq_nonneg z
  have e1 : x * x = 0 := by grind
  have e2 : y * y = 0 := by grind
  have e3 : z * z = 0 := by grind
  simp only [Q3.zero, Q3.mk.injEq]
  exact ⟨sq_zero e1, sq_zero e2, sq_zero e3⟩
theorem div_by (x s : Rat) : x / s = x * (1 / s) := by
  rw [Rat.div_def, Rat.div_def, Rat.one_mul]
theorem sign0 {q : Rat} : (q.num.sign == 0) = decide (q = 0) := by
  by_cases h : q = 0
  · rw [h]; rfl
  · rw [decide_eq_false h, beq_eq_false_iff_ne]
    intro hc
    rw [Int.sign_eq_zero_iff_zero] at hc
    exact h (Rat.num_eq_zero.1 hc)
theorem TwistAxes_spec {m : Sm} {V : VH} (hm : m.ok) : CSpec Tryd.prog n_dowellaw17_TwistAxes #[m.v] V fun v V' => v = .bool true := by
  refine E_dowellaw17_TwistAxes m.a m.b m.c m.d m.e m.f m.s V _ fun _ => known_spec.mono ?_
  rintro _ V1 hV1 rfl
  refine ⟨_, rfl, fun e => by simp at e, fun _ => (TOf hm).mono ?_⟩
  rintro _ V2 hV2 ⟨t, rfl, ht⟩
  refine ⟨t.a.a, t.a.b, t.a.c, t.l.a, t.l.b, t.l.c, rfl, fun _ => (TAxisOf ht (by omega)).mono ?_⟩
  rintro _ V3 hV3 ⟨x, rfl, hx⟩
  have ht := ht.mono hV3
  refine ⟨x.k, x.d.a, x.d.b, x.d.c, x.p.a, x.p.b, x.p.c, x.h, rfl, fun _ => (VIsZero ht.1 (by omega)).mono ?_⟩
  rintro _ V4 hV4 rfl
  have ht := ht.mono hV4
  have hx := hx.mono hV4
  generalize m.q = q at ht hx ⊢
  refine ⟨_, rfl, fun e1 => ?_, fun e1 => ?_⟩
  · have e1 : q.a = Q3.zero := of_decide_eq_true e1
    refine (VIsZero ht.2 (by omega)).mono ?_
    rintro _ V5 hV5 rfl
    have ht := ht.mono hV5
    have hx := hx.mono hV5
    refine ⟨_, rfl, fun e2 => ?_, fun e2 => ?_⟩
    · have e2 : q.l = Q3.zero := of_decide_eq_true e2
      have e3 : q = Q6.zero := by obtain ⟨a, l⟩ := q; simp only at e1 e2; rw [e1, e2]; rfl
      have ea : axis q = ⟨0, Q3.zero, Q3.zero, 0⟩ := by rw [axis, if_pos e3]
      rw [ea] at hx
      refine ⟨fun _ => (VIsZero hx.2.1 (by omega)).mono ?_, fun e => by rw [hx.1] at e; simp at e⟩
      rintro _ V6 hV6 rfl
      have hx := hx.mono hV6
      refine ⟨_, rfl, fun _ => (VIsZero hx.2.2.1 (by omega)).mono ?_, fun e => by simp at e⟩
      rintro _ V7 hV7 rfl
      have hx := hx.mono hV7
      refine ⟨_, rfl, fun _ => (LSign hx.2.2.2).mono ?_, fun e => by simp at e⟩
      rintro _ V8 hV8 rfl
      exact ⟨_, rfl, rfl⟩
    · have e2 : ¬ q.l = Q3.zero := of_decide_eq_false e2
      have e3 : ¬ q = Q6.zero := fun h => e2 (by rw [h]; rfl)
      have ea : axis q = ⟨1, prim q.l, Q3.zero, 0⟩ := by rw [axis, if_neg e3, if_pos e1]
      rw [ea] at hx
      refine (VIsZero ht.1 (by omega)).mono ?_
      rintro _ V6 hV6 rfl
      have ht := ht.mono hV6
      have hx := hx.mono hV6
      refine ⟨_, rfl, fun _ => ?_, fun e => by rw [e1] at e; simp at e⟩
      refine (VPrimitive ht.2 (by omega)).mono ?_
      rintro _ V7 hV7 ⟨d, n, rfl, hd⟩
      have hx := hx.mono hV7
      rcases hd with ⟨h1, _, _⟩ | ⟨_, rfl, hd⟩
      · exact absurd h1 e2
      refine ⟨d.a, d.b, d.c, _, rfl, fun _ => ⟨fun _ => ⟨fun _ => ?_, fun e => by rw [hx.1] at e; simp at e⟩, fun e => by simp at e⟩⟩
      refine (VEqual hx.2.1 (hd.up (show 1 + 4 ≤ 1 + 6 by omega)) (by omega)).mono ?_
      rintro _ V8 hV8 rfl
      have hx := hx.mono hV8
      refine ⟨_, rfl, fun _ => (VIsZero hx.2.2.1 (by omega)).mono ?_, fun e => by simp at e⟩
      rintro _ V9 hV9 rfl
      have hx := hx.mono hV9
      refine ⟨_, rfl, fun _ => (LSign hx.2.2.2).mono ?_, fun e => by simp at e⟩
      rintro _ V10 hV10 rfl
      exact ⟨_, rfl, rfl⟩
  · have e1 : ¬ q.a = Q3.zero := of_decide_eq_false e1
    have e3 : ¬ q = Q6.zero := fun h => e1 (by rw [h]; rfl)
    have hs : q.a.dot q.a ≠ 0 := dot_self e1
    have ep : q.a.dot q.l / q.a.dot q.a = q.a.dot q.l * byQ q := div_by _ _
    refine (VIsZero ht.1 (by omega)).mono ?_
    rintro _ V5 hV5 rfl
    have ht := ht.mono hV5
    have hx := hx.mono hV5
    refine ⟨_, rfl, fun e => absurd (of_decide_eq_true e) e1, fun _ => ?_⟩
    refine (VPrimitive ht.1 (by omega)).mono ?_
    rintro _ V6 hV6 ⟨d, n, rfl, hd⟩
    have ht := ht.mono hV6
    have hx := hx.mono hV6
    rcases hd with ⟨h1, _, _⟩ | ⟨_, rfl, hd⟩
    · exact absurd h1 e1
    refine ⟨d.a, d.b, d.c, _, rfl, fun _ => (VDot ht.1 ht.1 (by omega)).mono ?_⟩
    rintro _ V7 hV7 ⟨s, rfl, hs'⟩
    have ht := ht.mono hV7
    have hx := hx.mono hV7
    have hd := hd.mono hV7
    refine ⟨s, rfl, fun _ => (VDot ht.1 ht.2 (by omega)).mono ?_⟩
    rintro _ V8 hV8 ⟨u, rfl, hu⟩
    have ht := ht.mono hV8
    have hx := hx.mono hV8
    have hd := hd.mono hV8
    have hs' := hs'.mono hV8
    refine ⟨u, rfl, (LDiv hu hs' (by omega)).mono ?_⟩
    rintro _ V9 hV9 ⟨p, rfl, hp⟩
    have ht := ht.mono hV9
    have hx := hx.mono hV9
    have hd := hd.mono hV9
    have hs' := hs'.mono hV9
    rw [if_neg hs, ep] at *
    refine ⟨p, _, rfl, fun _ => (LFrom (by decide) (by decide)).mono ?_⟩
    rintro _ V10 hV10 ⟨o, rfl, ho⟩
    have ht := ht.mono hV10
    have hx := hx.mono hV10
    have hd := hd.mono hV10
    have hs' := hs'.mono hV10
    have hp := hp.mono hV10
    refine ⟨o, rfl, (LDiv (ho.up (show 0 ≤ 1 + 4 by omega)) hs' (by omega)).mono ?_⟩
    rintro _ V11 hV11 ⟨b, rfl, hb⟩
    have hb : RatL V11 b (byQ q) (1 + 4 + 1) := hb
    have ht := ht.mono hV11
    have hx := hx.mono hV11
    have hd := hd.mono hV11
    have hp := hp.mono hV11
    refine ⟨b, _, rfl, fun _ => (LSign hp).mono ?_⟩
    rintro _ V12 hV12 rfl
    have ht := ht.mono hV12
    have hx := hx.mono hV12
    have hd := hd.mono hV12
    have hp := hp.mono hV12
    have hb := hb.mono hV12
    have fin : VecL V12 x.d (prim q.a) (1 + 6) → VecL V12 x.p ((q.a.cross q.l).scale (byQ q)) (1 + 6) → RatL V12 x.h (q.a.dot q.l * byQ q) (1 + 6) →
        CSpec Tryd.prog n_vector_Equal #[x.d.v, d.v] V12 fun v20 V21 => ∃ b48 : Bool, v20 = .bool b48 ∧ ((b48 = true → CSpec Tryd.prog n_dowellaw17_equal #[x.h.v, p.v] V21 fun v21 V22 => ∃ b49 : Bool, v21 = .bool b49 ∧
          ((b49 = true → CSpec Tryd.prog n_vector_Cross #[t.a.v, t.l.v] V22 fun v22 V23 => ∃ r50 : R4, ∃ r51 : R4, ∃ r52 : R4, v22 = (R12.mk r50 r51 r52).v ∧ CSpec Tryd.prog n_vector_Scale #[(R12.mk r50 r51 r52).v, b.v] V23 fun v23 V24 => ∃ r53 : R4, ∃ r54 : R4, ∃ r55 : R4, v23 = (R12.mk r53 r54 r55).v ∧
            CSpec Tryd.prog n_vector_Equal #[x.p.v, (R12.mk r53 r54 r55).v] V24 fun v24 V25 => ∃ b56 : Bool, v24 = .bool b56 ∧ (.bool b56 : Value) = .bool true) ∧ (b49 = false → (.bool false : Value) = .bool true))) ∧ (b48 = false → (.bool false : Value) = .bool true)) := by
      intro f1 f2 f3
      refine (VEqual f1 (hd.up (show 1 + 4 ≤ 1 + 6 by omega)) (by omega)).mono ?_
      rintro _ W1 g1 rfl
      refine ⟨_, rfl, fun _ => (Tequal (f3.mono g1) ((hp.mono g1).up (show 1 + 4 + 1 ≤ 1 + 6 by omega)) (by omega)).mono ?_, fun e => by simp at e⟩
      rintro _ W2 g2 rfl
      have ht := (ht.mono g1).mono g2
      refine ⟨_, rfl, fun _ => (VCross ht.1 ht.2 (by omega)).mono ?_, fun e => by simp at e⟩
      rintro _ W3 g3 ⟨c, rfl, hc⟩
      refine ⟨c.a, c.b, c.c, rfl, (VScale (hc.up (show 1 + 2 ≤ 1 + 4 + 1 by omega)) (((hb.mono g1).mono g2).mono g3) (by omega)).mono ?_⟩
      rintro _ W4 g4 ⟨w, rfl, hw⟩
      refine ⟨w.a, w.b, w.c, rfl, (VEqual ((((f2.mono g1).mono g2).mono g3).mono g4) hw (by omega)).mono ?_⟩
      rintro _ W5 g5 rfl
      exact ⟨_, rfl, by simp⟩
    refine ⟨_, rfl, fun e => ?_, fun e => ?_⟩
    · rw [sign0] at e
      have e : q.a.dot q.l * byQ q = 0 := of_decide_eq_true e
      have ea : axis q = ⟨2, prim q.a, (q.a.cross q.l).scale (byQ q), q.a.dot q.l * byQ q⟩ := by rw [axis, if_neg e3, if_neg e1, if_pos e]
      rw [ea] at hx
      refine ⟨fun _ => ⟨fun _ => ⟨fun _ => ⟨fun _ => fin hx.2.1 hx.2.2.1 hx.2.2.2, fun e => by rw [hx.1] at e; simp at e⟩, fun e => by rw [if_neg hs] at e; simp at e⟩, fun e => by simp at e⟩, fun e => by simp at e⟩
    · rw [sign0] at e
      have e : ¬ q.a.dot q.l * byQ q = 0 := of_decide_eq_false e
      have ea : axis q = ⟨3, prim q.a, (q.a.cross q.l).scale (byQ q), q.a.dot q.l * byQ q⟩ := by rw [axis, if_neg e3, if_neg e1, if_neg e]
      rw [ea] at hx
      refine ⟨fun _ => ⟨fun _ => ⟨fun _ => ⟨fun _ => fin hx.2.1 hx.2.2.1 hx.2.2.2, fun e => by rw [hx.1] at e; simp at e⟩, fun e => by rw [if_neg hs] at e; simp at e⟩, fun e => by simp at e⟩, fun e => by simp at e⟩
end Go.Proofs.YteimfmjojadkfaaDoor
