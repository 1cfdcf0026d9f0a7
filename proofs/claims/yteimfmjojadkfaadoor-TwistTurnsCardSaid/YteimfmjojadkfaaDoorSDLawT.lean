/- A text of this claim's own: SD.LawT. -/
import Derived.Test.YteimfmjojadkfaaDoorSDLawA
set_option linter.unusedVariables false
set_option linter.unusedSimpArgs false
set_option linter.unusedVariables false
set_option linter.unusedSimpArgs false
set_option maxRecDepth 100000
namespace Go.Proofs.YteimfmjojadkfaaDoor
open Go Go.Dx Dw
theorem axis_kind (q : Q6) (h : (axis q).kind = 2 ∨ (axis q).kind = 3) : q.a ≠ Q3.zero ∧ axis q = ⟨(axis q).kind, prim q.a, (q.a.cross q.l).scale (byQ q), q.a.dot q.l * byQ q⟩ := by
  by_cases e1 : q = Q6.zero
  · exfalso
    rw [axis, if_pos e1] at h
    simp at h
  by_cases e2 : q.a = Q3.zero
  · exfalso
    rw [axis, if_neg e1, if_pos e2] at h
    simp at h
  refine ⟨e2, ?_⟩
  rw [axis, if_neg e1, if_neg e2]
theorem by_mul (q : Q6) (h : q.a ≠ Q3.zero) : byQ q * q.a.dot q.a = 1 := by
  rw [byQ]
  exact Rat.div_mul_cancel (dot_self h)
theorem axis_vel (q : Q6) (h : q.a ≠ Q3.zero) {k : Rat} : vel q (((q.a.cross q.l).scale (byQ q)).add ((prim q.a).scale k)) = q.a.scale (q.a.dot q.l * byQ q) := by
  have hb := by_mul q h
  generalize byQ q = b at hb ⊢
  simp only [prim]
  generalize Rat.divInt 1 _ = v
  generalize Rat.divInt _ 1 = w
  obtain ⟨⟨x, y, z⟩, ⟨x', y', z'⟩⟩ := q
  simp only [vel, Q3.add, Q3.cross, Q3.scale, Q3.dot, Q3.mk.injEq] at hb ⊢
  refine ⟨?_, ?_, ?_⟩ <;> grind
theorem axis_perp (q : Q6) : ((q.a.cross q.l).scale (byQ q)).dot (prim q.a) = 0 := by
  generalize byQ q = b
  simp only [prim]
  generalize Rat.divInt 1 _ = v
  generalize Rat.divInt _ 1 = w
  obtain ⟨⟨x, y, z⟩, ⟨x', y', z'⟩⟩ := q
  simp only [Q3.cross, Q3.scale, Q3.dot]
  grind
theorem turn_rest (a th : Q3) (k : Rat) : vel ⟨a, th.cross a⟩ (th.add (a.scale k)) = Q3.zero := by
  obtain ⟨x, y, z⟩ := a
  obtain ⟨x', y', z'⟩ := th
  simp only [vel, Q3.add, Q3.cross, Q3.scale, Q3.zero, Q3.mk.injEq]
  refine ⟨?_, ?_, ?_⟩ <;> grind
theorem turn_pitch (a th : Q3) : a.dot (th.cross a) = 0 := by
  obtain ⟨x, y, z⟩ := a
  obtain ⟨x', y', z'⟩ := th
  simp only [Q3.dot, Q3.cross]
  grind
theorem turn_axis (a th : Q3) (h : a ≠ Q3.zero) : (((a.cross (th.cross a)).scale (byQ ⟨a, th.cross a⟩)).sub th).cross a = Q3.zero := by
  have hb := by_mul ⟨a, th.cross a⟩ h
  generalize byQ ⟨a, th.cross a⟩ = b at hb ⊢
  obtain ⟨x, y, z⟩ := a
  obtain ⟨x', y', z'⟩ := th
  simp only [Q3.sub, Q3.cross, Q3.scale, Q3.dot, Q3.zero, Q3.mk.injEq] at hb ⊢
  refine ⟨?_, ?_, ?_⟩ <;> grind
theorem iv_zero {x y z : Int} : iv x y z = Q3.zero ↔ x = 0 ∧ y = 0 ∧ z = 0 := by
  simp only [iv, Q3.zero, Q3.mk.injEq]
  constructor
  · rintro ⟨h1, h2, h3⟩
    exact ⟨by simpa using congrArg Rat.num h1, by simpa using congrArg Rat.num h2, by simpa using congrArg Rat.num h3⟩
  · rintro ⟨rfl, rfl, rfl⟩; exact ⟨rfl, rfl, rfl⟩
theorem turn_ax {a th : Q3} (h : a ≠ Q3.zero) : axis ⟨a, th.cross a⟩ = ⟨2, prim a, (a.cross (th.cross a)).scale (byQ ⟨a, th.cross a⟩), 0⟩ := by
  have e : ¬ (⟨a, th.cross a⟩ : Q6) = Q6.zero := fun hc => h (congrArg Q6.a hc)
  rw [axis, if_neg e, if_neg h]
  simp only [turn_pitch, Rat.zero_mul, if_pos]
set_option maxHeartbeats 1000000 in
theorem TwistTurns_spec {m : Sm} {x1 y1 z1 x2 y2 z2 k : Int} {V : VH} (hm : m.ok) (hx1 : I8 x1) (hy1 : I8 y1) (hz1 : I8 z1) (hx2 : I8 x2) (hy2 : I8 y2) (hz2 : I8 z2) (hk : I8 k) :
    CSpec Tryd.prog n_dowellaw17_TwistTurns #[m.v, .agg #[.int .i8 x1, .int .i8 y1, .int .i8 z1, .int .i8 x2, .int .i8 y2, .int .i8 z2], .int .i8 k] V fun v V' => v = .bool true := by
  refine E_dowellaw17_TwistTurns m.a m.b m.c m.d m.e m.f m.s x1 y1 z1 x2 y2 z2 k V _ fun _ _ => known_spec.mono ?_
  rintro _ V1 hV1 rfl
  refine ⟨_, rfl, fun e => by simp at e, fun _ _ _ => (Tpoint hx1 hy1 hz1).mono ?_⟩
  rintro _ V2 hV2 ⟨a, rfl, ha⟩
  refine ⟨a.a, a.b, a.c, rfl, (Tpoint hx2 hy2 hz2).mono ?_⟩
  rintro _ V3 hV3 ⟨th, rfl, hth⟩
  refine ⟨th.a, th.b, th.c, rfl, (TRotate (ha.mono hV3) hth (by omega)).mono ?_⟩
  rintro _ V4 hV4 ⟨r, rfl, hr⟩
  refine ⟨r.a.a, r.a.b, r.a.c, r.l.a, r.l.b, r.l.c, rfl, fun _ => (Tpoint hx2 hy2 hz2).mono ?_⟩
  rintro _ V5 hV5 ⟨b, rfl, hb⟩
  refine ⟨b.a, b.b, b.c, rfl, (Tpoint hx1 hy1 hz1).mono ?_⟩
  rintro _ V6 hV6 ⟨c, rfl, hc⟩
  refine ⟨c.a, c.b, c.c, rfl, ?_⟩
  rw [w64 hk.i64.1 hk.i64.2]
  refine (LFrom hk.i64.1 hk.i64.2).mono ?_
  rintro _ V7 hV7 ⟨kk, rfl, hkk⟩
  refine ⟨kk, rfl, (VScale (hc.mono hV7) hkk (by omega)).mono ?_⟩
  rintro _ V8 hV8 ⟨d, rfl, hd⟩
  refine ⟨d.a, d.b, d.c, rfl, (VAdd ((((hb.mono hV6).mono hV7).mono hV8).up (show 0 ≤ 0 + 1 by omega)) hd (by omega)).mono ?_⟩
  rintro _ V9 hV9 ⟨on, rfl, hon⟩
  have hr := ((((hr.mono hV5).mono hV6).mono hV7).mono hV8).mono hV9
  refine ⟨on.a, on.b, on.c, rfl, fun _ => (TVelocity hr hon (by omega)).mono ?_⟩
  rintro _ V10 hV10 ⟨u, rfl, hu⟩
  rw [turn_rest] at hu
  refine ⟨u.a, u.b, u.c, rfl, (VIsZero hu (by omega)).mono ?_⟩
  rintro _ V11 hV11 rfl
  refine ⟨_, rfl, fun e => by simp at e, fun _ => (Tpoint hx1 hy1 hz1).mono ?_⟩
  rintro _ V12 hV12 ⟨w, rfl, hw⟩
  have hr := ((hr.mono hV10).mono hV11).mono hV12
  refine ⟨w.a, w.b, w.c, rfl, (VEqual hr.1 (hw.up (show 0 ≤ 0 + 2 by omega)) (by omega)).mono ?_⟩
  rintro _ V13 hV13 rfl
  refine ⟨_, rfl, fun e => by simp at e, fun _ => (TAxisOf (hr.mono hV13) (by omega)).mono ?_⟩
  rintro _ V14 hV14 ⟨ax, rfl, hax⟩
  refine ⟨ax.k, ax.d.a, ax.d.b, ax.d.c, ax.p.a, ax.p.b, ax.p.c, ax.h, rfl, fun _ => ⟨fun e => ?_, fun _ => ?_⟩⟩
  · have hne : iv x1 y1 z1 ≠ Q3.zero := by
      intro hc
      obtain ⟨rfl, rfl, rfl⟩ := iv_zero.1 hc
      simp at e
    rw [turn_ax hne] at hax
    refine ⟨fun e => by rw [hax.1] at e; simp at e, fun _ => (Tpoint hx2 hy2 hz2).mono ?_⟩
    rintro _ V15 hV15 ⟨f, rfl, hf⟩
    refine ⟨f.a, f.b, f.c, rfl, (VSub (hax.2.2.1.mono hV15) (hf.up (show 0 ≤ 0 + 2 + 6 by omega)) (by omega)).mono ?_⟩
    rintro _ V16 hV16 ⟨g, rfl, hg⟩
    refine ⟨g.a, g.b, g.c, rfl, (Tpoint hx1 hy1 hz1).mono ?_⟩
    rintro _ V17 hV17 ⟨h, rfl, hh⟩
    refine ⟨h.a, h.b, h.c, rfl, (VCross (hg.mono hV17) (hh.up (show 0 ≤ 0 + 2 + 6 + 1 by omega)) (by omega)).mono ?_⟩
    rintro _ V18 hV18 ⟨i, rfl, hi⟩
    rw [turn_axis _ _ hne] at hi
    refine ⟨i.a, i.b, i.c, rfl, (VIsZero hi (by omega)).mono ?_⟩
    rintro _ V19 hV19 rfl
    refine ⟨_, rfl, fun e => by simp at e, fun _ => ?_⟩
    refine (TOf hm).mono ?_
    rintro _ W0 g0 ⟨t, rfl, ht⟩
    refine ⟨t.a.a, t.a.b, t.a.c, t.l.a, t.l.b, t.l.c, rfl, fun _ => (TAxisOf ht (by omega)).mono ?_⟩
    rintro _ W1 g1 ⟨x, rfl, hx⟩
    have ht := ht.mono g1
    generalize m.q = q at ht hx ⊢
    have both : q.a ≠ Q3.zero → ∀ kd, axis q = ⟨kd, prim q.a, (q.a.cross q.l).scale (byQ q), q.a.dot q.l * byQ q⟩ → CSpec Tryd.prog n_rational_From #[.int .i64 k] W1 fun v21 V22 => ∃ r78 : R4, v21 = r78.v ∧
        CSpec Tryd.prog n_vector_Scale #[x.d.v, r78.v] V22 fun v22 V23 => ∃ r79 : R4, ∃ r80 : R4, ∃ r81 : R4, v22 = (R12.mk r79 r80 r81).v ∧ CSpec Tryd.prog n_vector_Add #[x.p.v, (R12.mk r79 r80 r81).v] V23 fun v23 V24 => ∃ r82 : R4, ∃ r83 : R4, ∃ r84 : R4, v23 = (R12.mk r82 r83 r84).v ∧
          ∀ m85 : Nat, CSpec Tryd.prog n_twist_Velocity #[t.v, (R12.mk r82 r83 r84).v] V24 fun v24 V25 => ∃ r86 : R4, ∃ r87 : R4, ∃ r88 : R4, v24 = (R12.mk r86 r87 r88).v ∧ CSpec Tryd.prog n_vector_Scale #[t.a.v, x.h.v] V25 fun v25 V26 => ∃ r89 : R4, ∃ r90 : R4, ∃ r91 : R4, v25 = (R12.mk r89 r90 r91).v ∧
            CSpec Tryd.prog n_vector_Equal #[(R12.mk r86 r87 r88).v, (R12.mk r89 r90 r91).v] V26 fun v26 V27 => ∃ b92 : Bool, v26 = .bool b92 ∧ ((b92 = true → CSpec Tryd.prog n_vector_Dot #[x.p.v, x.d.v] V27 fun v27 V28 => ∃ r93 : R4, v27 = r93.v ∧
              CSpec Tryd.prog n_rational_Rat_Sign #[r93.v] V28 fun v28 V29 => ∃ n94 : Int, v28 = .int .i64 n94 ∧ (.bool (n94 == (0 : Int)) : Value) = .bool true) ∧ (b92 = false → (.bool false : Value) = .bool true)) := by
      intro e1 kd ea
      rw [ea] at hx
      obtain ⟨_, hd, hp, hh⟩ := hx
      refine (LFrom hk.i64.1 hk.i64.2).mono ?_
      rintro _ W2 g2 ⟨o, rfl, ho⟩
      refine ⟨o, rfl, (VScale (hd.mono g2) (ho.up (show 0 ≤ 1 + 6 by omega)) (by omega)).mono ?_⟩
      rintro _ W3 g3 ⟨s, rfl, hs⟩
      refine ⟨s.a, s.b, s.c, rfl, (VAdd (((hp.mono g2).mono g3).up (show 1 + 6 ≤ 1 + 6 + 1 by omega)) hs (by omega)).mono ?_⟩
      rintro _ W4 g4 ⟨u, rfl, hu⟩
      have ht := ((ht.mono g2).mono g3).mono g4
      refine ⟨u.a, u.b, u.c, rfl, fun _ => (TVelocity (ht.up (show 1 ≤ 1 + 6 + 1 + 1 by omega)) hu (by omega)).mono ?_⟩
      rintro _ W5 g5 ⟨w, rfl, hw⟩
      rw [axis_vel q e1] at hw
      have hh := (((hh.mono g2).mono g3).mono g4).mono g5
      refine ⟨w.a, w.b, w.c, rfl, (VScale ((ht.mono g5).1.up (show 1 ≤ 1 + 6 by omega)) hh (by omega)).mono ?_⟩
      rintro _ W6 g6 ⟨y, rfl, hy⟩
      refine ⟨y.a, y.b, y.c, rfl, (VEqual (hw.mono g6) (hy.up (show 1 + 6 + 1 ≤ 1 + 6 + 1 + 1 + 3 by omega)) (by omega)).mono ?_⟩
      rintro _ W7 g7 rfl
      have hp := (((((hp.mono g2).mono g3).mono g4).mono g5).mono g6).mono g7
      have hd := (((((hd.mono g2).mono g3).mono g4).mono g5).mono g6).mono g7
      refine ⟨_, rfl, fun _ => (VDot hp hd (by omega)).mono ?_, fun e => by simp at e⟩
      rintro _ W8 g8 ⟨z, rfl, hz⟩
      rw [axis_perp] at hz
      refine ⟨z, rfl, (LSign hz).mono ?_⟩
      rintro _ W9 g9 rfl
      exact ⟨_, rfl, rfl⟩
    refine ⟨x.k, x.d.a, x.d.b, x.d.c, x.p.a, x.p.b, x.p.c, x.h, rfl, fun _ => ⟨fun e2 => ⟨fun _ => rfl, fun e3 => ?_⟩, fun e2 => ?_⟩⟩
    · have e3 : x.k = 3 := by simpa using e3
      obtain ⟨n1, n2⟩ := axis_kind q (.inr (hx.1 ▸ e3))
      exact both n1 _ n2
    · have e2 : x.k = 2 := by simpa using e2
      obtain ⟨n1, n2⟩ := axis_kind q (.inl (hx.1 ▸ e2))
      exact both n1 _ n2
  · skip
    refine (TOf hm).mono ?_
    rintro _ W0 g0 ⟨t, rfl, ht⟩
    refine ⟨t.a.a, t.a.b, t.a.c, t.l.a, t.l.b, t.l.c, rfl, fun _ => (TAxisOf ht (by omega)).mono ?_⟩
    rintro _ W1 g1 ⟨x, rfl, hx⟩
    have ht := ht.mono g1
    generalize m.q = q at ht hx ⊢
    have both : q.a ≠ Q3.zero → ∀ kd, axis q = ⟨kd, prim q.a, (q.a.cross q.l).scale (byQ q), q.a.dot q.l * byQ q⟩ → CSpec Tryd.prog n_rational_From #[.int .i64 k] W1 fun v21 V22 => ∃ r78 : R4, v21 = r78.v ∧
        CSpec Tryd.prog n_vector_Scale #[x.d.v, r78.v] V22 fun v22 V23 => ∃ r79 : R4, ∃ r80 : R4, ∃ r81 : R4, v22 = (R12.mk r79 r80 r81).v ∧ CSpec Tryd.prog n_vector_Add #[x.p.v, (R12.mk r79 r80 r81).v] V23 fun v23 V24 => ∃ r82 : R4, ∃ r83 : R4, ∃ r84 : R4, v23 = (R12.mk r82 r83 r84).v ∧
          ∀ m85 : Nat, CSpec Tryd.prog n_twist_Velocity #[t.v, (R12.mk r82 r83 r84).v] V24 fun v24 V25 => ∃ r86 : R4, ∃ r87 : R4, ∃ r88 : R4, v24 = (R12.mk r86 r87 r88).v ∧ CSpec Tryd.prog n_vector_Scale #[t.a.v, x.h.v] V25 fun v25 V26 => ∃ r89 : R4, ∃ r90 : R4, ∃ r91 : R4, v25 = (R12.mk r89 r90 r91).v ∧
            CSpec Tryd.prog n_vector_Equal #[(R12.mk r86 r87 r88).v, (R12.mk r89 r90 r91).v] V26 fun v26 V27 => ∃ b92 : Bool, v26 = .bool b92 ∧ ((b92 = true → CSpec Tryd.prog n_vector_Dot #[x.p.v, x.d.v] V27 fun v27 V28 => ∃ r93 : R4, v27 = r93.v ∧
              CSpec Tryd.prog n_rational_Rat_Sign #[r93.v] V28 fun v28 V29 => ∃ n94 : Int, v28 = .int .i64 n94 ∧ (.bool (n94 == (0 : Int)) : Value) = .bool true) ∧ (b92 = false → (.bool false : Value) = .bool true)) := by
      intro e1 kd ea
      rw [ea] at hx
      obtain ⟨_, hd, hp, hh⟩ := hx
      refine (LFrom hk.i64.1 hk.i64.2).mono ?_
      rintro _ W2 g2 ⟨o, rfl, ho⟩
      refine ⟨o, rfl, (VScale (hd.mono g2) (ho.up (show 0 ≤ 1 + 6 by omega)) (by omega)).mono ?_⟩
      rintro _ W3 g3 ⟨s, rfl, hs⟩
      refine ⟨s.a, s.b, s.c, rfl, (VAdd (((hp.mono g2).mono g3).up (show 1 + 6 ≤ 1 + 6 + 1 by omega)) hs (by omega)).mono ?_⟩
      rintro _ W4 g4 ⟨u, rfl, hu⟩
      have ht := ((ht.mono g2).mono g3).mono g4
      refine ⟨u.a, u.b, u.c, rfl, fun _ => (TVelocity (ht.up (show 1 ≤ 1 + 6 + 1 + 1 by omega)) hu (by omega)).mono ?_⟩
      rintro _ W5 g5 ⟨w, rfl, hw⟩
      rw [axis_vel q e1] at hw
      have hh := (((hh.mono g2).mono g3).mono g4).mono g5
      refine ⟨w.a, w.b, w.c, rfl, (VScale ((ht.mono g5).1.up (show 1 ≤ 1 + 6 by omega)) hh (by omega)).mono ?_⟩
      rintro _ W6 g6 ⟨y, rfl, hy⟩
      refine ⟨y.a, y.b, y.c, rfl, (VEqual (hw.mono g6) (hy.up (show 1 + 6 + 1 ≤ 1 + 6 + 1 + 1 + 3 by omega)) (by omega)).mono ?_⟩
      rintro _ W7 g7 rfl
      have hp := (((((hp.mono g2).mono g3).mono g4).mono g5).mono g6).mono g7
      have hd := (((((hd.mono g2).mono g3).mono g4).mono g5).mono g6).mono g7
      refine ⟨_, rfl, fun _ => (VDot hp hd (by omega)).mono ?_, fun e => by simp at e⟩
      rintro _ W8 g8 ⟨z, rfl, hz⟩
      rw [axis_perp] at hz
      refine ⟨z, rfl, (LSign hz).mono ?_⟩
      rintro _ W9 g9 rfl
      exact ⟨_, rfl, rfl⟩
    refine ⟨x.k, x.d.a, x.d.b, x.d.c, x.p.a, x.p.b, x.p.c, x.h, rfl, fun _ => ⟨fun e2 => ⟨fun _ => rfl, fun e3 => ?_⟩, fun e2 => ?_⟩⟩
    · have e3 : x.k = 3 := by simpa using e3
      obtain ⟨n1, n2⟩ := axis_kind q (.inr (hx.1 ▸ e3))
      exact both n1 _ n2
    · have e2 : x.k = 2 := by simpa using e2
      obtain ⟨n1, n2⟩ := axis_kind q (.inl (hx.1 ▸ e2))
      exact both n1 _ n2
end Go.Proofs.YteimfmjojadkfaaDoor
