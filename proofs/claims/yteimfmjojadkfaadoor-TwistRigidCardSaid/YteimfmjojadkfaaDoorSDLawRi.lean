/- A text of this claim's own: SD.LawRi. -/
import Derived.Test.YteimfmjojadkfaaDoorSDKnownC
set_option linter.unusedVariables false
set_option linter.unusedSimpArgs false
set_option linter.unusedVariables false
set_option linter.unusedSimpArgs false
set_option maxRecDepth 100000
namespace Go.Proofs.YteimfmjojadkfaaDoor
open Go Go.Dx Dw
theorem rigid_dot (t : Q6) (x y : Q3) : ((vel t x).sub (vel t y)).dot (x.sub y) = 0 := by
  obtain ⟨⟨a, b, c⟩, ⟨d, e, f⟩⟩ := t
  obtain ⟨x1, x2, x3⟩ := x
  obtain ⟨y1, y2, y3⟩ := y
  simp only [vel, Q3.add, Q3.sub, Q3.cross, Q3.dot]
  grind
theorem rigid_sum (t u : Q6) (x : Q3) : vel ⟨t.a.add u.a, t.l.add u.l⟩ x = (vel t x).add (vel u x) := by
  obtain ⟨⟨a, b, c⟩, ⟨d, e, f⟩⟩ := t
  obtain ⟨⟨a', b', c'⟩, ⟨d', e', f'⟩⟩ := u
  obtain ⟨x1, x2, x3⟩ := x
  simp only [vel, Q3.add, Q3.cross, Q3.mk.injEq]
  refine ⟨?_, ?_, ?_⟩ <;> grind
theorem TwistRigid_spec {m n : Sm} {x y z x' y' z' : Int} {V : VH} (hm : m.ok) (hn : n.ok) (hx : I8 x) (hy : I8 y) (hz : I8 z) (hx' : I8 x') (hy' : I8 y') (hz' : I8 z') :
    CSpec Tryd.prog n_dowellaw17_TwistRigid #[m.v, n.v, .agg #[.int .i8 x, .int .i8 y, .int .i8 z, .int .i8 x', .int .i8 y', .int .i8 z']] V fun v V' => v = .bool true := by
  refine E_dowellaw17_TwistRigid m.a m.b m.c m.d m.e m.f m.s n.a n.b n.c n.d n.e n.f n.s x y z x' y' z' V _ fun _ _ _ => known_spec.mono ?_
  rintro _ V1 hV1 rfl
  refine ⟨_, rfl, fun e => by simp at e, fun _ => (TOf hm).mono ?_⟩
  rintro _ V2 hV2 ⟨t, rfl, ht⟩
  refine ⟨t.a.a, t.a.b, t.a.c, t.l.a, t.l.b, t.l.c, rfl, (TOf hn).mono ?_⟩
  rintro _ V3 hV3 ⟨u, rfl, hu⟩
  refine ⟨u.a.a, u.a.b, u.a.c, u.l.a, u.l.b, u.l.c, rfl, (Tpoint hx hy hz).mono ?_⟩
  rintro _ V4 hV4 ⟨p, rfl, hp⟩
  refine ⟨p.a, p.b, p.c, rfl, (Tpoint hx' hy' hz').mono ?_⟩
  rintro _ V5 hV5 ⟨q, rfl, hq⟩
  have ht := ((ht.mono hV3).mono hV4).mono hV5
  have hu := (hu.mono hV4).mono hV5
  have hp := (hp.mono hV5).up (show 0 ≤ 1 by omega)
  have hq := hq.up (show 0 ≤ 1 by omega)
  refine ⟨q.a, q.b, q.c, rfl, fun _ _ _ _ => (TVelocity ht hp (by omega)).mono ?_⟩
  rintro _ V6 hV6 ⟨a, rfl, ha⟩
  refine ⟨a.a, a.b, a.c, rfl, (TVelocity (ht.mono hV6) (hq.mono hV6) (by omega)).mono ?_⟩
  rintro _ V7 hV7 ⟨b, rfl, hb⟩
  refine ⟨b.a, b.b, b.c, rfl, (VSub (ha.mono hV7) hb (by omega)).mono ?_⟩
  rintro _ V8 hV8 ⟨c, rfl, hc⟩
  have ht := ((ht.mono hV6).mono hV7).mono hV8
  have hu := ((hu.mono hV6).mono hV7).mono hV8
  have hp := ((hp.mono hV6).mono hV7).mono hV8
  have hq := ((hq.mono hV6).mono hV7).mono hV8
  refine ⟨c.a, c.b, c.c, rfl, fun _ => (TAdd ht hu (by omega)).mono ?_⟩
  rintro _ V9 hV9 ⟨d, rfl, hd⟩
  refine ⟨d.a.a, d.a.b, d.a.c, d.l.a, d.l.b, d.l.c, rfl, (TVelocity hd ((hp.mono hV9).up (show 1 ≤ 1 + 1 by omega)) (by omega)).mono ?_⟩
  rintro _ V10 hV10 ⟨e, rfl, he⟩
  have ht := (ht.mono hV9).mono hV10
  have hu := (hu.mono hV9).mono hV10
  have hp := (hp.mono hV9).mono hV10
  have hq := (hq.mono hV9).mono hV10
  have hc := (hc.mono hV9).mono hV10
  refine ⟨e.a, e.b, e.c, rfl, fun _ => (VSub hp hq (by omega)).mono ?_⟩
  rintro _ V11 hV11 ⟨f, rfl, hf⟩
  refine ⟨f.a, f.b, f.c, rfl, (VDot (hc.mono hV11) (hf.up (show 1 + 1 ≤ 1 + 3 + 1 by omega)) (by omega)).mono ?_⟩
  rintro _ V12 hV12 ⟨g, rfl, hg⟩
  rw [rigid_dot] at hg
  refine ⟨g, rfl, (LSign hg).mono ?_⟩
  rintro _ V13 hV13 rfl
  have ht := ((ht.mono hV11).mono hV12).mono hV13
  have hu := ((hu.mono hV11).mono hV12).mono hV13
  have hp := ((hp.mono hV11).mono hV12).mono hV13
  have he := ((he.mono hV11).mono hV12).mono hV13
  refine ⟨_, rfl, fun _ => (TVelocity ht hp (by omega)).mono ?_, fun e => by simp at e⟩
  rintro _ V14 hV14 ⟨h, rfl, hh⟩
  refine ⟨h.a, h.b, h.c, rfl, (TVelocity (hu.mono hV14) (hp.mono hV14) (by omega)).mono ?_⟩
  rintro _ V15 hV15 ⟨i, rfl, hi⟩
  refine ⟨i.a, i.b, i.c, rfl, (VAdd (hh.mono hV15) hi (by omega)).mono ?_⟩
  rintro _ V16 hV16 ⟨j, rfl, hj⟩
  rw [← rigid_sum] at hj
  refine ⟨j.a, j.b, j.c, rfl, (VEqual (((he.mono hV14).mono hV15).mono hV16) (hj.up (show 1 + 3 + 1 ≤ 1 + 1 + 3 by omega)) (by omega)).mono ?_⟩
  rintro _ V17 hV17 rfl
  exact ⟨_, rfl, by simp⟩
end Go.Proofs.YteimfmjojadkfaaDoor
