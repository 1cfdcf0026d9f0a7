/- A text of this claim's own: SD.LawPo. -/
import Derived.Test.YtohhbfclmkcgmaaGreatDoorSDForceC
set_option linter.unusedVariables false
set_option linter.unusedSimpArgs false
set_option linter.unusedVariables false
set_option linter.unusedSimpArgs false
set_option maxRecDepth 100000
namespace Go.Proofs.YtohhbfclmkcgmaaGreatDoor
open Go Go.Dx Dw
theorem power_one (q : Q6) (p f : Q3) : (p.cross f).dot q.a + f.dot q.l = f.dot (vel q p) := by
  obtain ⟨⟨x, y, z⟩, ⟨x', y', z'⟩⟩ := q
  obtain ⟨a, b, c⟩ := p
  obtain ⟨a', b', c'⟩ := f
  simp only [vel, Q3.add, Q3.cross, Q3.dot]
  grind
theorem power_two (q : Q6) (p f p' f' : Q3) : ((p.cross f).add (p'.cross f')).dot q.a + (f.add f').dot q.l = f.dot (vel q p) + f'.dot (vel q p') := by
  rw [← power_one, ← power_one]
  obtain ⟨⟨x, y, z⟩, ⟨x', y', z'⟩⟩ := q
  obtain ⟨a, b, c⟩ := f
  obtain ⟨a', b', c'⟩ := f'
  generalize p.cross _ = u
  generalize p'.cross _ = u'
  obtain ⟨d, e, g⟩ := u
  obtain ⟨d', e', g'⟩ := u'
  simp only [Q3.add, Q3.dot]
  grind
set_option maxHeartbeats 2000000 in
theorem TwistPowers_spec {m : Sm} {x1 y1 z1 x2 y2 z2 u1 v1 w1 u2 v2 w2 : Int} {V : VH} (hm : m.ok) (hx1 : I8 x1) (hy1 : I8 y1) (hz1 : I8 z1) (hx2 : I8 x2) (hy2 : I8 y2) (hz2 : I8 z2)
    (hu1 : I8 u1) (hv1 : I8 v1) (hw1 : I8 w1) (hu2 : I8 u2) (hv2 : I8 v2) (hw2 : I8 w2) :
    CSpec Tryz.prog n_dowellaw17_TwistPowers #[m.v, .agg #[.int .i8 x1, .int .i8 y1, .int .i8 z1, .int .i8 x2, .int .i8 y2, .int .i8 z2], .agg #[.int .i8 u1, .int .i8 v1, .int .i8 w1, .int .i8 u2, .int .i8 v2, .int .i8 w2]] V fun v V' => v = .bool true := by
  refine E_dowellaw17_TwistPowers m.a m.b m.c m.d m.e m.f m.s x1 y1 z1 x2 y2 z2 u1 v1 w1 u2 v2 w2 V _ fun _ _ _ => known_spec.mono ?_
  rintro _ V1 hV1 rfl
  refine ⟨_, rfl, fun e => by simp at e, fun _ => (TOf hm).mono ?_⟩
  rintro _ V2 hV2 ⟨t, rfl, ht⟩
  refine ⟨t.a.a, t.a.b, t.a.c, t.l.a, t.l.b, t.l.c, rfl, fun _ => (Tpoint hx1 hy1 hz1).mono ?_⟩
  rintro _ V3 hV3 ⟨p, rfl, hp⟩
  refine ⟨p.a, p.b, p.c, rfl, (Tpoint hu1 hv1 hw1).mono ?_⟩
  rintro _ V4 hV4 ⟨f, rfl, hf⟩
  refine ⟨f.a, f.b, f.c, rfl, (TForce (hp.mono hV4) hf (by omega)).mono ?_⟩
  rintro _ V5 hV5 ⟨a, rfl, ha⟩
  refine ⟨a.a.a, a.a.b, a.a.c, a.l.a, a.l.b, a.l.c, rfl, (Tpoint hx2 hy2 hz2).mono ?_⟩
  rintro _ V6 hV6 ⟨p', rfl, hp'⟩
  refine ⟨p'.a, p'.b, p'.c, rfl, (Tpoint hu2 hv2 hw2).mono ?_⟩
  rintro _ V7 hV7 ⟨f', rfl, hf'⟩
  refine ⟨f'.a, f'.b, f'.c, rfl, (TForce (hp'.mono hV7) hf' (by omega)).mono ?_⟩
  rintro _ V8 hV8 ⟨b, rfl, hb⟩
  refine ⟨b.a.a, b.a.b, b.a.c, b.l.a, b.l.b, b.l.c, rfl, fun _ _ m37 hm37 => ?_⟩
  have hq := VH.le_put hm37 (.cells (a.cs ++ b.cs).toArray 40)
  have ha := (((ha.mono hV6).mono hV7).mono hV8).mono hq
  have ht := ((((((ht.mono hV3).mono hV4).mono hV5).mono hV6).mono hV7).mono hV8).mono hq
  refine (TSum2 (VH.put_at _ _ _) ha (hb.mono hq) (by omega)).mono ?_
  rintro _ V9 hV9 ⟨w, rfl, hw⟩
  clear hq
  refine ⟨w.a.a, w.a.b, w.a.c, w.l.a, w.l.b, w.l.c, rfl, fun _ => (Tpoint hu1 hv1 hw1).mono ?_⟩
  rintro _ V10 hV10 ⟨c1, rfl, hc1⟩
  refine ⟨c1.a, c1.b, c1.c, rfl, (Tpoint hx1 hy1 hz1).mono ?_⟩
  rintro _ V11 hV11 ⟨c2, rfl, hc2⟩
  have ht := ((ht.mono hV9).mono hV10).mono hV11
  refine ⟨c2.a, c2.b, c2.c, rfl, (Tvelocity ht (hc2.up (show 0 ≤ 1 by omega)) (by omega)).mono ?_⟩
  rintro _ V12 hV12 ⟨c3, rfl, hc3⟩
  refine ⟨c3.a, c3.b, c3.c, rfl, (VDot (((hc1.mono hV11).mono hV12).up (show 0 ≤ 1 + 3 by omega)) hc3 (by omega)).mono ?_⟩
  rintro _ V13 hV13 ⟨d1, rfl, hd1⟩
  refine ⟨d1, rfl, (Tpoint hu2 hv2 hw2).mono ?_⟩
  rintro _ V14 hV14 ⟨c4, rfl, hc4⟩
  refine ⟨c4.a, c4.b, c4.c, rfl, (Tpoint hx2 hy2 hz2).mono ?_⟩
  rintro _ V15 hV15 ⟨c5, rfl, hc5⟩
  have ht := (((ht.mono hV12).mono hV13).mono hV14).mono hV15
  refine ⟨c5.a, c5.b, c5.c, rfl, (Tvelocity ht (hc5.up (show 0 ≤ 1 by omega)) (by omega)).mono ?_⟩
  rintro _ V16 hV16 ⟨c6, rfl, hc6⟩
  refine ⟨c6.a, c6.b, c6.c, rfl, (VDot (((hc4.mono hV15).mono hV16).up (show 0 ≤ 1 + 3 by omega)) hc6 (by omega)).mono ?_⟩
  rintro _ V17 hV17 ⟨d2, rfl, hd2⟩
  refine ⟨d2, rfl, (LAdd ((((hd1.mono hV14).mono hV15).mono hV16).mono hV17) hd2 (by omega)).mono ?_⟩
  rintro _ V18 hV18 ⟨d3, rfl, hd3⟩
  refine ⟨d3, rfl, fun _ => TSum0.mono ?_⟩
  rintro _ V19 hV19 ⟨o, rfl, ho⟩
  refine ⟨o.a.a, o.a.b, o.a.c, o.l.a, o.l.b, o.l.c, rfl, fun _ => (Tpoint hx1 hy1 hz1).mono ?_⟩
  rintro _ V20 hV20 ⟨e1, rfl, he1⟩
  refine ⟨e1.a, e1.b, e1.c, rfl, (Tpoint hu1 hv1 hw1).mono ?_⟩
  rintro _ V21 hV21 ⟨e2, rfl, he2⟩
  refine ⟨e2.a, e2.b, e2.c, rfl, (VCross (he1.mono hV21) he2 (by omega)).mono ?_⟩
  rintro _ V22 hV22 ⟨e3, rfl, he3⟩
  have l1 : V9.le V16 := VH.le_trans hV10 (VH.le_trans hV11 (VH.le_trans hV12 (VH.le_trans hV13 (VH.le_trans hV14 (VH.le_trans hV15 hV16)))))
  have l2 : V16.le V22 := VH.le_trans hV17 (VH.le_trans hV18 (VH.le_trans hV19 (VH.le_trans hV20 (VH.le_trans hV21 hV22))))
  have ht := (ht.mono hV16)
  have ht := ht.mono l2
  have hd3 := (((hd3.mono hV19).mono hV20).mono hV21).mono hV22
  have ho := ((ho.mono hV20).mono hV21).mono hV22
  have ha := ((ha.mono hV9).mono l1).mono l2
  have hw := (hw.mono l1).mono l2
  refine ⟨e3.a, e3.b, e3.c, rfl, (VEqual ha.1 he3 (by omega)).mono ?_⟩
  rintro _ V23 hV23 rfl
  refine ⟨_, rfl, fun _ => (Tpoint hu1 hv1 hw1).mono ?_, fun e => by simp at e⟩
  rintro _ V24 hV24 ⟨e4, rfl, he4⟩
  refine ⟨e4.a, e4.b, e4.c, rfl, (VEqual ((ha.mono hV23).mono hV24).2 (he4.up (show 0 ≤ 0 + 2 by omega)) (by omega)).mono ?_⟩
  rintro _ V25 hV25 rfl
  refine ⟨_, rfl, fun _ => (Tpoint hu1 hv1 hw1).mono ?_, fun e => by simp at e⟩
  rintro _ V26 hV26 ⟨e5, rfl, he5⟩
  refine ⟨e5.a, e5.b, e5.c, rfl, (Tpoint hu2 hv2 hw2).mono ?_⟩
  rintro _ V27 hV27 ⟨e6, rfl, he6⟩
  refine ⟨e6.a, e6.b, e6.c, rfl, (VAdd (he5.mono hV27) he6 (by omega)).mono ?_⟩
  rintro _ V28 hV28 ⟨e7, rfl, he7⟩
  have l3 : V22.le V28 := VH.le_trans hV23 (VH.le_trans hV24 (VH.le_trans hV25 (VH.le_trans hV26 (VH.le_trans hV27 hV28))))
  have ht := ht.mono l3
  have hd3 := hd3.mono l3
  have ho := ho.mono l3
  have ha := ha.mono l3
  have hw := hw.mono l3
  refine ⟨e7.a, e7.b, e7.c, rfl, (VEqual hw.2 (he7.up (show 0 + 1 ≤ 0 + 2 + 2 by omega)) (by omega)).mono ?_⟩
  rintro _ V29 hV29 rfl
  refine ⟨_, rfl, fun _ => (TPower ((ht.mono hV29).up (show 1 ≤ 0 + 2 + 2 by omega)) (hw.mono hV29) (by omega)).mono ?_, fun e => by simp at e⟩
  rintro _ V30 hV30 ⟨e8, rfl, he8⟩
  rw [power_two] at he8
  refine ⟨e8, rfl, (Tequal he8 (((hd3.mono hV29).mono hV30).up (show 1 + 3 + 4 + 1 ≤ 0 + 2 + 2 + 5 by omega)) (by omega)).mono ?_⟩
  rintro _ V31 hV31 rfl
  have ht := ((ht.mono hV29).mono hV30).mono hV31
  have ha := ((ha.mono hV29).mono hV30).mono hV31
  have ho := ((ho.mono hV29).mono hV30).mono hV31
  refine ⟨_, rfl, fun _ => (TPower (ht.up (show 1 ≤ 0 + 2 by omega)) ha (by omega)).mono ?_, fun e => by simp at e⟩
  rintro _ V32 hV32 ⟨e9, rfl, he9⟩
  rw [power_one] at he9
  refine ⟨e9, rfl, (Tpoint hu1 hv1 hw1).mono ?_⟩
  rintro _ V33 hV33 ⟨g1, rfl, hg1⟩
  refine ⟨g1.a, g1.b, g1.c, rfl, (Tpoint hx1 hy1 hz1).mono ?_⟩
  rintro _ V34 hV34 ⟨g2, rfl, hg2⟩
  refine ⟨g2.a, g2.b, g2.c, rfl, (Tvelocity (((ht.mono hV32).mono hV33).mono hV34) (hg2.up (show 0 ≤ 1 by omega)) (by omega)).mono ?_⟩
  rintro _ V35 hV35 ⟨g3, rfl, hg3⟩
  refine ⟨g3.a, g3.b, g3.c, rfl, (VDot (((hg1.mono hV34).mono hV35).up (show 0 ≤ 1 + 3 by omega)) hg3 (by omega)).mono ?_⟩
  rintro _ V36 hV36 ⟨g4, rfl, hg4⟩
  refine ⟨g4, rfl, (Tequal (((((he9.mono hV33).mono hV34).mono hV35).mono hV36).up (show 0 + 2 + 5 ≤ 1 + 3 + 4 by omega)) hg4 (by omega)).mono ?_⟩
  rintro _ V37 hV37 rfl
  have ho := ((((((ho.mono hV32).mono hV33).mono hV34).mono hV35).mono hV36).mono hV37)
  refine ⟨_, rfl, fun _ => (VIsZero ho.2 (by omega)).mono ?_, fun e => by simp at e⟩
  rintro _ V38 hV38 rfl
  refine ⟨_, rfl, fun _ => (VIsZero (ho.mono hV38).1 (by omega)).mono ?_, fun e => by simp [Q6.zero] at e⟩
  rintro _ V39 hV39 rfl
  exact ⟨_, rfl, by simp [Q6.zero]⟩
end Go.Proofs.YtohhbfclmkcgmaaGreatDoor
