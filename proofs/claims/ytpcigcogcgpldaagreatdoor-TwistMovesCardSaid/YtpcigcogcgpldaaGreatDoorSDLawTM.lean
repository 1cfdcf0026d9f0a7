/- A text of this claim's own: SD.LawTM. -/
import Derived.Test.YtpcigcogcgpldaaGreatDoorSdI
import Derived.Test.YtpcigcogcgpldaaGreatDoorSDGTM
set_option linter.unusedVariables false
set_option linter.unusedSimpArgs false
set_option linter.unusedVariables false
set_option linter.unusedSimpArgs false
set_option maxRecDepth 100000
namespace Go.Proofs.YtpcigcogcgpldaaGreatDoor
open Go Go.Dx Dw
theorem vel_moved {m : QM} (h : Orth m) (t : Q6) (p : Q3) : vel (t.move m) (m.apply p) = m.turn (vel t p) := by
  have hc := h.cross t.a p
  unfold vel Q6.move QM.apply
  rw [turn_add, ← hc]
  generalize m.turn t.a = A
  generalize m.turn t.l = L
  generalize m.turn p = P
  generalize m.s = S
  obtain ⟨a1, a2, a3⟩ := A
  obtain ⟨l1, l2, l3⟩ := L
  obtain ⟨p1, p2, p3⟩ := P
  obtain ⟨s1, s2, s3⟩ := S
  simp only [Q3.add, Q3.cross, Q3.mk.injEq]
  refine ⟨?_, ?_, ?_⟩ <;> grind
set_option maxHeartbeats 1000000 in
theorem TwistMoves_spec {V : VH} (hT : TabV V) {m : Sm} (hm : m.ok) {x y z : Int} (hx : I8 x) (hy : I8 y) (hz : I8 z) {b : B5} (hb : b.ok) :
    CSpec Tryz.prog n_dowellaw17_TwistMoves #[m.v, .agg #[.int .i8 x, .int .i8 y, .int .i8 z], b.v] V fun v V' => v = .bool true := by
  refine E_dowellaw17_TwistMoves m.a m.b m.c m.d m.e m.f m.s x y z b.a b.b b.c b.d b.e V _ fun _ _ _ => (known_spec hT).mono ?_
  rintro _ V1 hV1 rfl
  refine ⟨true, rfl, fun e => (by cases e), fun _ => (Moved_spec (hT.mono hV1) hb).mono ?_⟩
  rintro _ V2 hV2 ⟨g, q, rfl, hg, hq⟩
  have ho := hq.orth
  refine ⟨g.a.a, g.a.b, g.a.c, g.b.a, g.b.b, g.b.c, g.c.a, g.c.b, g.c.c, g.s.a, g.s.b, g.s.c, true, rfl, fun _ => ⟨fun e => (by cases e), fun _ => (TOf hm).mono ?_⟩⟩
  rintro _ V3 hV3 ⟨t, rfl, ht⟩
  have hg := hg.mono hV3
  refine ⟨t.a.a, t.a.b, t.a.c, t.l.a, t.l.b, t.l.c, rfl, fun _ => (TMove (ht.up (show 1 ≤ 5 by omega)) hg (by omega)).mono ?_⟩
  rintro _ V4 hV4 ⟨u, rfl, hu⟩
  have hg := hg.mono hV4
  have ht := ht.mono hV4
  refine ⟨u.a.a, u.a.b, u.a.c, u.l.a, u.l.b, u.l.c, rfl, fun _ => (MTurn hg (ht.1.up (show 1 ≤ 5 by omega)) (by omega)).mono ?_⟩
  rintro _ V5 hV5 ⟨c, rfl, hc⟩
  have hg := hg.mono hV5
  have ht := ht.mono hV5
  have hu := hu.mono hV5
  refine ⟨c.a, c.b, c.c, rfl, (VEqual (k := 12) hu.1 (hc.up (by omega)) (by omega)).mono ?_⟩
  rintro _ V6 hV6 rfl
  refine ⟨_, rfl, fun _ => (Tpoint hx hy hz).mono ?_, fun e => ?_⟩
  · rintro _ V7 hV7 ⟨p, rfl, hp⟩
    have hg := (hg.mono hV6).mono hV7
    have ht := (ht.mono hV6).mono hV7
    have hu := (hu.mono hV6).mono hV7
    refine ⟨p.a, p.b, p.c, rfl, (MApply hg (hp.up (show 0 ≤ 5 by omega)) (by omega)).mono ?_⟩
    rintro _ V8 hV8 ⟨a, rfl, ha⟩
    refine ⟨a.a, a.b, a.c, rfl, (Tvelocity (hu.mono hV8) (ha.up (show 5 + 5 ≤ 5 + 7 by omega)) (by omega)).mono ?_⟩
    rintro _ V9 hV9 ⟨v1, rfl, hv1⟩
    refine ⟨v1.a, v1.b, v1.c, rfl, (Tpoint hx hy hz).mono ?_⟩
    rintro _ V10 hV10 ⟨p', rfl, hp'⟩
    refine ⟨p'.a, p'.b, p'.c, rfl, (Tvelocity (((ht.mono hV8).mono hV9).mono hV10) (hp'.up (show 0 ≤ 1 by omega)) (by omega)).mono ?_⟩
    rintro _ V11 hV11 ⟨v2, rfl, hv2⟩
    refine ⟨v2.a, v2.b, v2.c, rfl, (MTurn ((((hg.mono hV8).mono hV9).mono hV10).mono hV11) (hv2.up (show 1 + 3 ≤ 5 by omega)) (by omega)).mono ?_⟩
    rintro _ V12 hV12 ⟨v3, rfl, hv3⟩
    refine ⟨v3.a, v3.b, v3.c, rfl, (VEqual (k := 15) (((hv1.mono hV10).mono hV11).mono hV12) (hv3.up (by omega)) (by omega)).mono ?_⟩
    rintro _ V13 hV13 rfl
    exact ⟨_, rfl, by rw [vel_moved ho]; simp⟩
  · simp only [Q6.move] at e; simp at e
end Go.Proofs.YtpcigcogcgpldaaGreatDoor
