/- A text of this claim's own: SD.LawTK. -/
import Derived.Test.YtpcigcogcgpldaaGreatDoorSdI
import Derived.Test.YtpcigcogcgpldaaGreatDoorSDGTK
set_option linter.unusedVariables false
set_option linter.unusedSimpArgs false
set_option linter.unusedVariables false
set_option linter.unusedSimpArgs false
set_option maxRecDepth 100000
namespace Go.Proofs.YtpcigcogcgpldaaGreatDoor
open Go Go.Dx Dw
theorem power_kept {m : QM} (h : Orth m) (t w : Q6) : (w.moveW m).a.dot (t.move m).a + (w.moveW m).l.dot (t.move m).l = w.a.dot t.a + w.l.dot t.l := by
  have h1 := h.dot w.a t.a
  have h2 := h.dot w.l t.l
  rw [← h1, ← h2]
  unfold Q6.moveW Q6.move
  generalize m.turn t.a = A
  generalize m.turn t.l = L
  generalize m.turn w.a = B
  generalize m.turn w.l = F
  generalize m.s = S
  obtain ⟨a1, a2, a3⟩ := A
  obtain ⟨l1, l2, l3⟩ := L
  obtain ⟨b1, b2, b3⟩ := B
  obtain ⟨f1, f2, f3⟩ := F
  obtain ⟨s1, s2, s3⟩ := S
  simp only [Q3.add, Q3.cross, Q3.dot]
  grind
theorem force_moved {m : QM} (h : Orth m) (p f : Q3) : (Q6.moveW ⟨p.cross f, f⟩ m) = ⟨(m.apply p).cross (m.turn f), m.turn f⟩ := by
  have hc := h.cross p f
  unfold Q6.moveW QM.apply
  rw [← hc]
  generalize m.turn p = P
  generalize m.turn f = F
  generalize m.s = S
  obtain ⟨p1, p2, p3⟩ := P
  obtain ⟨f1, f2, f3⟩ := F
  obtain ⟨s1, s2, s3⟩ := S
  simp only [Q3.add, Q3.cross, Q6.mk.injEq, Q3.mk.injEq, and_true]
  refine ⟨?_, ?_, ?_⟩ <;> grind
theorem turn_s (m : QM) (s : Q3) (u : Q3) : (m.tr s).turn u = (m.tr Q3.zero).turn u := rfl
theorem back_moved {m : QM} (h : Rot m) (t : Q6) : (t.move m).move m.inv = t := by
  have ho := h.orth
  have hi := (h.tr (Q3.zero.sub ((m.tr Q3.zero).turn m.s))).orth
  obtain ⟨ta, tl⟩ := t
  unfold Q6.move QM.inv
  simp only
  have b1 := ho.back (Q3.zero.sub ((m.tr Q3.zero).turn m.s)) ta
  have b2 := ho.back (Q3.zero.sub ((m.tr Q3.zero).turn m.s)) tl
  have hx := hi.cross m.s (m.turn ta)
  rw [turn_add, ← hx, b1, b2]
  have e : (m.tr (Q3.zero.sub ((m.tr Q3.zero).turn m.s))).turn m.s = (m.tr Q3.zero).turn m.s := rfl
  rw [e]
  have e2 : (m.tr (Q3.zero.sub ((m.tr Q3.zero).turn m.s))).s = Q3.zero.sub ((m.tr Q3.zero).turn m.s) := rfl
  rw [e2]
  generalize (m.tr Q3.zero).turn m.s = S
  obtain ⟨s1, s2, s3⟩ := S
  obtain ⟨a1, a2, a3⟩ := ta
  obtain ⟨l1, l2, l3⟩ := tl
  simp only [Q3.add, Q3.sub, Q3.zero, Q3.cross, Q6.mk.injEq, Q3.mk.injEq, true_and]
  refine ⟨?_, ?_, ?_⟩ <;> grind
set_option maxHeartbeats 2000000 in
theorem TwistKeeps_spec {V : VH} (hT : TabV V) {m n : Sm} (hm : m.ok) (hn : n.ok) {b : B5} (hb : b.ok) :
    CSpec Tryz.prog n_dowellaw17_TwistKeeps #[m.v, n.v, b.v] V fun v V' => v = .bool true := by
  have hm' := hm
  have hn' := hn
  obtain ⟨⟨h1, h2, h3, h4, h5, h6⟩, h7, h8⟩ := hm'
  obtain ⟨⟨k1, k2, k3, k4, k5, k6⟩, k7, k8⟩ := hn'
  refine E_dowellaw17_TwistKeeps m.a m.b m.c m.d m.e m.f m.s n.a n.b n.c n.d n.e n.f n.s b.a b.b b.c b.d b.e V _ fun _ _ _ => (known_spec hT).mono ?_
  rintro _ V1 hV1 rfl
  refine ⟨true, rfl, fun e => (by cases e), fun _ => (Moved_spec (hT.mono hV1) hb).mono ?_⟩
  rintro _ V2 hV2 ⟨g, q, rfl, hg, hq⟩
  have ho := hq.orth
  refine ⟨g.a.a, g.a.b, g.a.c, g.b.a, g.b.b, g.b.c, g.c.a, g.c.b, g.c.c, g.s.a, g.s.b, g.s.c, true, rfl, fun _ => ⟨fun e => (by cases e), fun _ => (TOf hm).mono ?_⟩⟩
  rintro _ V3 hV3 ⟨t, rfl, ht⟩
  have hg := hg.mono hV3
  refine ⟨t.a.a, t.a.b, t.a.c, t.l.a, t.l.b, t.l.c, rfl, (Twrench hn).mono ?_⟩
  rintro _ V4 hV4 ⟨x, rfl, hx⟩
  have hg := hg.mono hV4
  have ht := ht.mono hV4
  refine ⟨x.a.a, x.a.b, x.a.c, x.l.a, x.l.b, x.l.c, rfl, fun _ _ => (TMoveWrench (hx.up (show 1 ≤ 5 by omega)) hg (by omega)).mono ?_⟩
  rintro _ V5 hV5 ⟨y, rfl, hy⟩
  have hg := hg.mono hV5
  have ht := ht.mono hV5
  have hx := hx.mono hV5
  refine ⟨y.a.a, y.a.b, y.a.c, y.l.a, y.l.b, y.l.c, rfl, fun _ => (Tvec0 h1 h2 h3 h7 h8).mono ?_⟩
  rintro _ V6 hV6 ⟨p, rfl, hp⟩
  refine ⟨p.a, p.b, p.c, rfl, (Tvec0 k1 k2 k3 k7 k8).mono ?_⟩
  rintro _ V7 hV7 ⟨f, rfl, hf⟩
  have hg := (hg.mono hV6).mono hV7
  refine ⟨f.a, f.b, f.c, rfl, (TForce (hp.mono hV7) hf (by omega)).mono ?_⟩
  rintro _ V8 hV8 ⟨w, rfl, hw⟩
  have hg := hg.mono hV8
  refine ⟨w.a.a, w.a.b, w.a.c, w.l.a, w.l.b, w.l.c, rfl, (TMoveWrench (hw.up (show 1 + 2 ≤ 5 by omega)) hg (by omega)).mono ?_⟩
  rintro _ V9 hV9 ⟨F, rfl, hF⟩
  have hg := hg.mono hV9
  refine ⟨F.a.a, F.a.b, F.a.c, F.l.a, F.l.b, F.l.c, rfl, fun _ => (Tvec0 h1 h2 h3 h7 h8).mono ?_⟩
  rintro _ V10 hV10 ⟨p2, rfl, hp2⟩
  have hg := hg.mono hV10
  refine ⟨p2.a, p2.b, p2.c, rfl, (MApply hg (hp2.up (show 1 ≤ 5 by omega)) (by omega)).mono ?_⟩
  rintro _ V11 hV11 ⟨P, rfl, hP⟩
  have hg := hg.mono hV11
  refine ⟨P.a, P.b, P.c, rfl, (Tvec0 k1 k2 k3 k7 k8).mono ?_⟩
  rintro _ V12 hV12 ⟨f2, rfl, hf2⟩
  have hg := hg.mono hV12
  refine ⟨f2.a, f2.b, f2.c, rfl, (MTurn hg (hf2.up (show 1 ≤ 5 by omega)) (by omega)).mono ?_⟩
  rintro _ V13 hV13 ⟨R, rfl, hR⟩
  have hg := hg.mono hV13
  refine ⟨R.a, R.b, R.c, rfl, (TForce ((hP.mono hV12).mono hV13) (hR.up (show 5 + 4 ≤ 5 + 5 by omega)) (by omega)).mono ?_⟩
  rintro _ V14 hV14 ⟨G, rfl, hG⟩
  have hg := hg.mono hV14
  have ht := ((((((((ht.mono hV6).mono hV7).mono hV8).mono hV9).mono hV10).mono hV11).mono hV12).mono hV13).mono hV14
  refine ⟨G.a.a, G.a.b, G.a.c, G.l.a, G.l.b, G.l.c, rfl, fun _ => (TMove (ht.up (show 1 ≤ 5 by omega)) hg (by omega)).mono ?_⟩
  rintro _ V15 hV15 ⟨u, rfl, hu⟩
  have hg := hg.mono hV15
  refine ⟨u.a.a, u.a.b, u.a.c, u.l.a, u.l.b, u.l.c, rfl, (MInvert hg (by omega)).mono ?_⟩
  rintro _ V16 hV16 ⟨i, rfl, hi⟩
  have hg := hg.mono hV16
  refine ⟨i.a.a, i.a.b, i.a.c, i.b.a, i.b.b, i.b.c, i.c.a, i.c.b, i.c.c, i.s.a, i.s.b, i.s.c, rfl, (TMove (hu.mono hV16) (hi.up (show 5 + 5 ≤ 5 + 7 by omega)) (by omega)).mono ?_⟩
  rintro _ V17 hV17 ⟨k, rfl, hk⟩
  have hg := hg.mono hV17
  have ht := ((ht.mono hV15).mono hV16).mono hV17
  refine ⟨k.a.a, k.a.b, k.a.c, k.l.a, k.l.b, k.l.c, rfl, fun _ => (TMove (ht.up (show 1 ≤ 5 by omega)) hg (by omega)).mono ?_⟩
  rintro _ V18 hV18 ⟨u2, rfl, hu2⟩
  have hy := ((((((((((((hy.mono hV6).mono hV7).mono hV8).mono hV9).mono hV10).mono hV11).mono hV12).mono hV13).mono hV14).mono hV15).mono hV16).mono hV17).mono hV18
  have hx := ((((((((((((hx.mono hV6).mono hV7).mono hV8).mono hV9).mono hV10).mono hV11).mono hV12).mono hV13).mono hV14).mono hV15).mono hV16).mono hV17).mono hV18
  refine ⟨u2.a.a, u2.a.b, u2.a.c, u2.l.a, u2.l.b, u2.l.c, rfl, (TPower hu2 hy (by omega)).mono ?_⟩
  rintro _ V19 hV19 ⟨e1, rfl, he1⟩
  refine ⟨e1, rfl, (TPower ((ht.mono hV18).mono hV19) (hx.mono hV19) (by omega)).mono ?_⟩
  rintro _ V20 hV20 ⟨e2, rfl, he2⟩
  refine ⟨e2, rfl, (Tequal (k := 17) (he1.mono hV20) (he2.up (by omega)) (by omega)).mono ?_⟩
  rintro _ V21 hV21 rfl
  refine ⟨_, rfl, fun _ => ?_, fun e => ?_⟩
  rotate_left
  · rw [power_kept ho] at e; simp at e
  have hg := (((hg.mono hV18).mono hV19).mono hV20).mono hV21
  have hx := ((hx.mono hV19).mono hV20).mono hV21
  have hy := ((hy.mono hV19).mono hV20).mono hV21
  refine (MTurn hg (hx.2.up (show 1 ≤ 5 by omega)) (by omega)).mono ?_
  rintro _ V22 hV22 ⟨c, rfl, hc⟩
  refine ⟨c.a, c.b, c.c, rfl, (VEqual (k := 12) (hy.2.mono hV22) (hc.up (by omega)) (by omega)).mono ?_⟩
  rintro _ V23 hV23 rfl
  refine ⟨_, rfl, fun _ => ?_, fun e => ?_⟩
  rotate_left
  · simp only [Q6.moveW] at e; simp at e
  have hFG := force_moved ho (sq m.a m.b m.c m.s) (sq n.a n.b n.c n.s)
  have hF := (((((((((((((hF.mono hV10).mono hV11).mono hV12).mono hV13).mono hV14).mono hV15).mono hV16).mono hV17).mono hV18).mono hV19).mono hV20).mono hV21).mono hV22).mono hV23
  have hG := ((((((((hG.mono hV15).mono hV16).mono hV17).mono hV18).mono hV19).mono hV20).mono hV21).mono hV22).mono hV23
  rw [hFG] at hF
  refine (VEqual (k := 12) hF.1 hG.1 (by omega)).mono ?_
  rintro _ V24 hV24 rfl
  refine ⟨_, rfl, fun _ => ?_, fun e => ?_⟩
  rotate_left
  · simp at e
  refine (VEqual (k := 12) (hF.2.mono hV24) (hG.2.mono hV24) (by omega)).mono ?_
  rintro _ V25 hV25 rfl
  refine ⟨_, rfl, fun _ => ?_, fun e => ?_⟩
  rotate_left
  · simp at e
  have hk := (((((((hk.mono hV18).mono hV19).mono hV20).mono hV21).mono hV22).mono hV23).mono hV24).mono hV25
  have ht := (((((((ht.mono hV18).mono hV19).mono hV20).mono hV21).mono hV22).mono hV23).mono hV24).mono hV25
  refine (TEqual (k := 19) hk (ht.up (by omega)) (by omega)).mono ?_
  rintro _ V26 hV26 rfl
  exact ⟨_, rfl, by rw [back_moved hq]; simp⟩
end Go.Proofs.YtpcigcogcgpldaaGreatDoor
