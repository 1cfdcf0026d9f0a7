/- A text of this claim's own: SD.LawV. -/
import Derived.Test.YteimfmjojadkfaaDoorSDKnownC
set_option linter.unusedVariables false
set_option linter.unusedSimpArgs false
set_option linter.unusedVariables false
set_option linter.unusedSimpArgs false
set_option maxRecDepth 100000
namespace Go.Proofs.YteimfmjojadkfaaDoor
open Go Go.Dx Dw
theorem vel_translate (u p : Q3) : vel ⟨Q3.zero, u⟩ p = u := by
  obtain ⟨a, b, c⟩ := u
  simp only [vel, Q3.add, Q3.cross, Q3.zero, Q3.mk.injEq]
  refine ⟨?_, ?_, ?_⟩ <;> grind
theorem TwistVelocities_spec {m : Sm} {x y z : Int} {V : VH} (hm : m.ok) (hx : I8 x) (hy : I8 y) (hz : I8 z) :
    CSpec Tryd.prog n_dowellaw17_TwistVelocities #[m.v, .agg #[.int .i8 x, .int .i8 y, .int .i8 z]] V fun v V' => v = .bool true := by
  refine E_dowellaw17_TwistVelocities m.a m.b m.c m.d m.e m.f m.s x y z V _ fun _ _ => known_spec.mono ?_
  rintro _ V1 hV1 rfl
  refine ⟨_, rfl, fun e => by simp at e, fun _ => (TOf hm).mono ?_⟩
  rintro _ V2 hV2 ⟨t, rfl, ht⟩
  refine ⟨t.a.a, t.a.b, t.a.c, t.l.a, t.l.b, t.l.c, rfl, (Tpoint hx hy hz).mono ?_⟩
  rintro _ V3 hV3 ⟨p, rfl, hp⟩
  have ht := ht.mono hV3
  have hp := hp.up (show 0 ≤ 1 by omega)
  refine ⟨p.a, p.b, p.c, rfl, fun _ _ => (TVelocity ht hp (by omega)).mono ?_⟩
  rintro _ V4 hV4 ⟨u, rfl, hu⟩
  refine ⟨u.a, u.b, u.c, rfl, (Tvelocity (ht.mono hV4) (hp.mono hV4) (by omega)).mono ?_⟩
  rintro _ V5 hV5 ⟨w, rfl, hw⟩
  refine ⟨w.a, w.b, w.c, rfl, (VEqual (hu.mono hV5) hw (by omega)).mono ?_⟩
  rintro _ V6 hV6 rfl
  have hp := ((hp.mono hV4).mono hV5).mono hV6
  obtain ⟨⟨h1, h2, h3, h4, h5, h6⟩, h7, h8⟩ := hm
  refine ⟨_, rfl, fun _ => (Tvec3 h4 h5 h6 h7 h8).mono ?_, fun e => by simp at e⟩
  rintro _ V7 hV7 ⟨a, rfl, ha⟩
  refine ⟨a.a, a.b, a.c, rfl, (TTranslate ha).mono ?_⟩
  rintro _ V8 hV8 ⟨b, rfl, hb⟩
  refine ⟨b.a.a, b.a.b, b.a.c, b.l.a, b.l.b, b.l.c, rfl, (TVelocity hb ((hp.mono hV7).mono hV8) (by omega)).mono ?_⟩
  rintro _ V9 hV9 ⟨c, rfl, hc⟩
  rw [vel_translate] at hc
  refine ⟨c.a, c.b, c.c, rfl, (Tvec3 h4 h5 h6 h7 h8).mono ?_⟩
  rintro _ V10 hV10 ⟨d, rfl, hd⟩
  refine ⟨d.a, d.b, d.c, rfl, (VEqual (hc.mono hV10) (hd.up (show 1 ≤ 1 + 3 by omega)) (by omega)).mono ?_⟩
  rintro _ V11 hV11 rfl
  refine ⟨_, rfl, fun _ => (TTranslate (s := zero12) (p := Q3.zero) (k := 0) (VecL.zero _ _)).mono ?_, fun e => by simp at e⟩
  rintro _ V12 hV12 ⟨f, rfl, hf⟩
  refine ⟨f.a.a, f.a.b, f.a.c, f.l.a, f.l.b, f.l.c, rfl, (TIsZero hf (by omega)).mono ?_⟩
  rintro _ V13 hV13 rfl
  exact ⟨_, rfl, by simp [Q6.zero]⟩
end Go.Proofs.YteimfmjojadkfaaDoor
