/- A text of this claim's own: SD.ForceC. -/
import Derived.Test.YtohhbfclmkcgmaaGreatDoorSDKnownC
set_option linter.unusedVariables false
set_option linter.unusedSimpArgs false
set_option linter.unusedVariables false
set_option linter.unusedSimpArgs false
set_option maxRecDepth 100000
namespace Go.Proofs.YtohhbfclmkcgmaaGreatDoor
open Go Go.Dx Dw
theorem TForce {r s : R12} {u w : Q3} {k : Nat} {V : VH} (h : VecL V r u k) (h' : VecL V s w k) (hk : k ≤ 20) :
    CSpec Tryz.prog n_twist_Force #[r.v, s.v] V fun v V' => TwV V' v ⟨u.cross w, w⟩ (k + 2) := by
  refine E_twist_Force r.a r.b r.c s.a s.b s.c V _ fun _ _ _ => (VCross h h' hk).mono ?_
  rintro _ V1 hV1 ⟨c, rfl, hc⟩
  exact ⟨c.a, c.b, c.c, rfl, ⟨c, s⟩, rfl, hc, (h'.mono hV1).up (by omega)⟩
theorem Q3.zero_add (u : Q3) : Q3.zero.add u = u := by
  obtain ⟨a, b, c⟩ := u
  simp only [Q3.zero, Q3.add, Rat.zero_add]
def R24.cs (r : R24) : List Value := [.bool r.a.a.x.n, .slice r.a.a.x.A r.a.a.x.l.length r.a.a.x.c, .bool r.a.a.y.n, .slice r.a.a.y.A r.a.a.y.l.length r.a.a.y.c,
  .bool r.a.b.x.n, .slice r.a.b.x.A r.a.b.x.l.length r.a.b.x.c, .bool r.a.b.y.n, .slice r.a.b.y.A r.a.b.y.l.length r.a.b.y.c,
  .bool r.a.c.x.n, .slice r.a.c.x.A r.a.c.x.l.length r.a.c.x.c, .bool r.a.c.y.n, .slice r.a.c.y.A r.a.c.y.l.length r.a.c.y.c,
  .bool r.l.a.x.n, .slice r.l.a.x.A r.l.a.x.l.length r.l.a.x.c, .bool r.l.a.y.n, .slice r.l.a.y.A r.l.a.y.l.length r.l.a.y.c,
  .bool r.l.b.x.n, .slice r.l.b.x.A r.l.b.x.l.length r.l.b.x.c, .bool r.l.b.y.n, .slice r.l.b.y.A r.l.b.y.l.length r.l.b.y.c,
  .bool r.l.c.x.n, .slice r.l.c.x.A r.l.c.x.l.length r.l.c.x.c, .bool r.l.c.y.n, .slice r.l.c.y.A r.l.c.y.l.length r.l.c.y.c]
theorem TSum2 {r s : R24} {t u : Q6} {k m T : Nat} {V : VH} (hV : V.f m = some (.cells (r.cs ++ s.cs).toArray T)) (h : TwL V r t k) (h' : TwL V s u k) (hk : k ≤ 20) :
    CSpec Tryz.prog n_twist_Sum #[.slice (some ⟨m, 0, none⟩) 2 2] V fun v V' => TwV V' v ⟨t.a.add u.a, t.l.add u.l⟩ (k + 2) := by
  refine E_twist_Sum0giv2 m T r.a.a r.a.b r.a.c r.l.a r.l.b r.l.c s.a.a s.a.b s.a.c s.l.a s.l.b s.l.c 2 V hV _ fun _ _ _ => ?_
  refine And.intro (And.intro ?_ ?_) ?_
  all_goals
    refine (VAdd (VecL.zero V k) h.1 (by omega)).mono ?_
    rintro _ V1 hV1 ⟨c, rfl, hc⟩
    refine ⟨c.a, c.b, c.c, rfl, (VAdd (VecL.zero V1 k) (h.2.mono hV1) (by omega)).mono ?_⟩
    rintro _ V2 hV2 ⟨d, rfl, hd⟩
    rw [Q3.zero_add] at hc hd
    refine ⟨d.a, d.b, d.c, rfl, fun _ => ?_⟩
    have hc := hc.mono hV2
    have h' := ((h'.mono hV1).mono hV2).up (show k ≤ k + 1 by omega)
    refine And.intro (And.intro ?_ ?_) ?_
    all_goals
      refine (VAdd hc h'.1 (by omega)).mono ?_
      rintro _ V3 hV3 ⟨e, rfl, he⟩
      refine ⟨e.a, e.b, e.c, rfl, (VAdd (hd.mono hV3) (h'.2.mono hV3) (by omega)).mono ?_⟩
      rintro _ V4 hV4 ⟨f, rfl, hf⟩
      exact ⟨f.a, f.b, f.c, rfl, ⟨e, f⟩, rfl, he.mono hV4, hf⟩
theorem TSum0 {V : VH} : CSpec Tryz.prog n_twist_Sum #[.slice none 0 0] V fun v V' => TwV V' v Q6.zero 0 := by
  refine E_twist_Sum0a (OV.sl none 0 []) V _ fun _ _ => ⟨rfl, fun e => ?_, fun _ => ?_⟩
  · simp [OV.sl, lenV] at e
  · exact ⟨⟨zero12, zero12⟩, rfl, VecL.zero _ _, VecL.zero _ _⟩
theorem TPower {r s : R24} {t w : Q6} {k : Nat} {V : VH} (h : TwL V r t k) (h' : TwL V s w k) (hk : k ≤ 16) :
    CSpec Tryz.prog n_twist_Power #[r.v, s.v] V fun v V' => ∃ g : R4, v = g.v ∧ RatL V' g (w.a.dot t.a + w.l.dot t.l) (k + 5) := by
  refine E_twist_Power r.a.a r.a.b r.a.c r.l.a r.l.b r.l.c s.a.a s.a.b s.a.c s.l.a s.l.b s.l.c V _ fun _ _ _ => (VDot h'.1 h.1 (by omega)).mono ?_
  rintro _ V1 hV1 ⟨c, rfl, hc⟩
  refine ⟨c, rfl, (VDot (h'.2.mono hV1) (h.2.mono hV1) (by omega)).mono ?_⟩
  rintro _ V2 hV2 ⟨d, rfl, hd⟩
  refine ⟨d, rfl, (LAdd (hc.mono hV2) hd (by omega)).mono ?_⟩
  rintro _ V3 hV3 ⟨e, rfl, he⟩
  exact ⟨e, rfl, e, rfl, he⟩
end Go.Proofs.YtohhbfclmkcgmaaGreatDoor
