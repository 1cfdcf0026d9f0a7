/- A text of this claim's own: SD.TwistC. -/
import Derived.Test.YtpcigcogcgpldaaGreatDoorSDPrimC
import Derived.Test.YtpcigcogcgpldaaGreatDoorSDETwist
set_option linter.unusedVariables false
set_option linter.unusedSimpArgs false
set_option linter.unusedVariables false
set_option linter.unusedSimpArgs false
set_option maxRecDepth 100000
namespace Go.Proofs.YtpcigcogcgpldaaGreatDoor
open Go Go.Dx Dw
/-- a twist -/
structure Q6 where
  a : Q3
  l : Q3
  deriving DecidableEq
structure R24 where
  a : R12
  l : R12
def R24.v (r : R24) : Value := .agg #[.bool r.a.a.x.n, .slice r.a.a.x.A r.a.a.x.l.length r.a.a.x.c, .bool r.a.a.y.n, .slice r.a.a.y.A r.a.a.y.l.length r.a.a.y.c,
  .bool r.a.b.x.n, .slice r.a.b.x.A r.a.b.x.l.length r.a.b.x.c, .bool r.a.b.y.n, .slice r.a.b.y.A r.a.b.y.l.length r.a.b.y.c,
  .bool r.a.c.x.n, .slice r.a.c.x.A r.a.c.x.l.length r.a.c.x.c, .bool r.a.c.y.n, .slice r.a.c.y.A r.a.c.y.l.length r.a.c.y.c,
  .bool r.l.a.x.n, .slice r.l.a.x.A r.l.a.x.l.length r.l.a.x.c, .bool r.l.a.y.n, .slice r.l.a.y.A r.l.a.y.l.length r.l.a.y.c,
  .bool r.l.b.x.n, .slice r.l.b.x.A r.l.b.x.l.length r.l.b.x.c, .bool r.l.b.y.n, .slice r.l.b.y.A r.l.b.y.l.length r.l.b.y.c,
  .bool r.l.c.x.n, .slice r.l.c.x.A r.l.c.x.l.length r.l.c.x.c, .bool r.l.c.y.n, .slice r.l.c.y.A r.l.c.y.l.length r.l.c.y.c]
def TwL (V : VH) (r : R24) (t : Q6) (k : Nat) : Prop := VecL V r.a t.a k ∧ VecL V r.l t.l k
theorem TwL.mono {V V' : VH} {r : R24} {q : Q6} {k : Nat} (h : TwL V r q k) (hl : V.le V') : TwL V' r q k := ⟨h.1.mono hl, h.2.mono hl⟩
theorem TwL.up {V : VH} {r : R24} {q : Q6} {k l : Nat} (h : TwL V r q k) (hl : k ≤ l) : TwL V r q l := ⟨h.1.up hl, h.2.up hl⟩
def TwV (V : VH) (v : Value) (t : Q6) (k : Nat) : Prop := ∃ r : R24, v = r.v ∧ TwL V r t k
def Q6.zero : Q6 := ⟨Q3.zero, Q3.zero⟩
def vel (t : Q6) (p : Q3) : Q3 := t.l.add (t.a.cross p)
theorem TVelocity {r : R24} {s : R12} {t : Q6} {p : Q3} {k : Nat} {V : VH} (h : TwL V r t k) (h' : VecL V s p k) (hk : k ≤ 18) :
    CSpec Tryz.prog n_twist_Velocity #[r.v, s.v] V fun v V' => VecV V' v (vel t p) (k + 3) := by
  refine E_twist_Velocity r.a.a r.a.b r.a.c r.l.a r.l.b r.l.c s.a s.b s.c V _ fun _ _ _ => (VCross h.1 h' (by omega)).mono ?_
  rintro _ V1 hV1 ⟨c, rfl, hc⟩
  refine ⟨c.a, c.b, c.c, rfl, (VAdd ((h.2.mono hV1).up (show k ≤ k + 2 by omega)) hc (by omega)).mono ?_⟩
  rintro _ V2 hV2 ⟨d, rfl, hd⟩
  exact ⟨d.a, d.b, d.c, rfl, d, rfl, hd⟩
theorem Tvelocity {r : R24} {s : R12} {t : Q6} {p : Q3} {k : Nat} {V : VH} (h : TwL V r t k) (h' : VecL V s p k) (hk : k ≤ 18) :
    CSpec Tryz.prog n_dowellaw17_velocity #[r.v, s.v] V fun v V' => VecV V' v (vel t p) (k + 3) := by
  refine E_dowellaw17_velocity r.a.a r.a.b r.a.c r.l.a r.l.b r.l.c s.a s.b s.c V _ fun _ _ _ => (VCross h.1 h' (by omega)).mono ?_
  rintro _ V1 hV1 ⟨c, rfl, hc⟩
  refine ⟨c.a, c.b, c.c, rfl, (VAdd ((h.2.mono hV1).up (show k ≤ k + 2 by omega)) hc (by omega)).mono ?_⟩
  rintro _ V2 hV2 ⟨d, rfl, hd⟩
  exact ⟨d.a, d.b, d.c, rfl, d, rfl, hd⟩
theorem TRotate {r s : R12} {u w : Q3} {k : Nat} {V : VH} (h : VecL V r u k) (h' : VecL V s w k) (hk : k ≤ 20) :
    CSpec Tryz.prog n_twist_Rotate #[r.v, s.v] V fun v V' => TwV V' v ⟨u, w.cross u⟩ (k + 2) := by
  refine E_twist_Rotate r.a r.b r.c s.a s.b s.c V _ fun _ _ _ => (VCross h' h hk).mono ?_
  rintro _ V1 hV1 ⟨c, rfl, hc⟩
  exact ⟨c.a, c.b, c.c, rfl, ⟨r, c⟩, rfl, (h.mono hV1).up (by omega), hc⟩
theorem TIsZero {r : R24} {t : Q6} {k : Nat} {V : VH} (h : TwL V r t k) (hk : k ≤ 21) :
    CSpec Tryz.prog n_twist_IsZero #[r.v] V fun v V' => v = .bool (decide (t = Q6.zero)) := by
  obtain ⟨ta, tl⟩ := t
  refine E_twist_IsZero r.a.a r.a.b r.a.c r.l.a r.l.b r.l.c V _ fun _ => (VIsZero h.1 hk).mono ?_
  rintro _ V1 hV1 rfl
  refine ⟨_, rfl, fun e => (VIsZero (h.2.mono hV1) hk).mono ?_, fun e => ?_⟩
  · rintro _ V2 hV2 rfl
    refine ⟨_, rfl, ?_⟩
    have e : ta = Q3.zero := of_decide_eq_true e
    simp [Q6.zero, e]
  · have e : ¬ ta = Q3.zero := of_decide_eq_false e
    simp [Q6.zero, e]
theorem TEqual {r s : R24} {t u : Q6} {k : Nat} {V : VH} (h : TwL V r t k) (h' : TwL V s u k) (hk : k ≤ 21) :
    CSpec Tryz.prog n_twist_Equal #[r.v, s.v] V fun v V' => v = .bool (decide (t = u)) := by
  obtain ⟨ta, tl⟩ := t
  obtain ⟨ua, ul⟩ := u
  refine E_twist_Equal r.a.a r.a.b r.a.c r.l.a r.l.b r.l.c s.a.a s.a.b s.a.c s.l.a s.l.b s.l.c V _ fun _ _ => (VEqual h.1 h'.1 hk).mono ?_
  rintro _ V1 hV1 rfl
  refine ⟨_, rfl, fun e => (VEqual (h.2.mono hV1) (h'.2.mono hV1) hk).mono ?_, fun e => ?_⟩
  · rintro _ V2 hV2 rfl
    refine ⟨_, rfl, ?_⟩
    have e : ta = ua := of_decide_eq_true e
    simp [e]
  · have e : ¬ ta = ua := of_decide_eq_false e
    simp [e]
theorem Tequal {r s : R4} {x y : Rat} {k : Nat} {V : VH} (h : RatL V r x k) (h' : RatL V s y k) (hk : k ≤ 21) :
    CSpec Tryz.prog n_dowellaw17_equal #[r.v, s.v] V fun v V' => v = .bool (decide (x = y)) := by
  refine E_dowellaw17_equal r s V _ fun _ _ => (LCompare h h' hk).mono ?_
  rintro _ V1 hV1 rfl
  exact ⟨_, rfl, by rw [cmpQ_beq]⟩
/-- an axis -/
structure QAx where
  kind : Int
  d : Q3
  p : Q3
  h : Rat
structure R33 where
  k : Int
  d : R12
  p : R12
  h : R4
def R33.v (r : R33) : Value := .agg #[.int .i64 r.k, .bool r.d.a.x.n, .slice r.d.a.x.A r.d.a.x.l.length r.d.a.x.c, .bool r.d.a.y.n, .slice r.d.a.y.A r.d.a.y.l.length r.d.a.y.c,
  .bool r.d.b.x.n, .slice r.d.b.x.A r.d.b.x.l.length r.d.b.x.c, .bool r.d.b.y.n, .slice r.d.b.y.A r.d.b.y.l.length r.d.b.y.c,
  .bool r.d.c.x.n, .slice r.d.c.x.A r.d.c.x.l.length r.d.c.x.c, .bool r.d.c.y.n, .slice r.d.c.y.A r.d.c.y.l.length r.d.c.y.c,
  .bool r.p.a.x.n, .slice r.p.a.x.A r.p.a.x.l.length r.p.a.x.c, .bool r.p.a.y.n, .slice r.p.a.y.A r.p.a.y.l.length r.p.a.y.c,
  .bool r.p.b.x.n, .slice r.p.b.x.A r.p.b.x.l.length r.p.b.x.c, .bool r.p.b.y.n, .slice r.p.b.y.A r.p.b.y.l.length r.p.b.y.c,
  .bool r.p.c.x.n, .slice r.p.c.x.A r.p.c.x.l.length r.p.c.x.c, .bool r.p.c.y.n, .slice r.p.c.y.A r.p.c.y.l.length r.p.c.y.c,
  .bool r.h.x.n, .slice r.h.x.A r.h.x.l.length r.h.x.c, .bool r.h.y.n, .slice r.h.y.A r.h.y.l.length r.h.y.c]
def AxL (V : VH) (r : R33) (x : QAx) (k : Nat) : Prop := r.k = x.kind ∧ VecL V r.d x.d k ∧ VecL V r.p x.p k ∧ RatL V r.h x.h k
theorem AxL.mono {V V' : VH} {r : R33} {q : QAx} {k : Nat} (h : AxL V r q k) (hl : V.le V') : AxL V' r q k := ⟨h.1, h.2.1.mono hl, h.2.2.1.mono hl, h.2.2.2.mono hl⟩
def byQ (t : Q6) : Rat := 1 / t.a.dot t.a
/-- the axis of a twist -/
def axis (t : Q6) : QAx :=
  if t = Q6.zero then ⟨0, Q3.zero, Q3.zero, 0⟩
  else if t.a = Q3.zero then ⟨1, prim t.l, Q3.zero, 0⟩
  else ⟨if t.a.dot t.l * byQ t = 0 then 2 else 3, prim t.a, (t.a.cross t.l).scale (byQ t), t.a.dot t.l * byQ t⟩
theorem TAxisOf {r : R24} {t : Q6} {k : Nat} {V : VH} (h : TwL V r t k) (hk : k ≤ 14) :
    CSpec Tryz.prog n_twist_AxisOf #[r.v] V fun v V' => ∃ x : R33, v = x.v ∧ AxL V' x (axis t) (k + 6) := by
  refine E_twist_AxisOf r.a.a r.a.b r.a.c r.l.a r.l.b r.l.c V _ fun _ _ => (TIsZero h (by omega)).mono ?_
  rintro _ V1 hV1 rfl
  refine ⟨_, rfl, fun e => ?_, fun e => ?_⟩
  · have e : t = Q6.zero := of_decide_eq_true e
    refine ⟨⟨0, zero12, zero12, zero4⟩, rfl, ?_⟩
    rw [axis, if_pos e]
    exact ⟨rfl, VecL.zero _ _, VecL.zero _ _, RatL.zero _ _⟩
  have e : ¬ t = Q6.zero := of_decide_eq_false e
  have h := h.mono hV1
  refine (VIsZero h.1 (by omega)).mono ?_
  rintro _ V2 hV2 rfl
  have h := h.mono hV2
  refine ⟨_, rfl, fun e2 => ?_, fun e2 => ?_⟩
  · have e2 : t.a = Q3.zero := of_decide_eq_true e2
    refine (VPrimitive h.2 (by omega)).mono ?_
    rintro _ V3 hV3 ⟨d, n, rfl, hd⟩
    refine ⟨d.a, d.b, d.c, n, rfl, fun _ => ⟨⟨1, d, zero12, zero4⟩, rfl, ?_⟩⟩
    rw [axis, if_neg e, if_pos e2]
    refine ⟨rfl, ?_, VecL.zero _ _, RatL.zero _ _⟩
    rcases hd with ⟨h1, _, _⟩ | ⟨h1, _, hd⟩
    · exact absurd (by obtain ⟨ta, tl⟩ := t; simp only at e2 h1; rw [e2, h1]; rfl) e
    · exact hd.up (by omega)
  have e2 : ¬ t.a = Q3.zero := of_decide_eq_false e2
  refine (VPrimitive h.1 (by omega)).mono ?_
  rintro _ V4 hV4 ⟨d, n, rfl, hd⟩
  have h := h.mono hV4
  have hd : VecL V4 d (prim t.a) (k + 4) := by
    rcases hd with ⟨h1, _, _⟩ | ⟨h1, _, hd⟩
    · exact absurd h1 e2
    · exact hd
  refine ⟨d.a, d.b, d.c, n, rfl, fun _ => (LFrom (by decide) (by decide)).mono ?_⟩
  rintro _ V5 hV5 ⟨o, rfl, ho⟩
  have h := h.mono hV5
  refine ⟨o, rfl, (VDot h.1 h.1 (by omega)).mono ?_⟩
  rintro _ V6 hV6 ⟨s, rfl, hs⟩
  have h := h.mono hV6
  refine ⟨s, rfl, (LDiv ((ho.mono hV6).up (show 0 ≤ k + 4 by omega)) hs (by omega)).mono ?_⟩
  rintro _ V7 hV7 ⟨b, rfl, hb⟩
  have h := h.mono hV7
  have hb : RatL V7 b (byQ t) (k + 5) := hb
  refine ⟨b, _, rfl, fun _ => (VCross h.1 h.2 (by omega)).mono ?_⟩
  rintro _ V8 hV8 ⟨c, rfl, hc⟩
  have h := h.mono hV8
  have hb := hb.mono hV8
  refine ⟨c.a, c.b, c.c, rfl, (VScale (hc.up (show k + 2 ≤ k + 5 by omega)) hb (by omega)).mono ?_⟩
  rintro _ V9 hV9 ⟨p, rfl, hp⟩
  have h := h.mono hV9
  have hb := hb.mono hV9
  refine ⟨p.a, p.b, p.c, rfl, fun _ => (VDot h.1 h.2 (by omega)).mono ?_⟩
  rintro _ V10 hV10 ⟨x, rfl, hx⟩
  refine ⟨x, rfl, (LMul (hx.up (show k + 4 ≤ k + 5 by omega)) (hb.mono hV10) (by omega)).mono ?_⟩
  rintro _ V11 hV11 ⟨y, rfl, hy⟩
  refine ⟨y, rfl, (LSign hy).mono ?_⟩
  rintro _ V12 hV12 rfl
  have fd := (((((((((hd.mono hV5).mono hV6).mono hV7).mono hV8).mono hV9).mono hV10).mono hV11).mono hV12).up (show k + 4 ≤ k + 6 by omega))
  have fp := ((hp.mono hV10).mono hV11).mono hV12
  have fy := hy.mono hV12
  refine ⟨_, rfl, fun e3 => ⟨⟨3, d, p, y⟩, rfl, ?_⟩, fun e3 => ⟨⟨2, d, p, y⟩, rfl, ?_⟩⟩
  · rw [axis, if_neg e, if_neg e2, if_neg]
    · exact ⟨rfl, fd, fp, fy⟩
    · intro hc
      rw [hc] at e3
      simp at e3
  · rw [axis, if_neg e, if_neg e2, if_pos]
    · exact ⟨rfl, fd, fp, fy⟩
    · apply Rat.num_eq_zero.1
      simpa using e3
end Go.Proofs.YtpcigcogcgpldaaGreatDoor
