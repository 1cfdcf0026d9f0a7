/- A text of this claim's own: SD.MotC, SD.PlaC. -/
import Derived.Test.YtpcigcogcgpldaaGreatDoorSDKnownM
import Derived.Test.YtpcigcogcgpldaaGreatDoorSDGMot
import Derived.Test.YtpcigcogcgpldaaGreatDoorSdG
import Derived.Test.YtpcigcogcgpldaaGreatDoorSDGPla
set_option linter.unusedVariables false
set_option linter.unusedSimpArgs false
set_option linter.unusedVariables false
set_option linter.unusedSimpArgs false
set_option maxRecDepth 100000
namespace Go.Proofs.YtpcigcogcgpldaaGreatDoor
open Go Go.Dx Dw
/-- a motion: three rows and a shift -/
structure QM where
  a : Q3
  b : Q3
  c : Q3
  s : Q3
structure R48 where
  a : R12
  b : R12
  c : R12
  s : R12
def R48.v (r : R48) : Value := w12 r.a.a r.a.b r.a.c r.b.a r.b.b r.b.c r.c.a r.c.b r.c.c r.s.a r.s.b r.s.c
def MoL (V : VH) (r : R48) (m : QM) (k : Nat) : Prop := VecL V r.a m.a k ∧ VecL V r.b m.b k ∧ VecL V r.c m.c k ∧ VecL V r.s m.s k
theorem MoL.mono {V V' : VH} {r : R48} {q : QM} {k : Nat} (h : MoL V r q k) (hl : V.le V') : MoL V' r q k := ⟨h.1.mono hl, h.2.1.mono hl, h.2.2.1.mono hl, h.2.2.2.mono hl⟩
theorem MoL.up {V : VH} {r : R48} {q : QM} {k l : Nat} (h : MoL V r q k) (hl : k ≤ l) : MoL V r q l := ⟨h.1.up hl, h.2.1.up hl, h.2.2.1.up hl, h.2.2.2.up hl⟩
def MoV (V : VH) (v : Value) (m : QM) (k : Nat) : Prop := ∃ r : R48, v = r.v ∧ MoL V r m k
def QM.turn (m : QM) (u : Q3) : Q3 := ⟨m.a.dot u, m.b.dot u, m.c.dot u⟩
def QM.apply (m : QM) (u : Q3) : Q3 := (m.turn u).add m.s
def QM.tr (m : QM) (s : Q3) : QM := ⟨⟨m.a.x, m.b.x, m.c.x⟩, ⟨m.a.y, m.b.y, m.c.y⟩, ⟨m.a.z, m.b.z, m.c.z⟩, s⟩
def QM.inv (m : QM) : QM := m.tr (Q3.zero.sub ((m.tr Q3.zero).turn m.s))
def Q6.move (t : Q6) (m : QM) : Q6 := ⟨m.turn t.a, (m.turn t.l).add (m.s.cross (m.turn t.a))⟩
def Q6.moveW (t : Q6) (m : QM) : Q6 := ⟨(m.turn t.a).add (m.s.cross (m.turn t.l)), m.turn t.l⟩
theorem MTurn {r : R48} {s : R12} {m : QM} {u : Q3} {k : Nat} {V : VH} (h : MoL V r m k) (h' : VecL V s u k) (hk : k ≤ 18) :
    CSpec Tryz.prog n_motion_Turn #[r.v, s.v] V fun v V' => VecV V' v (m.turn u) (k + 4) := by
  refine E_motion_Turn r.a.a r.a.b r.a.c r.b.a r.b.b r.b.c r.c.a r.c.b r.c.c r.s.a r.s.b r.s.c s.a s.b s.c V _ fun _ _ _ _ _ => (VDot h.1 h' hk).mono ?_
  rintro _ V1 hV1 ⟨c, rfl, hc⟩
  refine ⟨c, rfl, fun _ => (VDot (h.2.1.mono hV1) (h'.mono hV1) hk).mono ?_⟩
  rintro _ V2 hV2 ⟨d, rfl, hd⟩
  refine ⟨d, rfl, fun _ => (VDot ((h.2.2.1.mono hV1).mono hV2) ((h'.mono hV1).mono hV2) hk).mono ?_⟩
  rintro _ V3 hV3 ⟨e, rfl, he⟩
  exact ⟨e, rfl, ⟨c, d, e⟩, rfl, (hc.mono hV2).mono hV3, hd.mono hV3, he⟩
theorem MApply {r : R48} {s : R12} {m : QM} {u : Q3} {k : Nat} {V : VH} (h : MoL V r m k) (h' : VecL V s u k) (hk : k ≤ 17) :
    CSpec Tryz.prog n_motion_Apply #[r.v, s.v] V fun v V' => VecV V' v (m.apply u) (k + 5) := by
  refine E_motion_Apply r.a.a r.a.b r.a.c r.b.a r.b.b r.b.c r.c.a r.c.b r.c.c r.s.a r.s.b r.s.c s.a s.b s.c V _ fun _ _ _ => (MTurn h h' (by omega)).mono ?_
  rintro _ V1 hV1 ⟨c, rfl, hc⟩
  refine ⟨c.a, c.b, c.c, rfl, (VAdd hc ((h.2.2.2.mono hV1).up (show k ≤ k + 4 by omega)) (by omega)).mono ?_⟩
  rintro _ V2 hV2 ⟨d, rfl, hd⟩
  exact ⟨d.a, d.b, d.c, rfl, d, rfl, hd⟩
theorem VNeg {r : R12} {u : Q3} {k : Nat} {V : VH} (h' : VecL V r u k) (hk : k ≤ 21) :
    CSpec Tryz.prog n_vector_Neg #[r.v] V fun v V' => VecV V' v (Q3.zero.sub u) (k + 1) := by
  have h := VecL.zero V k
  refine E_vector_Neg r.a r.b r.c V _ fun _ _ => (E_vector_each2funcrational_Sub zero4 zero4 zero4 r.a r.b r.c V (fun v V' => VecV V' v (Q3.zero.sub u) (k + 1)) fun _ _ _ _ => ?_).mono ?_
  · constructor
    all_goals
      refine (LSub h.1 h'.1 hk).mono ?_
      rintro _ V1 hV1 ⟨t1, rfl, h1⟩
      refine ⟨t1, rfl, ?_⟩
      constructor
      all_goals
        refine (LSub (h.2.1.mono hV1) (h'.2.1.mono hV1) hk).mono ?_
        rintro _ V2 hV2 ⟨t2, rfl, h2⟩
        refine ⟨t2, rfl, ?_⟩
        constructor
        all_goals
          refine (LSub ((h.2.2.mono hV1).mono hV2) ((h'.2.2.mono hV1).mono hV2) hk).mono ?_
          rintro _ V3 hV3 ⟨t3, rfl, h3⟩
          exact ⟨t3, rfl, ⟨t1, t2, t3⟩, rfl, (h1.mono hV2).mono hV3, h2.mono hV3, h3⟩
  · rintro _ V1 _ ⟨t, rfl, ht⟩
    exact ⟨t.a, t.b, t.c, rfl, t, rfl, ht⟩
def v9 (a b c : R12) : Value := .agg #[.bool a.a.x.n, .slice a.a.x.A a.a.x.l.length a.a.x.c, .bool a.a.y.n, .slice a.a.y.A a.a.y.l.length a.a.y.c,
  .bool a.b.x.n, .slice a.b.x.A a.b.x.l.length a.b.x.c, .bool a.b.y.n, .slice a.b.y.A a.b.y.l.length a.b.y.c, .bool a.c.x.n, .slice a.c.x.A a.c.x.l.length a.c.x.c, .bool a.c.y.n, .slice a.c.y.A a.c.y.l.length a.c.y.c,
  .bool b.a.x.n, .slice b.a.x.A b.a.x.l.length b.a.x.c, .bool b.a.y.n, .slice b.a.y.A b.a.y.l.length b.a.y.c,
  .bool b.b.x.n, .slice b.b.x.A b.b.x.l.length b.b.x.c, .bool b.b.y.n, .slice b.b.y.A b.b.y.l.length b.b.y.c, .bool b.c.x.n, .slice b.c.x.A b.c.x.l.length b.c.x.c, .bool b.c.y.n, .slice b.c.y.A b.c.y.l.length b.c.y.c,
  .bool c.a.x.n, .slice c.a.x.A c.a.x.l.length c.a.x.c, .bool c.a.y.n, .slice c.a.y.A c.a.y.l.length c.a.y.c,
  .bool c.b.x.n, .slice c.b.x.A c.b.x.l.length c.b.x.c, .bool c.b.y.n, .slice c.b.y.A c.b.y.l.length c.b.y.c, .bool c.c.x.n, .slice c.c.x.A c.c.x.l.length c.c.x.c, .bool c.c.y.n, .slice c.c.y.A c.c.y.l.length c.c.y.c]
theorem Mtransposed {r : R48} {V : VH} :
    CSpec Tryz.prog n_motion_transposed #[r.v] V fun v V' => v = v9 ⟨r.a.a, r.b.a, r.c.a⟩ ⟨r.a.b, r.b.b, r.c.b⟩ ⟨r.a.c, r.b.c, r.c.c⟩ :=
  E_motion_transposed r.a.a r.a.b r.a.c r.b.a r.b.b r.b.c r.c.a r.c.b r.c.c r.s.a r.s.b r.s.c V _ fun _ _ _ _ _ _ _ _ _ _ _ _ _ _ _ => rfl
theorem MInvert {r : R48} {m : QM} {k : Nat} {V : VH} (h : MoL V r m k) (hk : k ≤ 17) :
    CSpec Tryz.prog n_motion_Invert #[r.v] V fun v V' => MoV V' v m.inv (k + 5) := by
  refine E_motion_Invert r.a.a r.a.b r.a.c r.b.a r.b.b r.b.c r.c.a r.c.b r.c.c r.s.a r.s.b r.s.c V _ fun _ _ => Mtransposed.mono ?_
  rintro _ V1 hV1 rfl
  have h := h.mono hV1
  have ht : ∀ {V' : VH}, MoL V' r m k → ∀ s q, VecL V' s q k → MoL V' ⟨⟨r.a.a, r.b.a, r.c.a⟩, ⟨r.a.b, r.b.b, r.c.b⟩, ⟨r.a.c, r.b.c, r.c.c⟩, s⟩ (m.tr q) k :=
    fun h s q hs => ⟨⟨h.1.1, h.2.1.1, h.2.2.1.1⟩, ⟨h.1.2.1, h.2.1.2.1, h.2.2.1.2.1⟩, ⟨h.1.2.2, h.2.1.2.2, h.2.2.1.2.2⟩, hs⟩
  refine ⟨r.a.a, r.b.a, r.c.a, r.a.b, r.b.b, r.c.b, r.a.c, r.b.c, r.c.c, rfl, fun _ => (MTurn (ht h zero12 Q3.zero (VecL.zero _ _)) h.2.2.2 (by omega)).mono ?_⟩
  rintro _ V2 hV2 ⟨c, rfl, hc⟩
  refine ⟨c.a, c.b, c.c, rfl, (VNeg hc (by omega)).mono ?_⟩
  rintro _ V3 hV3 ⟨d, rfl, hd⟩
  have h := (h.mono hV2).mono hV3
  refine ⟨d.a, d.b, d.c, rfl, ⟨⟨r.a.a, r.b.a, r.c.a⟩, ⟨r.a.b, r.b.b, r.c.b⟩, ⟨r.a.c, r.b.c, r.c.c⟩, d⟩, rfl, ?_⟩
  have h5 := ht h zero12 Q3.zero (VecL.zero _ _)
  exact ⟨h5.1.up (by omega), h5.2.1.up (by omega), h5.2.2.1.up (by omega), hd⟩
theorem TMove {r : R24} {g : R48} {t : Q6} {m : QM} {k : Nat} {V : VH} (h : TwL V r t k) (hm : MoL V g m k) (hk : k ≤ 14) :
    CSpec Tryz.prog n_twist_Move #[r.v, g.v] V fun v V' => TwV V' v (t.move m) (k + 7) := by
  refine E_twist_Move r.a.a r.a.b r.a.c r.l.a r.l.b r.l.c g.a.a g.a.b g.a.c g.b.a g.b.b g.b.c g.c.a g.c.b g.c.c g.s.a g.s.b g.s.c V _ fun _ _ _ => (MTurn hm h.1 (by omega)).mono ?_
  rintro _ V1 hV1 ⟨c, rfl, hc⟩
  refine ⟨c.a, c.b, c.c, rfl, fun _ => (MTurn (hm.mono hV1) (h.2.mono hV1) (by omega)).mono ?_⟩
  rintro _ V2 hV2 ⟨d, rfl, hd⟩
  refine ⟨d.a, d.b, d.c, rfl, (VCross (((hm.2.2.2.mono hV1).mono hV2).up (show k ≤ k + 4 by omega)) (hc.mono hV2) (by omega)).mono ?_⟩
  rintro _ V3 hV3 ⟨e, rfl, he⟩
  refine ⟨e.a, e.b, e.c, rfl, (VAdd ((hd.mono hV3).up (show k + 4 ≤ k + 4 + 2 by omega)) he (by omega)).mono ?_⟩
  rintro _ V4 hV4 ⟨f, rfl, hf⟩
  exact ⟨f.a, f.b, f.c, rfl, ⟨c, f⟩, rfl, (((hc.mono hV2).mono hV3).mono hV4).up (by omega), hf⟩
theorem TMoveWrench {r : R24} {g : R48} {t : Q6} {m : QM} {k : Nat} {V : VH} (h : TwL V r t k) (hm : MoL V g m k) (hk : k ≤ 14) :
    CSpec Tryz.prog n_twist_MoveWrench #[r.v, g.v] V fun v V' => TwV V' v (t.moveW m) (k + 7) := by
  refine E_twist_MoveWrench r.a.a r.a.b r.a.c r.l.a r.l.b r.l.c g.a.a g.a.b g.a.c g.b.a g.b.b g.b.c g.c.a g.c.b g.c.c g.s.a g.s.b g.s.c V _ fun _ _ _ => (MTurn hm h.2 (by omega)).mono ?_
  rintro _ V1 hV1 ⟨c, rfl, hc⟩
  refine ⟨c.a, c.b, c.c, rfl, fun _ => (MTurn (hm.mono hV1) (h.1.mono hV1) (by omega)).mono ?_⟩
  rintro _ V2 hV2 ⟨d, rfl, hd⟩
  refine ⟨d.a, d.b, d.c, rfl, (VCross (((hm.2.2.2.mono hV1).mono hV2).up (show k ≤ k + 4 by omega)) (hc.mono hV2) (by omega)).mono ?_⟩
  rintro _ V3 hV3 ⟨e, rfl, he⟩
  refine ⟨e.a, e.b, e.c, rfl, (VAdd ((hd.mono hV3).up (show k + 4 ≤ k + 4 + 2 by omega)) he (by omega)).mono ?_⟩
  rintro _ V4 hV4 ⟨f, rfl, hf⟩
  exact ⟨f.a, f.b, f.c, rfl, ⟨f, c⟩, rfl, hf, (((hc.mono hV2).mono hV3).mono hV4).up (by omega)⟩
theorem TForce {r s : R12} {u w : Q3} {k : Nat} {V : VH} (h : VecL V r u k) (h' : VecL V s w k) (hk : k ≤ 20) :
    CSpec Tryz.prog n_twist_Force #[r.v, s.v] V fun v V' => TwV V' v ⟨u.cross w, w⟩ (k + 2) := by
  refine E_twist_Force r.a r.b r.c s.a s.b s.c V _ fun _ _ _ => (VCross h h' hk).mono ?_
  rintro _ V1 hV1 ⟨c, rfl, hc⟩
  exact ⟨c.a, c.b, c.c, rfl, ⟨c, s⟩, rfl, hc, (h'.mono hV1).up (by omega)⟩
theorem TPower {r s : R24} {t w : Q6} {k : Nat} {V : VH} (h : TwL V r t k) (h' : TwL V s w k) (hk : k ≤ 16) :
    CSpec Tryz.prog n_twist_Power #[r.v, s.v] V fun v V' => ∃ g : R4, v = g.v ∧ RatL V' g (w.a.dot t.a + w.l.dot t.l) (k + 5) := by
  refine E_twist_Power r.a.a r.a.b r.a.c r.l.a r.l.b r.l.c s.a.a s.a.b s.a.c s.l.a s.l.b s.l.c V _ fun _ _ _ => (VDot h'.1 h.1 (by omega)).mono ?_
  rintro _ V1 hV1 ⟨c, rfl, hc⟩
  refine ⟨c, rfl, (VDot (h'.2.mono hV1) (h.2.mono hV1) (by omega)).mono ?_⟩
  rintro _ V2 hV2 ⟨d, rfl, hd⟩
  refine ⟨d, rfl, (LAdd (hc.mono hV2) hd (by omega)).mono ?_⟩
  rintro _ V3 hV3 ⟨e, rfl, he⟩
  exact ⟨e, rfl, e, rfl, he⟩
theorem Twrench {m : Sm} {V : VH} (h : m.ok) : CSpec Tryz.prog n_dowellaw17_wrench #[m.v] V fun v V' => TwV V' v m.q 1 := by
  obtain ⟨⟨h1, h2, h3, h4, h5, h6⟩, h7, h8⟩ := h
  refine E_dowellaw17_wrench m.a m.b m.c m.d m.e m.f m.s V _ fun _ _ => (Tvec0 h1 h2 h3 h7 h8).mono ?_
  rintro _ V1 hV1 ⟨x, rfl, hx⟩
  refine ⟨x.a, x.b, x.c, rfl, (Tvec3 h4 h5 h6 h7 h8).mono ?_⟩
  rintro _ V2 hV2 ⟨y, rfl, hy⟩
  exact ⟨y.a, y.b, y.c, rfl, ⟨x, y⟩, rfl, hx.mono hV2, hy⟩
theorem Lquotient {a b : Int} {V : VH} (ha : I64 a) (hb : I64 b) (h0 : b ≠ 0) : CSpec Tryz.prog n_dowellaw09_quotient #[.int .i64 a, .int .i64 b] V fun v V' => ∃ r : R4, v = r.v ∧ RatL V' r ((a : Rat) / (b : Rat)) 1 := by
  refine E_dowellaw09_quotient a b V _ fun _ => (LFrom ha.1 ha.2).mono ?_
  rintro _ V1 hV1 ⟨x, rfl, hx⟩
  refine ⟨x, rfl, (LFrom hb.1 hb.2).mono ?_⟩
  rintro _ V2 hV2 ⟨y, rfl, hy⟩
  refine ⟨y, rfl, (LDiv (hx.mono hV2) hy (by omega)).mono ?_⟩
  rintro _ V3 hV3 ⟨z, rfl, hz⟩
  exact ⟨z, _, rfl, fun _ => ⟨z, rfl, hz⟩⟩
end Go.Proofs.YtpcigcogcgpldaaGreatDoor

set_option linter.unusedVariables false
set_option linter.unusedSimpArgs false
set_option maxRecDepth 100000
namespace Go.Proofs.YtpcigcogcgpldaaGreatDoor
open Go Go.Dx Dw
theorem Parse400 {s : ByteArray} {V : VH} (hs : s.size ≤ 9223372036854775806) : CSpec Tryz.prog n_rational_Parse #[.string s] V fun v V' => ∃ (r : R4) (n : Int), v = .tuple #[r.v, .int .i64 n] ∧ n = errQ s 400 ∧ (n = 0 → RatL V' r (numQ s) 5) := by
  refine E_rational_Parse s V _ fun _ => (read_spec hs (by omega)).mono ?_
  rintro _ V1 hV1 (⟨h, rfl⟩ | ⟨h, r, rfl, hr⟩)
  · exact ⟨zero4, _, rfl, zero4, _, rfl, rfl, fun e => absurd e h⟩
  · refine ⟨r, 0, rfl, r, 0, rfl, h.symm, fun _ => RatR.up hr ?_⟩
    have := (errQ_out h).1
    have e : L 5 = 729 := by decide
    omega
/-- the first error of three texts -/
def errV (a b c : ByteArray) : Int := if errQ a 400 = 0 then if errQ b 400 = 0 then errQ c 400 else errQ b 400 else errQ a 400
def numV (a b c : ByteArray) : Q3 := ⟨numQ a, numQ b, numQ c⟩
theorem VParse {a b c : ByteArray} {V : VH} (ha : a.size ≤ 9223372036854775806) (hb : b.size ≤ 9223372036854775806) (hc : c.size ≤ 9223372036854775806) : CSpec Tryz.prog n_vector_Parse #[.agg #[.string a, .string b, .string c]] V fun v V' => ∃ (r : R12) (n : Int), v = .tuple #[r.v, .int .i64 n] ∧ n = errV a b c ∧ (n = 0 → VecL V' r (numV a b c) 5) := by
  refine E_vector_Parse a b c V _ fun _ _ => (E_vector_read1funcrational_Parse a b c V (fun v V' => ∃ (r : R12) (n : Int), v = .tuple #[r.v, .int .i64 n] ∧ n = errV a b c ∧ (n = 0 → VecL V' r (numV a b c) 5)) fun _ _ _ => ?_).mono ?_
  · refine (Parse400 ha).mono ?_
    rintro _ V1 hV1 ⟨r1, n1, rfl, e1, q1⟩
    refine ⟨r1, n1, rfl, fun _ => ⟨fun h => ?_, fun h => ?_⟩⟩
    · have h : n1 ≠ 0 := by simpa using h
      exact ⟨zero12, n1, rfl, by unfold errV; rw [← e1, if_neg h], fun e => absurd e h⟩
    have h : n1 = 0 := by simpa using h
    subst h
    have q1 := q1 rfl
    refine (Parse400 hb).mono ?_
    rintro _ V2 hV2 ⟨r2, n2, rfl, e2, q2⟩
    refine ⟨r2, n2, rfl, fun _ => ⟨fun h => ?_, fun h => ?_⟩⟩
    · have h : n2 ≠ 0 := by simpa using h
      exact ⟨zero12, n2, rfl, by unfold errV; rw [← e1, ← e2, if_pos rfl, if_neg h], fun e => absurd e h⟩
    have h : n2 = 0 := by simpa using h
    subst h
    have q2 := q2 rfl
    refine (Parse400 hc).mono ?_
    rintro _ V3 hV3 ⟨r3, n3, rfl, e3, q3⟩
    have e : errV a b c = n3 := by unfold errV; rw [← e1, ← e2, ← e3]; rfl
    refine ⟨r3, n3, rfl, fun _ => ⟨fun h => ?_, fun h => ?_⟩⟩
    · have h : n3 ≠ 0 := by simpa using h
      exact ⟨zero12, n3, rfl, e.symm, fun e => absurd e h⟩
    have h : n3 = 0 := by simpa using h
    subst h
    exact ⟨⟨r1, r2, r3⟩, 0, rfl, e.symm, fun _ => ⟨(q1.mono hV2).mono hV3, q2.mono hV3, q3 rfl⟩⟩
  · rintro _ V1 hV1 ⟨r, n, rfl, h⟩
    exact ⟨r.a, r.b, r.c, n, rfl, r, n, rfl, h⟩
def sgn4 (w x y z : Int) : Int := if (if (if w = 0 then x else w) = 0 then y else (if w = 0 then x else w)) = 0 then z else (if (if w = 0 then x else w) = 0 then y else (if w = 0 then x else w))
def gcd4 (w x y z : Int) : Nat := Nat.gcd (Nat.gcd (Nat.gcd (Nat.gcd 0 w.natAbs) x.natAbs) y.natAbs) z.natAbs
def inT (n : Int) : Prop := ¬ n < -12 ∧ ¬ 12 < n
instance (n : Int) : Decidable (inT n) := inferInstanceAs (Decidable (_ ∧ _))
/-- the error of a placement's turn -/
def chkT (w x y z : Int) : Int := if w = 0 ∧ x = 0 ∧ y = 0 ∧ z = 0 then 19 else if ¬ (inT w ∧ inT x ∧ inT y ∧ inT z) then 2 else if gcd4 w x y z ≠ 1 ∨ sgn4 w x y z < 0 then 3 else 0
theorem abs12 {n : Int} (h : inT n) : (if n < IntKind.wrap .i64 (0 - n) then IntKind.wrap .i64 (0 - n) else n) = (n.natAbs : Int) := by
  obtain ⟨h1, h2⟩ := h
  rw [w64 (by omega) (by omega)]
  split <;> omega
theorem gcd_stepN {g a : Nat} : Nat.gcd a (g % a) = Nat.gcd g a := by
  rw [Nat.gcd_comm a (g % a), ← Nat.gcd_rec, Nat.gcd_comm]
theorem tmodN (g a : Nat) : Int.tmod (g : Int) (a : Int) = ((g % a : Nat) : Int) := by
  rw [Int.tmod_eq_emod_of_nonneg (by omega)]; omega
theorem Check_spec {w x y z : Int} {a b c : ByteArray} {V : VH} (ha : a.size ≤ 9223372036854775806) (hb : b.size ≤ 9223372036854775806) (hc : c.size ≤ 9223372036854775806) :
    CSpec Tryz.prog n_motion_Check #[.agg #[.int .i64 w, .int .i64 x, .int .i64 y, .int .i64 z, .string a, .string b, .string c]] V fun v V' => v = .int .i64 (if chkT w x y z = 0 then errV a b c else chkT w x y z) := by
  have no : ∀ n : Int, n ≠ 0 → chkT w x y z = n → ∀ m : Int, m = n → Value.int .i64 m = .int .i64 (if chkT w x y z = 0 then errV a b c else chkT w x y z) := fun n h0 h1 m e => by
    rw [h1, if_neg h0, e]
  refine E_motion_Check w x y z a b c V _ fun _ => ⟨fun h => ?_, fun h => ?_⟩
  · simp only [Bool.and_eq_true, beq_iff_eq] at h
    exact no 19 (by decide) (by unfold chkT; rw [if_pos h]) _ rfl
  have hz : ¬ (w = 0 ∧ x = 0 ∧ y = 0 ∧ z = 0) := fun e => by
    obtain ⟨rfl, rfl, rfl, rfl⟩ := e; cases h
  have out : ¬ (inT w ∧ inT x ∧ inT y ∧ inT z) → chkT w x y z = 2 := fun e => by unfold chkT; rw [if_neg hz, if_pos e]
  refine ⟨fun e => no 2 (by decide) (out fun h => h.1.1 (of_decide_eq_true e)) _ rfl, fun e1 => ⟨fun e => no 2 (by decide) (out fun h => h.1.2 (of_decide_eq_true e)) _ rfl, fun e2 => ?_⟩⟩
  have hw : inT w := ⟨of_decide_eq_false e1, of_decide_eq_false e2⟩
  refine ⟨fun e => no 2 (by decide) (out fun h => h.2.1.1 (of_decide_eq_true e)) _ rfl, fun e1 => ⟨fun e => no 2 (by decide) (out fun h => h.2.1.2 (of_decide_eq_true e)) _ rfl, fun e2 => ?_⟩⟩
  have hx : inT x := ⟨of_decide_eq_false e1, of_decide_eq_false e2⟩
  refine ⟨fun e => no 2 (by decide) (out fun h => h.2.2.1.1 (of_decide_eq_true e)) _ rfl, fun e1 => ⟨fun e => no 2 (by decide) (out fun h => h.2.2.1.2 (of_decide_eq_true e)) _ rfl, fun e2 => ?_⟩⟩
  have hy : inT y := ⟨of_decide_eq_false e1, of_decide_eq_false e2⟩
  refine ⟨fun e => no 2 (by decide) (out fun h => h.2.2.2.1 (of_decide_eq_true e)) _ rfl, fun e1 => ⟨fun e => no 2 (by decide) (out fun h => h.2.2.2.2 (of_decide_eq_true e)) _ rfl, fun e2 => ?_⟩⟩
  have hz' : inT z := ⟨of_decide_eq_false e1, of_decide_eq_false e2⟩
  have hin : inT w ∧ inT x ∧ inT y ∧ inT z := ⟨hw, hx, hy, hz'⟩
  rw [abs12 hw, abs12 hx, abs12 hy, abs12 hz']
  refine ⟨fun xs V' => ∃ g k : Nat, xs = [OV.int .i64 g, OV.int .i64 k] ∧ Nat.gcd g k = Nat.gcd 0 w.natAbs, fun xs => match xs with | [_, k] => (intV k.v).toNat | _ => 0, ⟨0, w.natAbs, rfl, rfl⟩, ?_⟩
  rintro V1 hV1 n2 n3 ⟨g1, k1, e, hg1⟩
  simp only [List.cons.injEq, OV.int_inj, and_true] at e
  obtain ⟨rfl, rfl⟩ := e
  refine ⟨fun h => ?_, fun h => ?_⟩
  · have h0 : (k1 : Int) ≠ 0 := by simpa using h
    rw [tmodN]
    refine ⟨h, ⟨k1, g1 % k1, rfl, by rw [gcd_stepN]; exact hg1⟩, ?_⟩
    have := Nat.mod_lt g1 (show 0 < k1 by omega)
    simp only [OV.int, intV]; omega
  have h0 : k1 = 0 := by simpa using h
  subst h0
  rw [Nat.gcd_zero_right] at hg1
  refine ⟨fun xs V' => ∃ (c : Int) (b : Bool) (g k : Nat), xs = [OV.int .i64 c, OV.bool b, OV.int .i64 g, OV.int .i64 k] ∧ Nat.gcd g k = Nat.gcd (Nat.gcd 0 w.natAbs) x.natAbs, fun xs => match xs with | [_, _, _, k] => (intV k.v).toNat | _ => 0, ⟨_, _, g1, x.natAbs, rfl, by rw [hg1]⟩, ?_⟩
  rintro V2 hV2 c2 b2 m2 l2 ⟨_, _, g2, k2, e, hg2⟩
  simp only [List.cons.injEq, OV.int_inj, and_true] at e
  obtain ⟨_, _, rfl, rfl⟩ := e
  refine ⟨fun h => ?_, fun h => ?_⟩
  · have h0 : (k2 : Int) ≠ 0 := by simpa using h
    rw [tmodN]
    refine ⟨h, ⟨_, _, k2, g2 % k2, rfl, by rw [gcd_stepN]; exact hg2⟩, ?_⟩
    have := Nat.mod_lt g2 (show 0 < k2 by omega)
    simp only [OV.int, intV]; omega
  have h0 : k2 = 0 := by simpa using h
  subst h0
  rw [Nat.gcd_zero_right] at hg2
  refine ⟨fun xs V' => ∃ (c : Int) (b : Bool) (g k : Nat), xs = [OV.int .i64 c, OV.bool b, OV.int .i64 g, OV.int .i64 k] ∧ Nat.gcd g k = Nat.gcd (Nat.gcd (Nat.gcd 0 w.natAbs) x.natAbs) y.natAbs, fun xs => match xs with | [_, _, _, k] => (intV k.v).toNat | _ => 0, ⟨_, _, g2, y.natAbs, rfl, by rw [hg2]⟩, ?_⟩
  rintro V3 hV3 c3 b3 m3 l3 ⟨_, _, g3, k3, e, hg3⟩
  simp only [List.cons.injEq, OV.int_inj, and_true] at e
  obtain ⟨_, _, rfl, rfl⟩ := e
  refine ⟨fun h => ?_, fun h => ?_⟩
  · have h0 : (k3 : Int) ≠ 0 := by simpa using h
    rw [tmodN]
    refine ⟨h, ⟨_, _, k3, g3 % k3, rfl, by rw [gcd_stepN]; exact hg3⟩, ?_⟩
    have := Nat.mod_lt g3 (show 0 < k3 by omega)
    simp only [OV.int, intV]; omega
  have h0 : k3 = 0 := by simpa using h
  subst h0
  rw [Nat.gcd_zero_right] at hg3
  refine ⟨fun xs V' => ∃ (c : Int) (b : Bool) (g k : Nat), xs = [OV.int .i64 c, OV.bool b, OV.int .i64 g, OV.int .i64 k] ∧ Nat.gcd g k = Nat.gcd (Nat.gcd (Nat.gcd (Nat.gcd 0 w.natAbs) x.natAbs) y.natAbs) z.natAbs, fun xs => match xs with | [_, _, _, k] => (intV k.v).toNat | _ => 0, ⟨_, _, g3, z.natAbs, rfl, by rw [hg3]⟩, ?_⟩
  rintro V4 hV4 c4 b4 m4 l4 ⟨_, _, g4, k4, e, hg4⟩
  simp only [List.cons.injEq, OV.int_inj, and_true] at e
  obtain ⟨_, _, rfl, rfl⟩ := e
  refine ⟨fun h => ?_, fun h => ?_⟩
  · have h0 : (k4 : Int) ≠ 0 := by simpa using h
    rw [tmodN]
    refine ⟨h, ⟨_, _, k4, g4 % k4, rfl, by rw [gcd_stepN]; exact hg4⟩, ?_⟩
    have := Nat.mod_lt g4 (show 0 < k4 by omega)
    simp only [OV.int, intV]; omega
  have h0 : k4 = 0 := by simpa using h
  subst h0
  rw [Nat.gcd_zero_right] at hg4
  have hG : g4 = gcd4 w x y z := hg4
  have c3 : (gcd4 w x y z ≠ 1 ∨ sgn4 w x y z < 0) → chkT w x y z = 3 := fun e => by
    unfold chkT; rw [if_neg hz, if_neg (by simpa using hin), if_pos e]
  refine ⟨fun h => no 3 (by decide) (c3 (.inl fun e => ?_)) _ rfl, fun h1 => ⟨fun h => no 3 (by decide) (c3 (.inr (of_decide_eq_true h))) _ rfl, fun h2 => (VParse ha hb hc).mono ?_⟩⟩
  · rw [← hG] at e; subst e; cases h
  rintro _ V5 hV5 ⟨r, n, rfl, e, _⟩
  refine ⟨r.a, r.b, r.c, n, rfl, fun _ => ?_⟩
  have h1 : (g4 : Int) = 1 := by simpa using h1
  have h2 : ¬ sgn4 w x y z < 0 := of_decide_eq_false h2
  have e0 : chkT w x y z = 0 := by
    unfold chkT; rw [if_neg hz, if_neg (by simpa using hin), if_neg]
    rintro (h | h)
    · exact h (by rw [← hG]; omega)
    · exact h2 h
  show Value.int .i64 n = _
  rw [if_pos e0, e]
end Go.Proofs.YtpcigcogcgpldaaGreatDoor
