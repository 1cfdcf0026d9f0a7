/- A text of this claim's own: SD.LawS. -/
import Derived.Test.YteimfmjojadkfaaDoorSDScaleM
import Derived.Test.YteimfmjojadkfaaDoorSDItoaC
import Derived.Test.YteimfmjojadkfaaDoorSDELawS
set_option linter.unusedVariables false
set_option linter.unusedSimpArgs false
set_option linter.unusedVariables false
set_option linter.unusedSimpArgs false
set_option maxRecDepth 100000
namespace Go.Proofs.YteimfmjojadkfaaDoor
open Go Go.Dx Dw
/-- an integer of nine digits at most -/
def Big (q : Rat) : Prop := q.den = 1 ∧ q.num.natAbs < 1000000000
theorem Big.int {c : Int} (h : c.natAbs < 1000000000) : Big (c : Rat) := ⟨rfl, h⟩
theorem LNumberN {r : R4} {q : Rat} {k : Nat} {V : VH} (hT : TabV V) (h : RatL V r q k) (hk : k ≤ 21) (ho : Big q) : CSpec Tryd.prog n_rational_Rat_Number #[r.v] V fun v V' => v = .string (txtN q.num) :=
  NumberN_spec hT h (by have := L_lt hk; omega) ho.1 ho.2
theorem TNumbersN {r : R24} {t : Q6} {k : Nat} {V : VH} (hT : TabV V) (h : TwL V r t k) (hk : k ≤ 21) (h1 : Big t.a.x) (h2 : Big t.a.y) (h3 : Big t.a.z) (h4 : Big t.l.x) (h5 : Big t.l.y) (h6 : Big t.l.z) :
    CSpec Tryd.prog n_twist_Twist_Numbers #[r.v] V fun v V' => v = .agg #[.string (txtN t.a.x.num), .string (txtN t.a.y.num), .string (txtN t.a.z.num), .string (txtN t.l.x.num), .string (txtN t.l.y.num), .string (txtN t.l.z.num)] := by
  refine E_twist_Twist_Numbers r.a.a r.a.b r.a.c r.l.a r.l.b r.l.c V _ fun _ _ => (Tjoined (r := r.a) (s := r.l)).mono ?_
  rintro _ V1 hV1 ⟨m, rfl, hm⟩
  have h := h.mono hV1; have hT := hT.mono hV1
  refine ⟨m, r.a.a, r.a.b, r.a.c, r.l.a, r.l.b, r.l.c, 6, rfl, hm, ?_⟩
  refine (E_rational_Numbers0giv6 m 31 r.a.a r.a.b r.a.c r.l.a r.l.b r.l.c 6 V1 hm (fun v V' => ∃ m, v = .slice (some ⟨m, 0, none⟩) 6 6 ∧ V'.f m = some (.cells #[.string (txtN t.a.x.num), .string (txtN t.a.y.num), .string (txtN t.a.z.num), .string (txtN t.l.x.num), .string (txtN t.l.y.num), .string (txtN t.l.z.num)] 75)) fun m0 _ => (LNumberN hT h.1.1 hk h1).mono ?_).mono ?_
  · rintro _ V2 hV2 rfl
    have h := h.mono hV2; have hT := hT.mono hV2
    refine ⟨_, rfl, fun _ => (LNumberN hT h.1.2.1 hk h2).mono ?_⟩
    rintro _ V3 hV3 rfl
    have h := h.mono hV3; have hT := hT.mono hV3
    refine ⟨_, rfl, fun _ => (LNumberN hT h.1.2.2 hk h3).mono ?_⟩
    rintro _ V4 hV4 rfl
    have h := h.mono hV4; have hT := hT.mono hV4
    refine ⟨_, rfl, fun _ => (LNumberN hT h.2.1 hk h4).mono ?_⟩
    rintro _ V5 hV5 rfl
    have h := h.mono hV5; have hT := hT.mono hV5
    refine ⟨_, rfl, fun _ => (LNumberN hT h.2.2.1 hk h5).mono ?_⟩
    rintro _ V6 hV6 rfl
    have h := h.mono hV6; have hT := hT.mono hV6
    refine ⟨_, rfl, fun _ => (LNumberN hT h.2.2.2 hk h6).mono ?_⟩
    rintro _ V7 hV7 rfl
    exact ⟨_, rfl, fun hm0 => ⟨m0, rfl, VH.put_at _ _ _⟩⟩
  · rintro _ V2 hV2 ⟨m2, rfl, hm2⟩
    exact ⟨m2, _, _, _, _, _, _, 6, rfl, hm2, rfl⟩
def inv2 (G : Int) (xs : List OV) : Prop := match xs with
  | [g, n] => 0 ≤ intV g.v ∧ 0 ≤ intV n.v ∧ ((Int.gcd (intV g.v) (intV n.v) : Nat) : Int) = G
  | _ => False
def mu2 (xs : List OV) : Nat := match xs with
  | [_, n] => (intV n.v).natAbs
  | _ => 0
def inv4 (G : Int) (xs : List OV) : Prop := match xs with
  | [_, _, g, n] => 0 ≤ intV g.v ∧ 0 ≤ intV n.v ∧ ((Int.gcd (intV g.v) (intV n.v) : Nat) : Int) = G
  | _ => False
def mu4 (xs : List OV) : Nat := match xs with
  | [_, _, _, n] => (intV n.v).natAbs
  | _ => 0
theorem absW {a : Int} (ha : I8 a) : (if IntKind.wrap .i64 a < 0 then IntKind.wrap .i64 (0 - IntKind.wrap .i64 a) else IntKind.wrap .i64 a) = if a < 0 then 0 - a else a := by
  obtain ⟨h1, h2⟩ := ha
  rw [w64 (show -9223372036854775808 ≤ a by omega) (by omega), w64 (show -9223372036854775808 ≤ 0 - a by omega) (by omega)]
theorem init_ok {g a : Int} (hg : 0 ≤ g) (ha : I8 a) : 0 ≤ g ∧ 0 ≤ (if IntKind.wrap .i64 a < 0 then IntKind.wrap .i64 (0 - IntKind.wrap .i64 a) else IntKind.wrap .i64 a) ∧
    ((Int.gcd g (if IntKind.wrap .i64 a < 0 then IntKind.wrap .i64 (0 - IntKind.wrap .i64 a) else IntKind.wrap .i64 a) : Nat) : Int) = ((Int.gcd g a : Nat) : Int) := by
  rw [absW ha, gcd_abs]
  refine ⟨hg, ?_, rfl⟩
  split <;> omega
theorem round_ok {g n G : Int} (h1 : 0 ≤ g) (h2 : 0 ≤ n) (h3 : ((Int.gcd g n : Nat) : Int) = G) (h0 : (!(n == (0 : Int))) = true) :
    (0 ≤ n ∧ 0 ≤ Int.tmod g n ∧ ((Int.gcd n (Int.tmod g n) : Nat) : Int) = G) ∧ (Int.tmod g n).natAbs < n.natAbs := by
  have hn : n ≠ 0 := by simpa using h0
  have := tmod_lt h1 h2 hn
  exact ⟨⟨h2, this.1, by rw [gcdS_step h1 h2 hn]; exact h3⟩, this.2⟩
theorem exit_ok {g n G : Int} (h1 : 0 ≤ g) (h3 : ((Int.gcd g n : Nat) : Int) = G) (h0 : (!(n == (0 : Int))) = false) : g = G := by
  have hn : n = 0 := by simpa using h0
  rw [hn, Int.gcd_zero_right] at h3
  omega
theorem quotW {a g : Int} (ha : I8 a) (hg : g ∣ a) (h0 : 0 < g) : IntKind.wrap .i64 (Int.tdiv (IntKind.wrap .i64 a) g) = a / g ∧ I64 (a / g) ∧ (a / g).natAbs < 1000000000 := by
  have h1 := quot_small ha hg h0
  rw [w64 ha.i64.1 ha.i64.2, h1.2, w64 (by omega) (by omega)]
  exact ⟨rfl, ⟨by omega, by omega⟩, by omega⟩
theorem q6_eq (x y : Q6) : decide (x = y) = (decide (x.a = y.a) && decide (x.l = y.l)) := by
  obtain ⟨a, b⟩ := x
  obtain ⟨c, d⟩ := y
  rw [Bool.eq_iff_iff]
  simp
set_option maxHeartbeats 4000000 in
theorem TwistScales_spec {m n : Sm} {k : Int} {V : VH} (hT : TabV V) (hm : m.ok) (hn : n.ok) (hk : I8 k) :
    CSpec Tryd.prog n_dowellaw17_TwistScales #[m.v, n.v, .int .i8 k] V fun v V' => v = .bool true := by
  refine E_dowellaw17_TwistScales m.a m.b m.c m.d m.e m.f m.s n.a n.b n.c n.d n.e n.f n.s k V _ fun _ _ => known_spec.mono ?_
  rintro _ V1 hV1 rfl
  have hT := hT.mono hV1
  refine ⟨_, rfl, fun e => by simp at e, fun _ => (TOf hm).mono ?_⟩
  rintro _ V2 hV2 ⟨x, rfl, hx⟩
  have hT := hT.mono hV2
  refine ⟨x.a.a, x.a.b, x.a.c, x.l.a, x.l.b, x.l.c, rfl, (TOf hn).mono ?_⟩
  rintro _ V3 hV3 ⟨y, rfl, hy⟩
  have hT := hT.mono hV3
  have hx := hx.mono hV3
  refine ⟨y.a.a, y.a.b, y.a.c, y.l.a, y.l.b, y.l.c, rfl, fun _ _ => (TAdd hx hy (by omega)).mono ?_⟩
  rintro _ V4 hV4 ⟨s, rfl, hs⟩
  refine ⟨s.a.a, s.a.b, s.a.c, s.l.a, s.l.b, s.l.c, rfl, ?_⟩
  rw [w64 hk.i64.1 hk.i64.2]
  refine (LFrom hk.i64.1 hk.i64.2).mono ?_
  rintro _ V5 hV5 ⟨kk, rfl, hkk⟩
  refine ⟨kk, rfl, (TScale ((hx.mono hV4).mono hV5) (hkk.up (show 0 ≤ 1 by omega)) (by omega)).mono ?_⟩
  rintro _ V6 hV6 ⟨c, rfl, hc⟩
  have hT := ((hT.mono hV4).mono hV5).mono hV6
  have hx := ((hx.mono hV4).mono hV5).mono hV6
  have hy := ((hy.mono hV4).mono hV5).mono hV6
  have hs := (hs.mono hV5).mono hV6
  refine ⟨c.a.a, c.a.b, c.a.c, c.l.a, c.l.b, c.l.c, rfl, fun _ _ => (VAdd hx.1 hy.1 (by omega)).mono ?_⟩
  rintro _ V7 hV7 ⟨d, rfl, hd⟩
  refine ⟨d.a, d.b, d.c, rfl, (VEqual (hs.1.mono hV7) hd (by omega)).mono ?_⟩
  rintro _ V8 hV8 rfl
  have hT := (hT.mono hV7).mono hV8
  have hx := (hx.mono hV7).mono hV8
  have hy := (hy.mono hV7).mono hV8
  have hs := (hs.mono hV7).mono hV8
  have hc := (hc.mono hV7).mono hV8
  refine ⟨_, rfl, fun e => by simp at e, fun _ => (VAdd hx.2 hy.2 (by omega)).mono ?_⟩
  rintro _ V9 hV9 ⟨d, rfl, hd⟩
  refine ⟨d.a, d.b, d.c, rfl, (VEqual (hs.2.mono hV9) hd (by omega)).mono ?_⟩
  rintro _ V10 hV10 rfl
  have hT := (hT.mono hV9).mono hV10
  have hx := (hx.mono hV9).mono hV10
  have hy := (hy.mono hV9).mono hV10
  have hc := (hc.mono hV9).mono hV10
  refine ⟨_, rfl, fun e => by simp at e, fun _ => (LFrom hk.i64.1 hk.i64.2).mono ?_⟩
  rintro _ V11 hV11 ⟨kk, rfl, hkk⟩
  refine ⟨kk, rfl, (VScale (hx.1.mono hV11) (hkk.up (show 0 ≤ 1 by omega)) (by omega)).mono ?_⟩
  rintro _ V12 hV12 ⟨d, rfl, hd⟩
  refine ⟨d.a, d.b, d.c, rfl, (VEqual ((hc.1.mono hV11).mono hV12) hd (by omega)).mono ?_⟩
  rintro _ V13 hV13 rfl
  have hT := ((hT.mono hV11).mono hV12).mono hV13
  have hx := ((hx.mono hV11).mono hV12).mono hV13
  have hy := ((hy.mono hV11).mono hV12).mono hV13
  have hc := ((hc.mono hV11).mono hV12).mono hV13
  refine ⟨_, rfl, fun e => by simp at e, fun _ => (LFrom hk.i64.1 hk.i64.2).mono ?_⟩
  rintro _ V14 hV14 ⟨kk, rfl, hkk⟩
  refine ⟨kk, rfl, (VScale (hx.2.mono hV14) (hkk.up (show 0 ≤ 1 by omega)) (by omega)).mono ?_⟩
  rintro _ V15 hV15 ⟨d, rfl, hd⟩
  refine ⟨d.a, d.b, d.c, rfl, (VEqual ((hc.2.mono hV14).mono hV15) hd (by omega)).mono ?_⟩
  rintro _ V16 hV16 rfl
  have hT := ((hT.mono hV14).mono hV15).mono hV16
  have hx := ((hx.mono hV14).mono hV15).mono hV16
  have hy := ((hy.mono hV14).mono hV15).mono hV16
  clear hs hc
  refine ⟨_, rfl, fun e => by simp at e, fun _ => (VEqual hx.1 hy.1 (by omega)).mono ?_⟩
  rintro _ V17 hV17 rfl
  have hT := hT.mono hV17
  have hx := hx.mono hV17
  have hy := hy.mono hV17
  refine ⟨_, rfl, fun e50 => (VEqual hx.2 hy.2 (by omega)).mono ?_, fun e50 => (TEqual hx hy (by omega)).mono ?_⟩
  rotate_left
  · rintro _ W g rfl
    have hT := hT.mono g
    have hx := hx.mono g
    refine ⟨_, rfl, fun e => by rw [q6_eq, e50] at e; simp at e, fun _ => ?_⟩
    clear hy e50
    refine (TIsZero hx (by omega)).mono ?_
    rintro _ W1 g1 rfl
    rw [small_zeroB hm]
    refine ⟨_, rfl, fun e => by simp at e, fun _ => (TPrimitive (hx.mono g1) (by omega)).mono ?_⟩
    rintro _ W2 g2 ⟨p, e, rfl, hp⟩
    have hT := (hT.mono g1).mono g2
    refine ⟨p.a.a, p.a.b, p.a.c, p.l.a, p.l.b, p.l.c, e, rfl, fun _ => ⟨fun hz => ?_, fun hz => ?_⟩⟩
    · have hz : m.q = Q6.zero := of_decide_eq_true hz
      rcases hp with ⟨_, rfl, hp⟩ | ⟨hne, _⟩
      · refine ⟨fun _ => (TIsZero hp (by omega)).mono ?_, fun e => by simp at e⟩
        rintro _ W3 g3 rfl
        exact ⟨_, rfl, by simp⟩
      · exact absurd hz hne
    have hne : m.q ≠ Q6.zero := of_decide_eq_false hz
    rcases hp with ⟨hc, _⟩ | ⟨_, rfl, hp⟩
    · exact absurd hc hne
    rw [prim6 hm hne] at hp
    have hG := gcd6_pos hm hne
    obtain ⟨d1, d2, d3, d4, d5, d6⟩ := gcd6_dvd m.a m.b m.c m.d m.e m.f
    obtain ⟨⟨k1, k2, k3, k4, k5, k6⟩, k7, k8⟩ := hm
    refine ⟨fun xs _ => inv2 ((Int.gcd 0 m.a : Nat) : Int) xs, mu2, init_ok (g := 0) (Int.le_refl 0) k1, fun X1 j1 n1 n2 hI => ?_⟩
    obtain ⟨i1, i2, i3⟩ : 0 ≤ n1 ∧ 0 ≤ n2 ∧ ((Int.gcd n1 n2 : Nat) : Int) = _ := hI
    refine ⟨fun h0 => ⟨h0, round_ok i1 i2 i3 h0⟩, fun h0 => ?_⟩
    have e1 := exit_ok i1 i3 h0
    clear i2 i3 h0
    refine ⟨fun xs _ => inv4 ((Int.gcd ((Int.gcd 0 m.a : Nat) : Int) m.b : Nat) : Int) xs, mu4, by rw [e1]; exact init_ok (Int.natCast_nonneg _) k2, fun X2 j2 u2 b2 g2 n2 hI => ?_⟩
    obtain ⟨i1, i2, i3⟩ : 0 ≤ g2 ∧ 0 ≤ n2 ∧ ((Int.gcd g2 n2 : Nat) : Int) = _ := hI
    refine ⟨fun h0 => ⟨h0, round_ok i1 i2 i3 h0⟩, fun h0 => ?_⟩
    have e2 := exit_ok i1 i3 h0
    clear i2 i3 h0
    refine ⟨fun xs _ => inv4 ((Int.gcd ((Int.gcd ((Int.gcd 0 m.a : Nat) : Int) m.b : Nat) : Int) m.c : Nat) : Int) xs, mu4, by rw [e2]; exact init_ok (Int.natCast_nonneg _) k3, fun X3 j3 u3 b3 g3 n3 hI => ?_⟩
    obtain ⟨i1, i2, i3⟩ : 0 ≤ g3 ∧ 0 ≤ n3 ∧ ((Int.gcd g3 n3 : Nat) : Int) = _ := hI
    refine ⟨fun h0 => ⟨h0, round_ok i1 i2 i3 h0⟩, fun h0 => ?_⟩
    have e3 := exit_ok i1 i3 h0
    clear i2 i3 h0
    refine ⟨fun xs _ => inv4 ((Int.gcd ((Int.gcd ((Int.gcd ((Int.gcd 0 m.a : Nat) : Int) m.b : Nat) : Int) m.c : Nat) : Int) m.d : Nat) : Int) xs, mu4, by rw [e3]; exact init_ok (Int.natCast_nonneg _) k4, fun X4 j4 u4 b4 g4 n4 hI => ?_⟩
    obtain ⟨i1, i2, i3⟩ : 0 ≤ g4 ∧ 0 ≤ n4 ∧ ((Int.gcd g4 n4 : Nat) : Int) = _ := hI
    refine ⟨fun h0 => ⟨h0, round_ok i1 i2 i3 h0⟩, fun h0 => ?_⟩
    have e4 := exit_ok i1 i3 h0
    clear i2 i3 h0
    refine ⟨fun xs _ => inv4 ((Int.gcd ((Int.gcd ((Int.gcd ((Int.gcd ((Int.gcd 0 m.a : Nat) : Int) m.b : Nat) : Int) m.c : Nat) : Int) m.d : Nat) : Int) m.e : Nat) : Int) xs, mu4, by rw [e4]; exact init_ok (Int.natCast_nonneg _) k5, fun X5 j5 u5 b5 g5 n5 hI => ?_⟩
    obtain ⟨i1, i2, i3⟩ : 0 ≤ g5 ∧ 0 ≤ n5 ∧ ((Int.gcd g5 n5 : Nat) : Int) = _ := hI
    refine ⟨fun h0 => ⟨h0, round_ok i1 i2 i3 h0⟩, fun h0 => ?_⟩
    have e5 := exit_ok i1 i3 h0
    clear i2 i3 h0
    refine ⟨fun xs _ => inv4 ((Int.gcd ((Int.gcd ((Int.gcd ((Int.gcd ((Int.gcd ((Int.gcd 0 m.a : Nat) : Int) m.b : Nat) : Int) m.c : Nat) : Int) m.d : Nat) : Int) m.e : Nat) : Int) m.f : Nat) : Int) xs, mu4, by rw [e5]; exact init_ok (Int.natCast_nonneg _) k6, fun X6 j6 u6 b6 g6 n6 hI => ?_⟩
    obtain ⟨i1, i2, i3⟩ : 0 ≤ g6 ∧ 0 ≤ n6 ∧ ((Int.gcd g6 n6 : Nat) : Int) = _ := hI
    refine ⟨fun h0 => ⟨h0, round_ok i1 i2 i3 h0⟩, fun h0 => ?_⟩
    have e6 := exit_ok i1 i3 h0
    clear i2 i3 h0
    have eG : g6 = gcd6 m.a m.b m.c m.d m.e m.f := e6
    have hle := VH.le_trans j1 (VH.le_trans j2 (VH.le_trans j3 (VH.le_trans j4 (VH.le_trans j5 j6))))
    have hT := hT.mono hle
    have hp := hp.mono hle
    have hnz : (!(g6 == (0 : Int))) = true := by
      have : g6 ≠ 0 := by omega
      simpa using this
    rw [eG] at hnz ⊢
    clear e1 e2 e3 e4 e5 e6 eG hle j1 j2 j3 j4 j5 j6
    generalize gcd6 m.a m.b m.c m.d m.e m.f = G at *
    refine fun _ => ?_
    rw [(quotW k1 d1 hG).1, (quotW k2 d2 hG).1, (quotW k3 d3 hG).1, (quotW k4 d4 hG).1, (quotW k5 d5 hG).1, (quotW k6 d6 hG).1]
    obtain ⟨_, q1, s1⟩ := quotW k1 d1 hG
    obtain ⟨_, q2, s2⟩ := quotW k2 d2 hG
    obtain ⟨_, q3, s3⟩ := quotW k3 d3 hG
    obtain ⟨_, q4, s4⟩ := quotW k4 d4 hG
    obtain ⟨_, q5, s5⟩ := quotW k5 d5 hG
    obtain ⟨_, q6, s6⟩ := quotW k6 d6 hG
    refine ⟨hnz, (LFrom q1.1 q1.2).mono ?_⟩
    rintro _ Y h ⟨r, rfl, hr⟩
    have hT := hT.mono h
    have hp := hp.mono h
    refine ⟨r, rfl, (LNumberN hT hr (by omega) (Big.int s1)).mono ?_⟩
    rintro _ Y h rfl
    have hT := hT.mono h
    have hp := hp.mono h
    refine ⟨_, rfl, ?_⟩
    refine ⟨hnz, (LFrom q2.1 q2.2).mono ?_⟩
    rintro _ Y h ⟨r, rfl, hr⟩
    have hT := hT.mono h
    have hp := hp.mono h
    refine ⟨r, rfl, (LNumberN hT hr (by omega) (Big.int s2)).mono ?_⟩
    rintro _ Y h rfl
    have hT := hT.mono h
    have hp := hp.mono h
    refine ⟨_, rfl, ?_⟩
    refine ⟨hnz, (LFrom q3.1 q3.2).mono ?_⟩
    rintro _ Y h ⟨r, rfl, hr⟩
    have hT := hT.mono h
    have hp := hp.mono h
    refine ⟨r, rfl, (LNumberN hT hr (by omega) (Big.int s3)).mono ?_⟩
    rintro _ Y h rfl
    have hT := hT.mono h
    have hp := hp.mono h
    refine ⟨_, rfl, ?_⟩
    refine ⟨hnz, (LFrom q4.1 q4.2).mono ?_⟩
    rintro _ Y h ⟨r, rfl, hr⟩
    have hT := hT.mono h
    have hp := hp.mono h
    refine ⟨r, rfl, (LNumberN hT hr (by omega) (Big.int s4)).mono ?_⟩
    rintro _ Y h rfl
    have hT := hT.mono h
    have hp := hp.mono h
    refine ⟨_, rfl, ?_⟩
    refine ⟨hnz, (LFrom q5.1 q5.2).mono ?_⟩
    rintro _ Y h ⟨r, rfl, hr⟩
    have hT := hT.mono h
    have hp := hp.mono h
    refine ⟨r, rfl, (LNumberN hT hr (by omega) (Big.int s5)).mono ?_⟩
    rintro _ Y h rfl
    have hT := hT.mono h
    have hp := hp.mono h
    refine ⟨_, rfl, ?_⟩
    refine ⟨hnz, (LFrom q6.1 q6.2).mono ?_⟩
    rintro _ Y h ⟨r, rfl, hr⟩
    have hT := hT.mono h
    have hp := hp.mono h
    refine ⟨r, rfl, (LNumberN hT hr (by omega) (Big.int s6)).mono ?_⟩
    rintro _ Y h rfl
    have hT := hT.mono h
    have hp := hp.mono h
    refine ⟨_, rfl, ?_⟩
    refine ⟨fun _ => (TNumbersN hT hp (by omega) (Big.int s1) (Big.int s2) (Big.int s3) (Big.int s4) (Big.int s5) (Big.int s6)).mono ?_, fun e => by simp at e⟩
    rintro _ Y h rfl
    exact ⟨_, _, _, _, _, _, rfl, by simp [iv]⟩
  · rintro _ W0 g0 rfl
    refine ⟨_, rfl, (TEqual (hx.mono g0) (hy.mono g0) (by omega)).mono ?_⟩
    rintro _ W g rfl
    have hT := (hT.mono g0).mono g
    have hx := (hx.mono g0).mono g
    refine ⟨_, rfl, fun e => by rw [q6_eq, e50] at e; simp at e, fun _ => ?_⟩
    clear hy e50
    refine (TIsZero hx (by omega)).mono ?_
    rintro _ W1 g1 rfl
    rw [small_zeroB hm]
    refine ⟨_, rfl, fun e => by simp at e, fun _ => (TPrimitive (hx.mono g1) (by omega)).mono ?_⟩
    rintro _ W2 g2 ⟨p, e, rfl, hp⟩
    have hT := (hT.mono g1).mono g2
    refine ⟨p.a.a, p.a.b, p.a.c, p.l.a, p.l.b, p.l.c, e, rfl, fun _ => ⟨fun hz => ?_, fun hz => ?_⟩⟩
    · have hz : m.q = Q6.zero := of_decide_eq_true hz
      rcases hp with ⟨_, rfl, hp⟩ | ⟨hne, _⟩
      · refine ⟨fun _ => (TIsZero hp (by omega)).mono ?_, fun e => by simp at e⟩
        rintro _ W3 g3 rfl
        exact ⟨_, rfl, by simp⟩
      · exact absurd hz hne
    have hne : m.q ≠ Q6.zero := of_decide_eq_false hz
    rcases hp with ⟨hc, _⟩ | ⟨_, rfl, hp⟩
    · exact absurd hc hne
    rw [prim6 hm hne] at hp
    have hG := gcd6_pos hm hne
    obtain ⟨d1, d2, d3, d4, d5, d6⟩ := gcd6_dvd m.a m.b m.c m.d m.e m.f
    obtain ⟨⟨k1, k2, k3, k4, k5, k6⟩, k7, k8⟩ := hm
    refine ⟨fun xs _ => inv2 ((Int.gcd 0 m.a : Nat) : Int) xs, mu2, init_ok (g := 0) (Int.le_refl 0) k1, fun X1 j1 n1 n2 hI => ?_⟩
    obtain ⟨i1, i2, i3⟩ : 0 ≤ n1 ∧ 0 ≤ n2 ∧ ((Int.gcd n1 n2 : Nat) : Int) = _ := hI
    refine ⟨fun h0 => ⟨h0, round_ok i1 i2 i3 h0⟩, fun h0 => ?_⟩
    have e1 := exit_ok i1 i3 h0
    clear i2 i3 h0
    refine ⟨fun xs _ => inv4 ((Int.gcd ((Int.gcd 0 m.a : Nat) : Int) m.b : Nat) : Int) xs, mu4, by rw [e1]; exact init_ok (Int.natCast_nonneg _) k2, fun X2 j2 u2 b2 g2 n2 hI => ?_⟩
    obtain ⟨i1, i2, i3⟩ : 0 ≤ g2 ∧ 0 ≤ n2 ∧ ((Int.gcd g2 n2 : Nat) : Int) = _ := hI
    refine ⟨fun h0 => ⟨h0, round_ok i1 i2 i3 h0⟩, fun h0 => ?_⟩
    have e2 := exit_ok i1 i3 h0
    clear i2 i3 h0
    refine ⟨fun xs _ => inv4 ((Int.gcd ((Int.gcd ((Int.gcd 0 m.a : Nat) : Int) m.b : Nat) : Int) m.c : Nat) : Int) xs, mu4, by rw [e2]; exact init_ok (Int.natCast_nonneg _) k3, fun X3 j3 u3 b3 g3 n3 hI => ?_⟩
    obtain ⟨i1, i2, i3⟩ : 0 ≤ g3 ∧ 0 ≤ n3 ∧ ((Int.gcd g3 n3 : Nat) : Int) = _ := hI
    refine ⟨fun h0 => ⟨h0, round_ok i1 i2 i3 h0⟩, fun h0 => ?_⟩
    have e3 := exit_ok i1 i3 h0
    clear i2 i3 h0
    refine ⟨fun xs _ => inv4 ((Int.gcd ((Int.gcd ((Int.gcd ((Int.gcd 0 m.a : Nat) : Int) m.b : Nat) : Int) m.c : Nat) : Int) m.d : Nat) : Int) xs, mu4, by rw [e3]; exact init_ok (Int.natCast_nonneg _) k4, fun X4 j4 u4 b4 g4 n4 hI => ?_⟩
    obtain ⟨i1, i2, i3⟩ : 0 ≤ g4 ∧ 0 ≤ n4 ∧ ((Int.gcd g4 n4 : Nat) : Int) = _ := hI
    refine ⟨fun h0 => ⟨h0, round_ok i1 i2 i3 h0⟩, fun h0 => ?_⟩
    have e4 := exit_ok i1 i3 h0
    clear i2 i3 h0
    refine ⟨fun xs _ => inv4 ((Int.gcd ((Int.gcd ((Int.gcd ((Int.gcd ((Int.gcd 0 m.a : Nat) : Int) m.b : Nat) : Int) m.c : Nat) : Int) m.d : Nat) : Int) m.e : Nat) : Int) xs, mu4, by rw [e4]; exact init_ok (Int.natCast_nonneg _) k5, fun X5 j5 u5 b5 g5 n5 hI => ?_⟩
    obtain ⟨i1, i2, i3⟩ : 0 ≤ g5 ∧ 0 ≤ n5 ∧ ((Int.gcd g5 n5 : Nat) : Int) = _ := hI
    refine ⟨fun h0 => ⟨h0, round_ok i1 i2 i3 h0⟩, fun h0 => ?_⟩
    have e5 := exit_ok i1 i3 h0
    clear i2 i3 h0
    refine ⟨fun xs _ => inv4 ((Int.gcd ((Int.gcd ((Int.gcd ((Int.gcd ((Int.gcd ((Int.gcd 0 m.a : Nat) : Int) m.b : Nat) : Int) m.c : Nat) : Int) m.d : Nat) : Int) m.e : Nat) : Int) m.f : Nat) : Int) xs, mu4, by rw [e5]; exact init_ok (Int.natCast_nonneg _) k6, fun X6 j6 u6 b6 g6 n6 hI => ?_⟩
    obtain ⟨i1, i2, i3⟩ : 0 ≤ g6 ∧ 0 ≤ n6 ∧ ((Int.gcd g6 n6 : Nat) : Int) = _ := hI
    refine ⟨fun h0 => ⟨h0, round_ok i1 i2 i3 h0⟩, fun h0 => ?_⟩
    have e6 := exit_ok i1 i3 h0
    clear i2 i3 h0
    have eG : g6 = gcd6 m.a m.b m.c m.d m.e m.f := e6
    have hle := VH.le_trans j1 (VH.le_trans j2 (VH.le_trans j3 (VH.le_trans j4 (VH.le_trans j5 j6))))
    have hT := hT.mono hle
    have hp := hp.mono hle
    have hnz : (!(g6 == (0 : Int))) = true := by
      have : g6 ≠ 0 := by omega
      simpa using this
    rw [eG] at hnz ⊢
    clear e1 e2 e3 e4 e5 e6 eG hle j1 j2 j3 j4 j5 j6
    generalize gcd6 m.a m.b m.c m.d m.e m.f = G at *
    refine fun _ => ?_
    rw [(quotW k1 d1 hG).1, (quotW k2 d2 hG).1, (quotW k3 d3 hG).1, (quotW k4 d4 hG).1, (quotW k5 d5 hG).1, (quotW k6 d6 hG).1]
    obtain ⟨_, q1, s1⟩ := quotW k1 d1 hG
    obtain ⟨_, q2, s2⟩ := quotW k2 d2 hG
    obtain ⟨_, q3, s3⟩ := quotW k3 d3 hG
    obtain ⟨_, q4, s4⟩ := quotW k4 d4 hG
    obtain ⟨_, q5, s5⟩ := quotW k5 d5 hG
    obtain ⟨_, q6, s6⟩ := quotW k6 d6 hG
    refine ⟨hnz, (LFrom q1.1 q1.2).mono ?_⟩
    rintro _ Y h ⟨r, rfl, hr⟩
    have hT := hT.mono h
    have hp := hp.mono h
    refine ⟨r, rfl, (LNumberN hT hr (by omega) (Big.int s1)).mono ?_⟩
    rintro _ Y h rfl
    have hT := hT.mono h
    have hp := hp.mono h
    refine ⟨_, rfl, ?_⟩
    refine ⟨hnz, (LFrom q2.1 q2.2).mono ?_⟩
    rintro _ Y h ⟨r, rfl, hr⟩
    have hT := hT.mono h
    have hp := hp.mono h
    refine ⟨r, rfl, (LNumberN hT hr (by omega) (Big.int s2)).mono ?_⟩
    rintro _ Y h rfl
    have hT := hT.mono h
    have hp := hp.mono h
    refine ⟨_, rfl, ?_⟩
    refine ⟨hnz, (LFrom q3.1 q3.2).mono ?_⟩
    rintro _ Y h ⟨r, rfl, hr⟩
    have hT := hT.mono h
    have hp := hp.mono h
    refine ⟨r, rfl, (LNumberN hT hr (by omega) (Big.int s3)).mono ?_⟩
    rintro _ Y h rfl
    have hT := hT.mono h
    have hp := hp.mono h
    refine ⟨_, rfl, ?_⟩
    refine ⟨hnz, (LFrom q4.1 q4.2).mono ?_⟩
    rintro _ Y h ⟨r, rfl, hr⟩
    have hT := hT.mono h
    have hp := hp.mono h
    refine ⟨r, rfl, (LNumberN hT hr (by omega) (Big.int s4)).mono ?_⟩
    rintro _ Y h rfl
    have hT := hT.mono h
    have hp := hp.mono h
    refine ⟨_, rfl, ?_⟩
    refine ⟨hnz, (LFrom q5.1 q5.2).mono ?_⟩
    rintro _ Y h ⟨r, rfl, hr⟩
    have hT := hT.mono h
    have hp := hp.mono h
    refine ⟨r, rfl, (LNumberN hT hr (by omega) (Big.int s5)).mono ?_⟩
    rintro _ Y h rfl
    have hT := hT.mono h
    have hp := hp.mono h
    refine ⟨_, rfl, ?_⟩
    refine ⟨hnz, (LFrom q6.1 q6.2).mono ?_⟩
    rintro _ Y h ⟨r, rfl, hr⟩
    have hT := hT.mono h
    have hp := hp.mono h
    refine ⟨r, rfl, (LNumberN hT hr (by omega) (Big.int s6)).mono ?_⟩
    rintro _ Y h rfl
    have hT := hT.mono h
    have hp := hp.mono h
    refine ⟨_, rfl, ?_⟩
    refine ⟨fun _ => (TNumbersN hT hp (by omega) (Big.int s1) (Big.int s2) (Big.int s3) (Big.int s4) (Big.int s5) (Big.int s6)).mono ?_, fun e => by simp at e⟩
    rintro _ Y h rfl
    exact ⟨_, _, _, _, _, _, rfl, by simp [iv]⟩
end Go.Proofs.YteimfmjojadkfaaDoor
