/- A text of this claim's own: SD.KnownM. -/
import Derived.Test.YtpcigcogcgpldaaGreatDoorSDTwistC
import Derived.Test.YtpcigcogcgpldaaGreatDoorSdG
import Derived.Test.YtpcigcogcgpldaaGreatDoorSDEKn
set_option linter.unusedVariables false
set_option linter.unusedSimpArgs false
set_option linter.unusedVariables false
set_option linter.unusedSimpArgs false
set_option maxRecDepth 100000
namespace Go.Proofs.YtpcigcogcgpldaaGreatDoor
open Go Go.Dx Dw
def iv (x y z : Int) : Q3 := ⟨(x : Rat), (y : Rat), (z : Rat)⟩
def I64 (n : Int) : Prop := -9223372036854775808 ≤ n ∧ n < 9223372036854775808
theorem VOf {x y z : Int} {V : VH} (hx : I64 x) (hy : I64 y) (hz : I64 z) :
    CSpec Tryz.prog n_vector_Of #[.agg #[.int .i64 x, .int .i64 y, .int .i64 z]] V fun v V' => VecV V' v (iv x y z) 0 := by
  refine E_vector_Of x y z V _ fun _ _ _ => (LFrom hx.1 hx.2).mono ?_
  rintro _ V1 hV1 ⟨t1, rfl, h1⟩
  refine ⟨t1, rfl, (LFrom hy.1 hy.2).mono ?_⟩
  rintro _ V2 hV2 ⟨t2, rfl, h2⟩
  refine ⟨t2, rfl, (LFrom hz.1 hz.2).mono ?_⟩
  rintro _ V3 hV3 ⟨t3, rfl, h3⟩
  exact ⟨t3, rfl, ⟨t1, t2, t3⟩, rfl, (h1.mono hV2).mono hV3, h2.mono hV3, h3⟩
def I8 (n : Int) : Prop := -128 ≤ n ∧ n < 128
theorem I8.i64 {n : Int} (h : I8 n) : I64 n := by obtain ⟨h1, h2⟩ := h; exact ⟨by omega, by omega⟩
theorem Tpoint {x y z : Int} {V : VH} (hx : I8 x) (hy : I8 y) (hz : I8 z) :
    CSpec Tryz.prog n_dowellaw17_point #[.agg #[.int .i8 x, .int .i8 y, .int .i8 z]] V fun v V' => VecV V' v (iv x y z) 0 := by
  refine E_dowellaw17_point x y z V _ fun _ _ => ?_
  rw [w64 hx.i64.1 hx.i64.2, w64 hy.i64.1 hy.i64.2, w64 hz.i64.1 hz.i64.2]
  refine (VOf hx.i64 hy.i64 hz.i64).mono ?_
  rintro _ V1 hV1 ⟨t, rfl, ht⟩
  exact ⟨t.a, t.b, t.c, rfl, t, rfl, ht⟩
/-- the value of 'vec' -/
def sden (d : Int) : Rat := ((1 + d % 3 : Int) : Rat)
def sq (x y z d : Int) : Q3 := ⟨(x : Rat) / sden d, (y : Rat) / sden d, (z : Rat) / sden d⟩
theorem tmod3 {d : Int} (h0 : 0 ≤ d) (h1 : d < 256) : IntKind.wrap .i64 (1 + IntKind.wrap .i64 (Int.tmod d 3)) = 1 + d % 3 ∧ I64 (1 + d % 3) := by
  rw [Int.tmod_eq_emod_of_nonneg h0, w64 (n := d % 3) (by omega) (by omega), w64 (by omega) (by omega)]
  exact ⟨rfl, by omega, by omega⟩
theorem Tvec0 {a b c d e f s : Int} {V : VH} (ha : I8 a) (hb : I8 b) (hc : I8 c) (h0 : 0 ≤ s) (h1 : s < 256) :
    CSpec Tryz.prog n_dowellaw17_vec #[.agg #[.int .i8 a, .int .i8 b, .int .i8 c, .int .i8 d, .int .i8 e, .int .i8 f, .int .u8 s], .int .i64 0] V fun v V' => VecV V' v (sq a b c s) 1 := by
  obtain ⟨e1, e2⟩ := tmod3 h0 h1
  refine E_dowellaw17_vec1int0 a b c d e f s V _ fun _ _ _ => ?_
  rw [e1, w64 ha.i64.1 ha.i64.2, w64 hb.i64.1 hb.i64.2, w64 hc.i64.1 hc.i64.2]
  refine (LFrom ha.i64.1 ha.i64.2).mono ?_
  rintro _ V1 hV1 ⟨x1, rfl, g1⟩
  refine ⟨x1, rfl, (LFrom e2.1 e2.2).mono ?_⟩
  rintro _ V2 hV2 ⟨y1, rfl, k1⟩
  refine ⟨y1, rfl, (LDiv (g1.mono hV2) k1 (by omega)).mono ?_⟩
  rintro _ V3 hV3 ⟨z1, rfl, q1⟩
  refine ⟨z1, _, rfl, (LFrom hb.i64.1 hb.i64.2).mono ?_⟩
  rintro _ V4 hV4 ⟨x2, rfl, g2⟩
  refine ⟨x2, rfl, (LFrom e2.1 e2.2).mono ?_⟩
  rintro _ V5 hV5 ⟨y2, rfl, k2⟩
  refine ⟨y2, rfl, (LDiv (g2.mono hV5) k2 (by omega)).mono ?_⟩
  rintro _ V6 hV6 ⟨z2, rfl, q2⟩
  refine ⟨z2, _, rfl, (LFrom hc.i64.1 hc.i64.2).mono ?_⟩
  rintro _ V7 hV7 ⟨x3, rfl, g3⟩
  refine ⟨x3, rfl, (LFrom e2.1 e2.2).mono ?_⟩
  rintro _ V8 hV8 ⟨y3, rfl, k3⟩
  refine ⟨y3, rfl, (LDiv (g3.mono hV8) k3 (by omega)).mono ?_⟩
  rintro _ V9 hV9 ⟨z3, rfl, q3⟩
  exact ⟨z3, _, rfl, ⟨z1, z2, z3⟩, rfl, (((((q1.mono hV4).mono hV5).mono hV6).mono hV7).mono hV8).mono hV9, ((q2.mono hV7).mono hV8).mono hV9, q3⟩
theorem Tvec3 {a b c d e f s : Int} {V : VH} (ha : I8 d) (hb : I8 e) (hc : I8 f) (h0 : 0 ≤ s) (h1 : s < 256) :
    CSpec Tryz.prog n_dowellaw17_vec #[.agg #[.int .i8 a, .int .i8 b, .int .i8 c, .int .i8 d, .int .i8 e, .int .i8 f, .int .u8 s], .int .i64 3] V fun v V' => VecV V' v (sq d e f s) 1 := by
  obtain ⟨e1, e2⟩ := tmod3 h0 h1
  refine E_dowellaw17_vec1int3 a b c d e f s V _ fun _ _ _ => ?_
  rw [e1, w64 ha.i64.1 ha.i64.2, w64 hb.i64.1 hb.i64.2, w64 hc.i64.1 hc.i64.2]
  refine (LFrom ha.i64.1 ha.i64.2).mono ?_
  rintro _ V1 hV1 ⟨x1, rfl, g1⟩
  refine ⟨x1, rfl, (LFrom e2.1 e2.2).mono ?_⟩
  rintro _ V2 hV2 ⟨y1, rfl, k1⟩
  refine ⟨y1, rfl, (LDiv (g1.mono hV2) k1 (by omega)).mono ?_⟩
  rintro _ V3 hV3 ⟨z1, rfl, q1⟩
  refine ⟨z1, _, rfl, (LFrom hb.i64.1 hb.i64.2).mono ?_⟩
  rintro _ V4 hV4 ⟨x2, rfl, g2⟩
  refine ⟨x2, rfl, (LFrom e2.1 e2.2).mono ?_⟩
  rintro _ V5 hV5 ⟨y2, rfl, k2⟩
  refine ⟨y2, rfl, (LDiv (g2.mono hV5) k2 (by omega)).mono ?_⟩
  rintro _ V6 hV6 ⟨z2, rfl, q2⟩
  refine ⟨z2, _, rfl, (LFrom hc.i64.1 hc.i64.2).mono ?_⟩
  rintro _ V7 hV7 ⟨x3, rfl, g3⟩
  refine ⟨x3, rfl, (LFrom e2.1 e2.2).mono ?_⟩
  rintro _ V8 hV8 ⟨y3, rfl, k3⟩
  refine ⟨y3, rfl, (LDiv (g3.mono hV8) k3 (by omega)).mono ?_⟩
  rintro _ V9 hV9 ⟨z3, rfl, q3⟩
  exact ⟨z3, _, rfl, ⟨z1, z2, z3⟩, rfl, (((((q1.mono hV4).mono hV5).mono hV6).mono hV7).mono hV8).mono hV9, ((q2.mono hV7).mono hV8).mono hV9, q3⟩
/-- six small numbers -/
structure Sm where
  a : Int
  b : Int
  c : Int
  d : Int
  e : Int
  f : Int
  s : Int
def Sm.v (m : Sm) : Value := .agg #[.int .i8 m.a, .int .i8 m.b, .int .i8 m.c, .int .i8 m.d, .int .i8 m.e, .int .i8 m.f, .int .u8 m.s]
def Sm.ok (m : Sm) : Prop := (I8 m.a ∧ I8 m.b ∧ I8 m.c ∧ I8 m.d ∧ I8 m.e ∧ I8 m.f) ∧ 0 ≤ m.s ∧ m.s < 256
def Sm.q (m : Sm) : Q6 := ⟨sq m.a m.b m.c m.s, sq m.d m.e m.f m.s⟩
theorem TOf {m : Sm} {V : VH} (h : m.ok) : CSpec Tryz.prog n_dowellaw17_Of #[m.v] V fun v V' => TwV V' v m.q 1 := by
  obtain ⟨⟨h1, h2, h3, h4, h5, h6⟩, h7, h8⟩ := h
  refine E_dowellaw17_Of m.a m.b m.c m.d m.e m.f m.s V _ fun _ _ => (Tvec0 h1 h2 h3 h7 h8).mono ?_
  rintro _ V1 hV1 ⟨x, rfl, hx⟩
  refine ⟨x.a, x.b, x.c, rfl, (Tvec3 h4 h5 h6 h7 h8).mono ?_⟩
  rintro _ V2 hV2 ⟨y, rfl, hy⟩
  exact ⟨y.a, y.b, y.c, rfl, ⟨x, y⟩, rfl, hx.mono hV2, hy⟩
theorem Tjoined {r s : R12} {V : VH} : CSpec Tryz.prog n_twist_joined #[r.v, s.v] V fun v V' => ∃ m : Nat, v = .slice (some ⟨m, 0, none⟩) 6 6 ∧
    V'.f m = some (.cells #[.bool r.a.x.n, .slice r.a.x.A r.a.x.l.length r.a.x.c, .bool r.a.y.n, .slice r.a.y.A r.a.y.l.length r.a.y.c,
      .bool r.b.x.n, .slice r.b.x.A r.b.x.l.length r.b.x.c, .bool r.b.y.n, .slice r.b.y.A r.b.y.l.length r.b.y.c,
      .bool r.c.x.n, .slice r.c.x.A r.c.x.l.length r.c.x.c, .bool r.c.y.n, .slice r.c.y.A r.c.y.l.length r.c.y.c,
      .bool s.a.x.n, .slice s.a.x.A s.a.x.l.length s.a.x.c, .bool s.a.y.n, .slice s.a.y.A s.a.y.l.length s.a.y.c,
      .bool s.b.x.n, .slice s.b.x.A s.b.x.l.length s.b.x.c, .bool s.b.y.n, .slice s.b.y.A s.b.y.l.length s.b.y.c,
      .bool s.c.x.n, .slice s.c.x.A s.c.x.l.length s.c.x.c, .bool s.c.y.n, .slice s.c.y.A s.c.y.l.length s.c.y.c] ty_rat) :=
  E_twist_joined r.a r.b r.c s.a s.b s.c V _ fun _ _ m hm => ⟨m, rfl, VH.put_at _ _ _⟩
/-- an integer of one digit -/
def One (q : Rat) : Prop := q.den = 1 ∧ q.num.natAbs < 10
instance (q : Rat) : Decidable (One q) := inferInstanceAs (Decidable (_ ∧ _))
theorem LNumberG {r : R4} {q : Rat} {k : Nat} {V : VH} (hT : TabV V) (h : RatL V r q k) (hk : k ≤ 21) : CSpec Tryz.prog n_rational_Rat_Number #[r.v] V fun v V' => v = .string (ratTxt q) :=
  NumberG_spec hT h (by have := L_lt hk; omega)
theorem LNumber {r : R4} {q : Rat} {k : Nat} {V : VH} (hT : TabV V) (h : RatL V r q k) (hk : k ≤ 21) (ho : One q) : CSpec Tryz.prog n_rational_Rat_Number #[r.v] V fun v V' => v = .string (txt1 q.num) := by
  have := LNumberG hT h hk
  rwa [ratTxt_one ho.1 ho.2] at this
theorem VPointG {r : R12} {u : Q3} {k : Nat} {V : VH} (hT : TabV V) (h : VecL V r u k) (hk : k ≤ 21) :
    CSpec Tryz.prog n_vector_Vec_Point #[r.v] V fun v V' => v = .agg #[.string (ratTxt u.x), .string (ratTxt u.y), .string (ratTxt u.z)] := by
  refine E_vector_Vec_Point r.a r.b r.c V _ fun _ _ _ _ => (LNumberG hT h.1 hk).mono ?_
  rintro _ V1 hV1 rfl
  refine ⟨_, rfl, fun _ => (LNumberG (hT.mono hV1) (h.2.1.mono hV1) hk).mono ?_⟩
  rintro _ V2 hV2 rfl
  refine ⟨_, rfl, fun _ => (LNumberG ((hT.mono hV1).mono hV2) ((h.2.2.mono hV1).mono hV2) hk).mono ?_⟩
  rintro _ V3 hV3 rfl
  exact ⟨_, rfl, rfl⟩
theorem VPoint {r : R12} {u : Q3} {k : Nat} {V : VH} (hT : TabV V) (h : VecL V r u k) (hk : k ≤ 21) (h1 : One u.x) (h2 : One u.y) (h3 : One u.z) :
    CSpec Tryz.prog n_vector_Vec_Point #[r.v] V fun v V' => v = .agg #[.string (txt1 u.x.num), .string (txt1 u.y.num), .string (txt1 u.z.num)] := by
  have := VPointG hT h hk
  rwa [ratTxt_one h1.1 h1.2, ratTxt_one h2.1 h2.2, ratTxt_one h3.1 h3.2] at this
def txt6 (t : Q6) : Value := .agg #[.string (ratTxt t.a.x), .string (ratTxt t.a.y), .string (ratTxt t.a.z), .string (ratTxt t.l.x), .string (ratTxt t.l.y), .string (ratTxt t.l.z)]
theorem Numbers6 {r : R24} {t : Q6} {k : Nat} {V : VH} {m : Nat} (hT : TabV V) (h : TwL V r t k) (hk : k ≤ 21) (hm : V.f m = some (.cells #[.bool r.a.a.x.n, .slice r.a.a.x.A r.a.a.x.l.length r.a.a.x.c, .bool r.a.a.y.n, .slice r.a.a.y.A r.a.a.y.l.length r.a.a.y.c,
      .bool r.a.b.x.n, .slice r.a.b.x.A r.a.b.x.l.length r.a.b.x.c, .bool r.a.b.y.n, .slice r.a.b.y.A r.a.b.y.l.length r.a.b.y.c, .bool r.a.c.x.n, .slice r.a.c.x.A r.a.c.x.l.length r.a.c.x.c, .bool r.a.c.y.n, .slice r.a.c.y.A r.a.c.y.l.length r.a.c.y.c,
      .bool r.l.a.x.n, .slice r.l.a.x.A r.l.a.x.l.length r.l.a.x.c, .bool r.l.a.y.n, .slice r.l.a.y.A r.l.a.y.l.length r.l.a.y.c, .bool r.l.b.x.n, .slice r.l.b.x.A r.l.b.x.l.length r.l.b.x.c, .bool r.l.b.y.n, .slice r.l.b.y.A r.l.b.y.l.length r.l.b.y.c,
      .bool r.l.c.x.n, .slice r.l.c.x.A r.l.c.x.l.length r.l.c.x.c, .bool r.l.c.y.n, .slice r.l.c.y.A r.l.c.y.l.length r.l.c.y.c] ty_rat)) :
    CSpec Tryz.prog n_rational_Numbers #[.slice (some ⟨m, 0, none⟩) 6 6] V fun v V' => ∃ m, v = .slice (some ⟨m, 0, none⟩) 6 6 ∧ V'.f m = some (.cells #[.string (ratTxt t.a.x), .string (ratTxt t.a.y), .string (ratTxt t.a.z), .string (ratTxt t.l.x), .string (ratTxt t.l.y), .string (ratTxt t.l.z)] ty_num) := by
  refine E_rational_Numbers0giv6 m ty_rat r.a.a r.a.b r.a.c r.l.a r.l.b r.l.c 6 V hm _ fun m0 _ => (LNumberG hT h.1.1 hk).mono ?_
  rintro _ V2 hV2 rfl
  have h := h.mono hV2
  have hT := hT.mono hV2
  refine ⟨_, rfl, fun _ => (LNumberG hT h.1.2.1 hk).mono ?_⟩
  rintro _ V3 hV3 rfl
  have h := h.mono hV3
  have hT := hT.mono hV3
  refine ⟨_, rfl, fun _ => (LNumberG hT h.1.2.2 hk).mono ?_⟩
  rintro _ V4 hV4 rfl
  have h := h.mono hV4
  have hT := hT.mono hV4
  refine ⟨_, rfl, fun _ => (LNumberG hT h.2.1 hk).mono ?_⟩
  rintro _ V5 hV5 rfl
  have h := h.mono hV5
  have hT := hT.mono hV5
  refine ⟨_, rfl, fun _ => (LNumberG hT h.2.2.1 hk).mono ?_⟩
  rintro _ V6 hV6 rfl
  have h := h.mono hV6
  have hT := hT.mono hV6
  refine ⟨_, rfl, fun _ => (LNumberG hT h.2.2.2 hk).mono ?_⟩
  rintro _ V7 hV7 rfl
  exact ⟨_, rfl, fun hm0 => ⟨m0, rfl, VH.put_at _ _ _⟩⟩
theorem TNumbersG {r : R24} {t : Q6} {k : Nat} {V : VH} (hT : TabV V) (h : TwL V r t k) (hk : k ≤ 21) :
    CSpec Tryz.prog n_twist_Twist_Numbers #[r.v] V fun v V' => v = txt6 t := by
  refine E_twist_Twist_Numbers r.a.a r.a.b r.a.c r.l.a r.l.b r.l.c V _ fun _ _ => (Tjoined (r := r.a) (s := r.l)).mono ?_
  rintro _ V1 hV1 ⟨m, rfl, hm⟩
  have h := h.mono hV1
  refine ⟨m, r.a.a, r.a.b, r.a.c, r.l.a, r.l.b, r.l.c, 6, rfl, hm, (Numbers6 (hT.mono hV1) h hk hm).mono ?_⟩
  rintro _ V2 hV2 ⟨m2, rfl, hm2⟩
  exact ⟨m2, _, _, _, _, _, _, 6, rfl, hm2, rfl⟩
theorem WNumbersG {r : R24} {t : Q6} {k : Nat} {V : VH} (hT : TabV V) (h : TwL V r t k) (hk : k ≤ 21) :
    CSpec Tryz.prog n_twist_Wrench_Numbers #[r.v] V fun v V' => v = txt6 t := by
  refine E_twist_Wrench_Numbers r.a.a r.a.b r.a.c r.l.a r.l.b r.l.c V _ fun _ _ => (Tjoined (r := r.a) (s := r.l)).mono ?_
  rintro _ V1 hV1 ⟨m, rfl, hm⟩
  have h := h.mono hV1
  refine ⟨m, r.a.a, r.a.b, r.a.c, r.l.a, r.l.b, r.l.c, 6, rfl, hm, (Numbers6 (hT.mono hV1) h hk hm).mono ?_⟩
  rintro _ V2 hV2 ⟨m2, rfl, hm2⟩
  exact ⟨m2, _, _, _, _, _, _, 6, rfl, hm2, rfl⟩
theorem TNumbers {r : R24} {t : Q6} {k : Nat} {V : VH} (hT : TabV V) (h : TwL V r t k) (hk : k ≤ 21) (h1 : One t.a.x) (h2 : One t.a.y) (h3 : One t.a.z) (h4 : One t.l.x) (h5 : One t.l.y) (h6 : One t.l.z) :
    CSpec Tryz.prog n_twist_Twist_Numbers #[r.v] V fun v V' => v = .agg #[.string (txt1 t.a.x.num), .string (txt1 t.a.y.num), .string (txt1 t.a.z.num), .string (txt1 t.l.x.num), .string (txt1 t.l.y.num), .string (txt1 t.l.z.num)] := by
  have := TNumbersG hT h hk
  unfold txt6 at this
  rwa [ratTxt_one h1.1 h1.2, ratTxt_one h2.1 h2.2, ratTxt_one h3.1 h3.2, ratTxt_one h4.1 h4.2, ratTxt_one h5.1 h5.2, ratTxt_one h6.1 h6.2] at this
/-- the first example's twist, the third one's -/
def ex1 : Q6 := ⟨iv 0 0 1, (iv 1 0 0).cross (iv 0 0 1)⟩
def ex3 : Q6 := ⟨iv 0 0 2, iv 0 (-2) 4⟩
theorem known_spec {V : VH} (hT : TabV V) : CSpec Tryz.prog n_dowellaw17_known #[] V fun v V' => v = .bool true := by
  have c : ∀ n : Int, n = 0 ∨ n = 1 ∨ n = 2 ∨ n = -2 ∨ n = 4 → I64 n := fun n h => ⟨by omega, by omega⟩
  refine E_dowellaw17_known V _ ((VOf (c 0 (by omega)) (c 0 (by omega)) (c 1 (by omega))).mono ?_)
  rintro _ V1 hV1 ⟨x, rfl, hx⟩
  refine ⟨x.a, x.b, x.c, rfl, (VOf (c 1 (by omega)) (c 0 (by omega)) (c 0 (by omega))).mono ?_⟩
  rintro _ V2 hV2 ⟨y, rfl, hy⟩
  refine ⟨y.a, y.b, y.c, rfl, (TRotate (hx.mono hV2) hy (by omega)).mono ?_⟩
  rintro _ V3 hV3 ⟨t, rfl, ht⟩
  have ht : TwL V3 t ex1 2 := ht
  refine ⟨t.a.a, t.a.b, t.a.c, t.l.a, t.l.b, t.l.c, rfl, fun _ => (VOf (c 0 (by omega)) (c 0 (by omega)) (c 2 (by omega))).mono ?_⟩
  rintro _ V4 hV4 ⟨p, rfl, hp⟩
  refine ⟨p.a, p.b, p.c, rfl, (VOf (c 0 (by omega)) (c (-2) (by omega)) (c 4 (by omega))).mono ?_⟩
  rintro _ V5 hV5 ⟨q, rfl, hq⟩
  refine ⟨q.a, q.b, q.c, rfl, (TAxisOf (r := ⟨p, q⟩) (t := ex3) ⟨hp.mono hV5, hq⟩ (by omega)).mono ?_⟩
  rintro _ V6 hV6 ⟨ax, rfl, hax⟩
  have ht := ((ht.mono hV4).mono hV5).mono hV6
  have hT := (((((hT.mono hV1).mono hV2).mono hV3).mono hV4).mono hV5).mono hV6
  refine ⟨ax.k, ax.d.a, ax.d.b, ax.d.c, ax.p.a, ax.p.b, ax.p.c, ax.h, rfl, fun _ => (TNumbers hT ht (by omega) (by decide +kernel) (by decide +kernel) (by decide +kernel) (by decide +kernel) (by decide +kernel) (by decide +kernel)).mono ?_⟩
  rintro _ V7 hV7 rfl
  refine ⟨_, _, _, _, _, _, rfl, fun _ => (VOf (c 2 (by omega)) (c 0 (by omega)) (c 0 (by omega))).mono ?_, fun e => ?_⟩
  rotate_left
  · rw [show ((txt1 ex1.a.x.num).toList == (⟨#[48]⟩ : ByteArray).toList && ((txt1 ex1.a.y.num).toList == (⟨#[48]⟩ : ByteArray).toList && ((txt1 ex1.a.z.num).toList == (⟨#[49]⟩ : ByteArray).toList && ((txt1 ex1.l.x.num).toList == (⟨#[48]⟩ : ByteArray).toList && ((txt1 ex1.l.y.num).toList == (⟨#[45, 49]⟩ : ByteArray).toList && (txt1 ex1.l.z.num).toList == (⟨#[48]⟩ : ByteArray).toList))))) = true by decide +kernel] at e
    cases e
  rintro _ V8 hV8 ⟨s, rfl, hs⟩
  refine ⟨s.a, s.b, s.c, rfl, (TVelocity ((ht.mono hV7).mono hV8) (hs.up (show 0 ≤ 2 by omega)) (by omega)).mono ?_⟩
  rintro _ V9 hV9 ⟨w, rfl, hw⟩
  have hT := ((hT.mono hV7).mono hV8).mono hV9
  refine ⟨w.a, w.b, w.c, rfl, (VPoint hT hw (by omega) (by decide +kernel) (by decide +kernel) (by decide +kernel)).mono ?_⟩
  rintro _ V10 hV10 rfl
  have hax := (((hax.mono hV7).mono hV8).mono hV9).mono hV10
  have hT := hT.mono hV10
  refine ⟨_, _, _, rfl, fun _ => ⟨fun _ => (VPoint hT hax.2.1 (by omega) (by decide +kernel) (by decide +kernel) (by decide +kernel)).mono ?_, fun e => ?_⟩, fun e => ?_⟩
  rotate_left
  · rw [hax.1, show ((axis ex3).kind == 3) = true by decide +kernel] at e
    cases e
  · rw [show ((txt1 (vel ex1 (iv 2 0 0)).x.num).toList == (⟨#[48]⟩ : ByteArray).toList && ((txt1 (vel ex1 (iv 2 0 0)).y.num).toList == (⟨#[49]⟩ : ByteArray).toList && (txt1 (vel ex1 (iv 2 0 0)).z.num).toList == (⟨#[48]⟩ : ByteArray).toList)) = true by decide +kernel] at e
    cases e
  rintro _ V11 hV11 rfl
  have hax := hax.mono hV11
  have hT := hT.mono hV11
  refine ⟨_, _, _, rfl, fun _ => (VPoint hT hax.2.2.1 (by omega) (by decide +kernel) (by decide +kernel) (by decide +kernel)).mono ?_, fun e => ?_⟩
  rotate_left
  · rw [show ((txt1 (axis ex3).d.x.num).toList == (⟨#[48]⟩ : ByteArray).toList && ((txt1 (axis ex3).d.y.num).toList == (⟨#[48]⟩ : ByteArray).toList && (txt1 (axis ex3).d.z.num).toList == (⟨#[49]⟩ : ByteArray).toList)) = true by decide +kernel] at e
    cases e
  rintro _ V12 hV12 rfl
  have hax := hax.mono hV12
  have hT := hT.mono hV12
  refine ⟨_, _, _, rfl, fun _ => (LNumber hT hax.2.2.2 (by omega) (by decide +kernel)).mono ?_, fun e => ?_⟩
  rotate_left
  · rw [show ((txt1 (axis ex3).p.x.num).toList == (⟨#[49]⟩ : ByteArray).toList && ((txt1 (axis ex3).p.y.num).toList == (⟨#[48]⟩ : ByteArray).toList && (txt1 (axis ex3).p.z.num).toList == (⟨#[48]⟩ : ByteArray).toList)) = true by decide +kernel] at e
    cases e
  rintro _ V13 hV13 rfl
  refine ⟨_, rfl, ?_⟩
  rw [show ((txt1 (axis ex3).h.num).toList == (⟨#[50]⟩ : ByteArray).toList) = true by decide +kernel]
end Go.Proofs.YtpcigcogcgpldaaGreatDoor
