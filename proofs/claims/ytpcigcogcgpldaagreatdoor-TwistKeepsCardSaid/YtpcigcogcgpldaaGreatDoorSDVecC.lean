/- A text of this claim's own: SD.VecC. -/
import Derived.Test.YtpcigcogcgpldaaGreatDoorSdE
import Derived.Test.YtpcigcogcgpldaaGreatDoorSDEVec
set_option linter.unusedVariables false
set_option linter.unusedSimpArgs false
set_option linter.unusedVariables false
set_option linter.unusedSimpArgs false
set_option maxRecDepth 100000
namespace Go.Proofs.YtpcigcogcgpldaaGreatDoor
open Go Go.Dx Dw
/-- how many digits a number of height k may have -/
def L (k : Nat) : Nat := 3 ^ (k + 1)
theorem L_two (k : Nat) : 2 ≤ L k := by
  unfold L
  have : 0 < 3 ^ k := Nat.pow_pos (by omega)
  rw [Nat.pow_succ]; omega
theorem L_succ (k : Nat) : 2 * L k + 1 ≤ L (k + 1) := by
  have := L_two k
  have e : L (k + 1) = 3 * L k := by unfold L; rw [Nat.pow_succ 3 (k + 1), Nat.mul_comm]
  omega
theorem L_le {k l : Nat} (h : k ≤ l) : L k ≤ L l := Nat.pow_le_pow_right (by omega) (by omega)
theorem L_lt {k : Nat} (h : k ≤ 21) : L k < 100000000000 := Nat.lt_of_le_of_lt (L_le h) (by decide)
/-- a rational of height k -/
def RatL (V : VH) (r : R4) (q : Rat) (k : Nat) : Prop := RatR V r q (L k)
theorem RatL.mono {V V' : VH} {r : R4} {q : Rat} {k : Nat} (h : RatL V r q k) (hl : V.le V') : RatL V' r q k := RatR.mono h hl
theorem RatL.up {V : VH} {r : R4} {q : Rat} {k l : Nat} (h : RatL V r q k) (hl : k ≤ l) : RatL V r q l := RatR.up h (L_le hl)
theorem RatL.zero (V : VH) (k : Nat) : RatL V zero4 0 k := RatR.zero V _
theorem LAdd {r s : R4} {x y : Rat} {k : Nat} {V : VH} (h : RatL V r x k) (h' : RatL V s y k) (hk : k ≤ 21) :
    CSpec Tryz.prog n_rational_Add #[r.v, s.v] V fun v V' => ∃ t : R4, v = t.v ∧ RatL V' t (x + y) (k + 1) :=
  (RAdd_spec h h' (L_two k) (L_lt hk)).mono fun v V' _ ⟨t, e, ht⟩ => ⟨t, e, RatR.up ht (L_succ k)⟩
theorem LSub {r s : R4} {x y : Rat} {k : Nat} {V : VH} (h : RatL V r x k) (h' : RatL V s y k) (hk : k ≤ 21) :
    CSpec Tryz.prog n_rational_Sub #[r.v, s.v] V fun v V' => ∃ t : R4, v = t.v ∧ RatL V' t (x - y) (k + 1) :=
  (RSub_spec h h' (L_two k) (L_lt hk)).mono fun v V' _ ⟨t, e, ht⟩ => ⟨t, e, RatR.up ht (L_succ k)⟩
theorem LMul {r s : R4} {x y : Rat} {k : Nat} {V : VH} (h : RatL V r x k) (h' : RatL V s y k) (hk : k ≤ 21) :
    CSpec Tryz.prog n_rational_Mul #[r.v, s.v] V fun v V' => ∃ t : R4, v = t.v ∧ RatL V' t (x * y) (k + 1) :=
  (RMul_spec h h' (L_two k) (L_lt hk)).mono fun v V' _ ⟨t, e, ht⟩ => ⟨t, e, RatR.up ht (L_succ k)⟩
theorem LDiv {r s : R4} {x y : Rat} {k : Nat} {V : VH} (h : RatL V r x k) (h' : RatL V s y k) (hk : k ≤ 21) :
    CSpec Tryz.prog n_rational_Div #[r.v, s.v] V fun v V' => ∃ t : R4, v = .tuple #[t.v, .int .i64 (if y = 0 then 19 else 0)] ∧ RatL V' t (x / y) (k + 1) :=
  (RDiv_spec h h' (L_two k) (L_lt hk)).mono fun v V' _ ⟨t, e, ht⟩ => ⟨t, e, RatR.up ht (L_succ k)⟩
theorem LFrom {n : Int} {V : VH} (h0 : -9223372036854775808 ≤ n) (h1 : n < 9223372036854775808) :
    CSpec Tryz.prog n_rational_From #[.int .i64 n] V fun v V' => ∃ t : R4, v = t.v ∧ RatL V' t (n : Rat) 0 :=
  (RFrom_spec h0 h1).mono fun v V' _ ⟨t, e, ht⟩ => ⟨t, e, RatR.up ht (by decide)⟩
theorem LCompare {r s : R4} {x y : Rat} {k : Nat} {V : VH} (h : RatL V r x k) (h' : RatL V s y k) (hk : k ≤ 21) :
    CSpec Tryz.prog n_rational_Compare #[r.v, s.v] V fun v V' => v = .int .i64 (cmpQ x y) := RCompare_spec h h' (L_lt hk)
theorem LSign {r : R4} {x : Rat} {k : Nat} {V : VH} (h : RatL V r x k) :
    CSpec Tryz.prog n_rational_Rat_Sign #[r.v] V fun v V' => v = .int .i64 x.num.sign := RSign_spec h
/-- a vector -/
structure Q3 where
  x : Rat
  y : Rat
  z : Rat
  deriving DecidableEq
structure R12 where
  a : R4
  b : R4
  c : R4
def R12.v (r : R12) : Value := .agg #[.bool r.a.x.n, .slice r.a.x.A r.a.x.l.length r.a.x.c, .bool r.a.y.n, .slice r.a.y.A r.a.y.l.length r.a.y.c,
  .bool r.b.x.n, .slice r.b.x.A r.b.x.l.length r.b.x.c, .bool r.b.y.n, .slice r.b.y.A r.b.y.l.length r.b.y.c,
  .bool r.c.x.n, .slice r.c.x.A r.c.x.l.length r.c.x.c, .bool r.c.y.n, .slice r.c.y.A r.c.y.l.length r.c.y.c]
def VecL (V : VH) (r : R12) (u : Q3) (k : Nat) : Prop := RatL V r.a u.x k ∧ RatL V r.b u.y k ∧ RatL V r.c u.z k
theorem VecL.mono {V V' : VH} {r : R12} {q : Q3} {k : Nat} (h : VecL V r q k) (hl : V.le V') : VecL V' r q k := ⟨h.1.mono hl, h.2.1.mono hl, h.2.2.mono hl⟩
theorem VecL.up {V : VH} {r : R12} {q : Q3} {k l : Nat} (h : VecL V r q k) (hl : k ≤ l) : VecL V r q l := ⟨h.1.up hl, h.2.1.up hl, h.2.2.up hl⟩
def Q3.zero : Q3 := ⟨0, 0, 0⟩
def zero12 : R12 := ⟨zero4, zero4, zero4⟩
theorem VecL.zero (V : VH) (k : Nat) : VecL V zero12 Q3.zero k := ⟨RatL.zero V k, RatL.zero V k, RatL.zero V k⟩
def Q3.add (u w : Q3) : Q3 := ⟨u.x + w.x, u.y + w.y, u.z + w.z⟩
def Q3.sub (u w : Q3) : Q3 := ⟨u.x - w.x, u.y - w.y, u.z - w.z⟩
def Q3.scale (u : Q3) (k : Rat) : Q3 := ⟨k * u.x, k * u.y, k * u.z⟩
def Q3.dot (u w : Q3) : Rat := 0 + u.x * w.x + u.y * w.y + u.z * w.z
def Q3.cross (u w : Q3) : Q3 := ⟨u.y * w.z - u.z * w.y, u.z * w.x - u.x * w.z, u.x * w.y - u.y * w.x⟩
def VecV (V : VH) (v : Value) (u : Q3) (k : Nat) : Prop := ∃ r : R12, v = r.v ∧ VecL V r u k
theorem VAdd {r s : R12} {u w : Q3} {k : Nat} {V : VH} (h : VecL V r u k) (h' : VecL V s w k) (hk : k ≤ 21) :
    CSpec Tryz.prog n_vector_Add #[r.v, s.v] V fun v V' => VecV V' v (u.add w) (k + 1) := by
  refine E_vector_Add r.a r.b r.c s.a s.b s.c V _ fun _ _ _ => (E_vector_each2funcrational_Add r.a r.b r.c s.a s.b s.c V (fun v V' => VecV V' v (u.add w) (k + 1)) fun _ _ _ _ => ?_).mono ?_
  · constructor
    all_goals
      refine (LAdd h.1 h'.1 hk).mono ?_
      rintro _ V1 hV1 ⟨t1, rfl, h1⟩
      refine ⟨t1, rfl, ?_⟩
      constructor
      all_goals
        refine (LAdd (h.2.1.mono hV1) (h'.2.1.mono hV1) hk).mono ?_
        rintro _ V2 hV2 ⟨t2, rfl, h2⟩
        refine ⟨t2, rfl, ?_⟩
        constructor
        all_goals
          refine (LAdd ((h.2.2.mono hV1).mono hV2) ((h'.2.2.mono hV1).mono hV2) hk).mono ?_
          rintro _ V3 hV3 ⟨t3, rfl, h3⟩
          exact ⟨t3, rfl, ⟨t1, t2, t3⟩, rfl, (h1.mono hV2).mono hV3, h2.mono hV3, h3⟩
  · rintro _ V1 _ ⟨t, rfl, ht⟩
    exact ⟨t.a, t.b, t.c, rfl, t, rfl, ht⟩
theorem VSub {r s : R12} {u w : Q3} {k : Nat} {V : VH} (h : VecL V r u k) (h' : VecL V s w k) (hk : k ≤ 21) :
    CSpec Tryz.prog n_vector_Sub #[r.v, s.v] V fun v V' => VecV V' v (u.sub w) (k + 1) := by
  refine E_vector_Sub r.a r.b r.c s.a s.b s.c V _ fun _ _ _ => (E_vector_each2funcrational_Sub r.a r.b r.c s.a s.b s.c V (fun v V' => VecV V' v (u.sub w) (k + 1)) fun _ _ _ _ => ?_).mono ?_
  · constructor
    all_goals
      refine (LSub h.1 h'.1 hk).mono ?_
      rintro _ V1 hV1 ⟨t1, rfl, h1⟩
      refine ⟨t1, rfl, ?_⟩
      constructor
      all_goals
        refine (LSub (h.2.1.mono hV1) (h'.2.1.mono hV1) hk).mono ?_
        rintro _ V2 hV2 ⟨t2, rfl, h2⟩
        refine ⟨t2, rfl, ?_⟩
        constructor
        all_goals
          refine (LSub ((h.2.2.mono hV1).mono hV2) ((h'.2.2.mono hV1).mono hV2) hk).mono ?_
          rintro _ V3 hV3 ⟨t3, rfl, h3⟩
          exact ⟨t3, rfl, ⟨t1, t2, t3⟩, rfl, (h1.mono hV2).mono hV3, h2.mono hV3, h3⟩
  · rintro _ V1 _ ⟨t, rfl, ht⟩
    exact ⟨t.a, t.b, t.c, rfl, t, rfl, ht⟩
theorem each_mul {r s : R12} {u w : Q3} {k : Nat} {V : VH} (h : VecL V r u k) (h' : VecL V s w k) (hk : k ≤ 21) :
    CSpec Tryz.prog n_vector_each #[r.v, s.v, .func (.func n_rational_Mul) #[] #[]] V fun v V' => VecV V' v ⟨u.x * w.x, u.y * w.y, u.z * w.z⟩ (k + 1) := by
  refine E_vector_each2funcrational_Mul r.a r.b r.c s.a s.b s.c V _ fun _ _ _ _ => ?_
  constructor
  all_goals
    refine (LMul h.1 h'.1 hk).mono ?_
    rintro _ V1 hV1 ⟨t1, rfl, h1⟩
    refine ⟨t1, rfl, ?_⟩
    constructor
    all_goals
      refine (LMul (h.2.1.mono hV1) (h'.2.1.mono hV1) hk).mono ?_
      rintro _ V2 hV2 ⟨t2, rfl, h2⟩
      refine ⟨t2, rfl, ?_⟩
      constructor
      all_goals
        refine (LMul ((h.2.2.mono hV1).mono hV2) ((h'.2.2.mono hV1).mono hV2) hk).mono ?_
        rintro _ V3 hV3 ⟨t3, rfl, h3⟩
        exact ⟨t3, rfl, ⟨t1, t2, t3⟩, rfl, (h1.mono hV2).mono hV3, h2.mono hV3, h3⟩
theorem Scale1 {m T : Nat} {g r s : R4} {q x : Rat} {k : Nat} {V : VH} (hV : V.f m = some (.cells #[.bool g.x.n, .slice g.x.A g.x.l.length g.x.c, .bool g.y.n, .slice g.y.A g.y.l.length g.y.c] T)) (hg : RatL V g q k) (h : RatL V r x k) (hk : k ≤ 21) :
    CSpec Tryz.prog n_vector_Scale_1 #[r.v, s.v, .pointer (some ⟨m, 0, none⟩)] V fun v V' => ∃ t : R4, v = t.v ∧ RatL V' t (q * x) (k + 1) := by
  refine E_vector_Scale_12cap m T g r s V hV _ fun _ _ _ => (LMul hg h hk).mono ?_
  rintro _ V1 _ ⟨t, rfl, ht⟩
  exact ⟨t, rfl, t, rfl, ht⟩
theorem VScale {r : R12} {g : R4} {u : Q3} {q : Rat} {k : Nat} {V : VH} (h : VecL V r u k) (hg : RatL V g q k) (hk : k ≤ 21) :
    CSpec Tryz.prog n_vector_Scale #[r.v, g.v] V fun v V' => VecV V' v (u.scale q) (k + 1) := by
  refine E_vector_Scale r.a r.b r.c g V _ fun _ m _ hm => ?_
  have hp := VH.le_put hm (.cells #[.bool g.x.n, .slice g.x.A g.x.l.length g.x.c, .bool g.y.n, .slice g.y.A g.y.l.length g.y.c] ty_rat)
  have hat := VH.put_at V m (.cells #[.bool g.x.n, .slice g.x.A g.x.l.length g.x.c, .bool g.y.n, .slice g.y.A g.y.l.length g.y.c] ty_rat)
  generalize V.put m (.cells #[.bool g.x.n, .slice g.x.A g.x.l.length g.x.c, .bool g.y.n, .slice g.y.A g.y.l.length g.y.c] ty_rat) = V0 at hp hat ⊢
  have h := h.mono hp
  have hg := hg.mono hp
  refine (E_vector_each2clovector_Scale_1 m ty_rat g r.a r.b r.c r.a r.b r.c V0 hat (fun v V' => VecV V' v (u.scale q) (k + 1)) fun _ _ _ _ => ?_).mono ?_
  · constructor
    all_goals
      refine (Scale1 hat hg h.1 hk).mono ?_
      rintro _ V1 hV1 ⟨t1, rfl, h1⟩
      refine ⟨t1, rfl, ?_⟩
      constructor
      all_goals
        refine (Scale1 (hV1 _ _ hat) (hg.mono hV1) (h.2.1.mono hV1) hk).mono ?_
        rintro _ V2 hV2 ⟨t2, rfl, h2⟩
        refine ⟨t2, rfl, ?_⟩
        constructor
        all_goals
          refine (Scale1 (hV2 _ _ (hV1 _ _ hat)) ((hg.mono hV1).mono hV2) ((h.2.2.mono hV1).mono hV2) hk).mono ?_
          rintro _ V3 hV3 ⟨t3, rfl, h3⟩
          exact ⟨t3, rfl, ⟨t1, t2, t3⟩, rfl, (h1.mono hV2).mono hV3, h2.mono hV3, h3⟩
  · rintro _ V1 _ ⟨t, rfl, ht⟩
    exact ⟨t.a, t.b, t.c, rfl, t, rfl, ht⟩
theorem Sum3 {m T : Nat} {a b c : R4} {x y z : Rat} {k : Nat} {c0 : Nat} {V : VH} (hV : V.f m = some (.cells #[.bool a.x.n, .slice a.x.A a.x.l.length a.x.c, .bool a.y.n, .slice a.y.A a.y.l.length a.y.c,
      .bool b.x.n, .slice b.x.A b.x.l.length b.x.c, .bool b.y.n, .slice b.y.A b.y.l.length b.y.c, .bool c.x.n, .slice c.x.A c.x.l.length c.x.c, .bool c.y.n, .slice c.y.A c.y.l.length c.y.c] T))
    (ha : RatL V a x k) (hb : RatL V b y k) (hc : RatL V c z k) (hk : k ≤ 19) :
    CSpec Tryz.prog n_rational_Sum #[.slice (some ⟨m, 0, none⟩) 3 c0] V fun v V' => ∃ t : R4, v = t.v ∧ RatL V' t (0 + x + y + z) (k + 3) := by
  refine E_rational_Sum0giv3 m T a b c c0 V hV _ fun _ _ _ => (LAdd (RatL.zero V k) ha (by omega)).mono ?_
  rintro _ V1 hV1 ⟨t1, rfl, h1⟩
  refine ⟨t1, rfl, fun _ => (LAdd h1 ((hb.up (Nat.le_succ k)).mono hV1) (by omega)).mono ?_⟩
  rintro _ V2 hV2 ⟨t2, rfl, h2⟩
  refine ⟨t2, rfl, fun _ => (LAdd h2 (((hc.up (show k ≤ k + 1 + 1 by omega)).mono hV1).mono hV2) (by omega)).mono ?_⟩
  rintro _ V3 hV3 ⟨t3, rfl, h3⟩
  exact ⟨t3, rfl, t3, rfl, h3⟩
theorem VDot {r s : R12} {u w : Q3} {k : Nat} {V : VH} (h : VecL V r u k) (h' : VecL V s w k) (hk : k ≤ 18) :
    CSpec Tryz.prog n_vector_Dot #[r.v, s.v] V fun v V' => ∃ t : R4, v = t.v ∧ RatL V' t (u.dot w) (k + 4) := by
  refine E_vector_Dot r.a r.b r.c s.a s.b s.c V _ fun _ _ _ => (each_mul h h' (by omega)).mono ?_
  rintro _ V1 hV1 ⟨t, rfl, ht⟩
  refine ⟨t.a, t.b, t.c, rfl, fun m hm => ?_⟩
  have hp := VH.le_put hm (.cells #[.bool t.a.x.n, .slice t.a.x.A t.a.x.l.length t.a.x.c, .bool t.a.y.n, .slice t.a.y.A t.a.y.l.length t.a.y.c,
      .bool t.b.x.n, .slice t.b.x.A t.b.x.l.length t.b.x.c, .bool t.b.y.n, .slice t.b.y.A t.b.y.l.length t.b.y.c, .bool t.c.x.n, .slice t.c.x.A t.c.x.l.length t.c.x.c, .bool t.c.y.n, .slice t.c.y.A t.c.y.l.length t.c.y.c] ty_vec)
  refine (Sum3 (c0 := 3) (VH.put_at _ _ _) (ht.1.mono hp) (ht.2.1.mono hp) (ht.2.2.mono hp) (by omega)).mono ?_
  rintro _ V2 hV2 ⟨t2, rfl, h2⟩
  exact ⟨t2, rfl, t2, rfl, h2⟩
theorem VCross {r s : R12} {u w : Q3} {k : Nat} {V : VH} (h : VecL V r u k) (h' : VecL V s w k) (hk : k ≤ 20) :
    CSpec Tryz.prog n_vector_Cross #[r.v, s.v] V fun v V' => VecV V' v (u.cross w) (k + 2) := by
  refine E_vector_Cross r.a r.b r.c s.a s.b s.c V _ fun _ _ _ _ => (LMul h.2.1 h'.2.2 (by omega)).mono ?_
  rintro _ V1 hV1 ⟨t1, rfl, h1⟩
  refine ⟨t1, rfl, (LMul (h.2.2.mono hV1) (h'.2.1.mono hV1) (by omega)).mono ?_⟩
  rintro _ V2 hV2 ⟨t2, rfl, h2⟩
  refine ⟨t2, rfl, (LSub (h1.mono hV2) h2 (by omega)).mono ?_⟩
  rintro _ V3 hV3 ⟨t3, rfl, h3⟩
  have h := ((h.mono hV1).mono hV2).mono hV3
  have h' := ((h'.mono hV1).mono hV2).mono hV3
  refine ⟨t3, rfl, (LMul h.2.2 h'.1 (by omega)).mono ?_⟩
  rintro _ V4 hV4 ⟨t4, rfl, h4⟩
  refine ⟨t4, rfl, (LMul (h.1.mono hV4) (h'.2.2.mono hV4) (by omega)).mono ?_⟩
  rintro _ V5 hV5 ⟨t5, rfl, h5⟩
  refine ⟨t5, rfl, (LSub (h4.mono hV5) h5 (by omega)).mono ?_⟩
  rintro _ V6 hV6 ⟨t6, rfl, h6⟩
  have h := ((h.mono hV4).mono hV5).mono hV6
  have h' := ((h'.mono hV4).mono hV5).mono hV6
  refine ⟨t6, rfl, (LMul h.1 h'.2.1 (by omega)).mono ?_⟩
  rintro _ V7 hV7 ⟨t7, rfl, h7⟩
  refine ⟨t7, rfl, (LMul (h.2.1.mono hV7) (h'.1.mono hV7) (by omega)).mono ?_⟩
  rintro _ V8 hV8 ⟨t8, rfl, h8⟩
  refine ⟨t8, rfl, (LSub (h7.mono hV8) h8 (by omega)).mono ?_⟩
  rintro _ V9 hV9 ⟨t9, rfl, h9⟩
  exact ⟨t9, rfl, ⟨t3, t6, t9⟩, rfl, (((((h3.mono hV4).mono hV5).mono hV6).mono hV7).mono hV8).mono hV9, ((h6.mono hV7).mono hV8).mono hV9, h9⟩
theorem VCompare {r s : R12} {u w : Q3} {k : Nat} {V : VH} (h : VecL V r u k) (h' : VecL V s w k) (hk : k ≤ 21) :
    CSpec Tryz.prog n_vector_Compare #[r.v, s.v] V fun v V' => ∃ n : Int, v = .int .i64 n ∧ (n == 0) = decide (u = w) := by
  obtain ⟨u1, u2, u3⟩ := u
  obtain ⟨w1, w2, w3⟩ := w
  refine E_vector_Compare r.a r.b r.c s.a s.b s.c V _ fun _ _ => (LCompare h.1 h'.1 hk).mono ?_
  rintro _ V1 hV1 rfl
  refine ⟨_, rfl, fun e => ?_, fun e => ?_⟩
  · refine ⟨_, rfl, ?_⟩
    rw [Bool.not_eq_true'] at e
    rw [e, eq_comm, decide_eq_false_iff_not]
    intro hc
    rw [cmpQ_beq] at e
    simp only [Q3.mk.injEq] at hc
    exact of_decide_eq_false e hc.1
  have e1 : u1 = w1 := by rw [Bool.not_eq_false', cmpQ_beq] at e; exact of_decide_eq_true e
  refine (LCompare (h.2.1.mono hV1) (h'.2.1.mono hV1) hk).mono ?_
  rintro _ V2 hV2 rfl
  refine ⟨_, rfl, fun e => ?_, fun e => ?_⟩
  · refine ⟨_, rfl, ?_⟩
    rw [Bool.not_eq_true'] at e
    rw [e, eq_comm, decide_eq_false_iff_not]
    intro hc
    rw [cmpQ_beq] at e
    simp only [Q3.mk.injEq] at hc
    exact of_decide_eq_false e hc.2.1
  have e2 : u2 = w2 := by rw [Bool.not_eq_false', cmpQ_beq] at e; exact of_decide_eq_true e
  refine (LCompare ((h.2.2.mono hV1).mono hV2) ((h'.2.2.mono hV1).mono hV2) hk).mono ?_
  rintro _ V3 hV3 rfl
  refine ⟨_, rfl, fun e => ?_, fun e => ?_⟩
  · refine ⟨_, rfl, ?_⟩
    rw [Bool.not_eq_true'] at e
    rw [e, eq_comm, decide_eq_false_iff_not]
    intro hc
    rw [cmpQ_beq] at e
    simp only [Q3.mk.injEq] at hc
    exact of_decide_eq_false e hc.2.2
  have e3 : u3 = w3 := by rw [Bool.not_eq_false', cmpQ_beq] at e; exact of_decide_eq_true e
  exact ⟨0, rfl, by rw [e1, e2, e3]; simp⟩
theorem VEqual {r s : R12} {u w : Q3} {k : Nat} {V : VH} (h : VecL V r u k) (h' : VecL V s w k) (hk : k ≤ 21) :
    CSpec Tryz.prog n_vector_Equal #[r.v, s.v] V fun v V' => v = .bool (decide (u = w)) := by
  refine E_vector_Equal r.a r.b r.c s.a s.b s.c V _ fun _ _ => (VCompare h h' hk).mono ?_
  rintro _ V1 hV1 ⟨n, rfl, e⟩
  exact ⟨n, rfl, by rw [e]⟩
theorem VIsZero {r : R12} {u : Q3} {k : Nat} {V : VH} (h : VecL V r u k) (hk : k ≤ 21) :
    CSpec Tryz.prog n_vector_IsZero #[r.v] V fun v V' => v = .bool (decide (u = Q3.zero)) := by
  refine E_vector_IsZero r.a r.b r.c V _ fun _ => (VCompare h (VecL.zero V k) hk).mono ?_
  rintro _ V1 hV1 ⟨n, rfl, e⟩
  exact ⟨n, rfl, by rw [e]⟩
end Go.Proofs.YtpcigcogcgpldaaGreatDoor
