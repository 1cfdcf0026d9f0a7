/- A text of this claim's own: SD.Prim6C. -/
import Derived.Test.YteimfmjojadkfaaDoorSDKnownC
import Derived.Test.YteimfmjojadkfaaDoorSDEPr2
set_option linter.unusedVariables false
set_option linter.unusedSimpArgs false
set_option linter.unusedVariables false
set_option linter.unusedSimpArgs false
set_option maxRecDepth 100000
namespace Go.Proofs.YteimfmjojadkfaaDoor
open Go Go.Dx Dw
def lcmE (d : Int) (e : Nat) : Int := d * ((e : Int) / (Int.gcd d e : Int))
theorem lcmE_pos {d : Int} {e : Nat} (hd : 0 < d) (he : 0 < e) : 0 < lcmE d e := by
  unfold lcmE
  have hg : 0 < Int.gcd d e := Int.gcd_pos_of_ne_zero_left _ (by omega)
  have hdv : (Int.gcd d e : Int) ∣ (e : Int) := Int.gcd_dvd_right _ _
  exact Int.mul_pos hd (Int.ediv_pos_of_pos_of_dvd (by omega) (by omega) hdv)
theorem lcmE_left (d : Int) (e : Nat) : d ∣ lcmE d e := ⟨_, rfl⟩
theorem lcmE_right (d : Int) (e : Nat) : (e : Int) ∣ lcmE d e := by
  unfold lcmE
  have h1 : (Int.gcd d e : Int) ∣ (e : Int) := Int.gcd_dvd_right _ _
  have h2 : (Int.gcd d e : Int) ∣ d := Int.gcd_dvd_left _ _
  rw [← Int.mul_ediv_assoc _ h1, Int.mul_comm, Int.mul_ediv_assoc _ h2]
  exact ⟨_, rfl⟩
def den6 (t : Q6) : Int := lcmE (lcmE (lcmE (lcmE (lcmE (lcmE 1 t.a.x.den) t.a.y.den) t.a.z.den) t.l.x.den) t.l.y.den) t.l.z.den
def gcd6 (a b c d e f : Int) : Int := (Int.gcd (Int.gcd (Int.gcd (Int.gcd (Int.gcd (Int.gcd 0 a : Int) b : Int) c : Int) d : Int) e : Int) f : Int)
def cof (M : Int) (q : Rat) : Int := q.num * (M / (q.den : Int))
def fac (M : Int) (t : Q6) : Int := gcd6 (cof M t.a.x) (cof M t.a.y) (cof M t.a.z) (cof M t.l.x) (cof M t.l.y) (cof M t.l.z)
theorem den6_pos (t : Q6) : 0 < den6 t := lcmE_pos (lcmE_pos (lcmE_pos (lcmE_pos (lcmE_pos (lcmE_pos (by decide) t.a.x.den_pos) t.a.y.den_pos) t.a.z.den_pos) t.l.x.den_pos) t.l.y.den_pos) t.l.z.den_pos
theorem den6_dvd (t : Q6) : ((t.a.x.den : Int) ∣ den6 t ∧ (t.a.y.den : Int) ∣ den6 t ∧ (t.a.z.den : Int) ∣ den6 t) ∧ (t.l.x.den : Int) ∣ den6 t ∧ (t.l.y.den : Int) ∣ den6 t ∧ (t.l.z.den : Int) ∣ den6 t := by
  have s : ∀ {a b : Int} {e : Nat}, a ∣ b → a ∣ lcmE b e := fun h => Int.dvd_trans h (lcmE_left _ _)
  exact ⟨⟨s (s (s (s (s (lcmE_right _ _))))), s (s (s (s (lcmE_right _ _)))), s (s (s (lcmE_right _ _)))⟩, s (s (lcmE_right _ _)), s (lcmE_right _ _), lcmE_right _ _⟩
theorem gcd6_zero {a b c d e f : Int} (h : gcd6 a b c d e f = 0) : a = 0 ∧ b = 0 ∧ c = 0 ∧ d = 0 ∧ e = 0 ∧ f = 0 := by
  unfold gcd6 at h
  have z : ∀ {x y : Int}, ((Int.gcd x y : Nat) : Int) = 0 → x = 0 ∧ y = 0 := fun h => Int.gcd_eq_zero_iff.1 (by omega)
  obtain ⟨h, hf⟩ := z h
  obtain ⟨h, he⟩ := z h
  obtain ⟨h, hd⟩ := z h
  obtain ⟨h, hc⟩ := z h
  obtain ⟨h, hb⟩ := z h
  obtain ⟨_, ha⟩ := z h
  exact ⟨ha, hb, hc, hd, he, hf⟩
theorem cof_zero {M : Int} {q : Rat} (hM : 0 < M) (hd : (q.den : Int) ∣ M) (h : cof M q = 0) : q = 0 := by
  have hq := q.den_pos
  have : 0 < M / (q.den : Int) := Int.ediv_pos_of_pos_of_dvd hM (by omega) hd
  rcases Int.mul_eq_zero.1 h with h | h
  · exact Rat.num_eq_zero.1 h
  · omega
theorem fac_ne {t : Q6} (h : t ≠ Q6.zero) : fac (den6 t) t ≠ 0 := by
  intro hc
  apply h
  obtain ⟨h1, h2, h3, h4, h5, h6⟩ := gcd6_zero hc
  obtain ⟨⟨d1, d2, d3⟩, d4, d5, d6⟩ := den6_dvd t
  have hM := den6_pos t
  have e1 := cof_zero hM d1 h1
  have e2 := cof_zero hM d2 h2
  have e3 := cof_zero hM d3 h3
  have e4 := cof_zero hM d4 h4
  have e5 := cof_zero hM d5 h5
  have e6 := cof_zero hM d6 h6
  obtain ⟨⟨a, b, c⟩, ⟨d, e, f⟩⟩ := t
  simp only at e1 e2 e3 e4 e5 e6
  subst e1; subst e2; subst e3; subst e4; subst e5; subst e6
  rfl
theorem lcm_step {i : R2} {d : Int} {r : R4} {q : Rat} {n b : Nat} {V : VH} {K : R2 → VH → Prop} (hd : IntR V i d) (hd0 : 0 < d) (hl : i.l.length ≤ b) (hq : RatR V r q n) (hn2 : 2 ≤ n) (hn : n < 100000000000) (hb : b < 400000000000)
    (hK : ∀ j V', V.le V' → IntR V' j (lcmE d q.den) → j.l.length ≤ b + 3 + n → K j V') :
    CSpec Tryd.prog n_rational_Rat_Den #[r.v] V fun v3 V4 => ∃ i14 : R2, v3 = i14.v ∧ CSpec Tryd.prog n_rational_Rat_Den #[r.v] V4 fun v4 V5 => ∃ i15 : R2, v4 = i15.v ∧ CSpec Tryd.prog n_integer_Gcd #[i.v, i15.v] V5 fun v5 V6 => ∃ i16 : R2, v5 = i16.v ∧
      CSpec Tryd.prog n_integer_DivMod #[i14.v, i16.v] V6 fun v6 V7 => ∃ i17 : R2, ∃ i18 : R2, ∃ n19 : Int, v6 = .tuple #[i17.v, i18.v, .int .i64 n19] ∧ ∀ m20 : Nat, ∀ m21 : Nat,
        CSpec Tryd.prog n_integer_Mul #[i.v, i17.v] V7 fun v7 V8 => ∃ i22 : R2, v7 = i22.v ∧ K i22 V8 := by
  refine (Den_spec hq (by omega)).mono ?_
  rintro _ V3 h3 ⟨i14, rfl, r14, b14⟩
  refine ⟨i14, rfl, (Den_spec (hq.mono h3) (by omega)).mono ?_⟩
  rintro _ V4 h4 ⟨i15, rfl, r15, b15⟩
  refine ⟨i15, rfl, (Gcd_spec ((hd.mono h3).mono h4) r15 (by omega) (by omega)).mono ?_⟩
  rintro _ V5 h5 ⟨i16, rfl, r16, b16⟩
  have hg : 0 < Int.gcd d q.den := Int.gcd_pos_of_ne_zero_left _ (by omega)
  refine ⟨i16, rfl, (DivMod_spec ((r14.mono h4).mono h5) r16 (by omega) (by omega) (by omega)).mono ?_⟩
  rintro _ V6 h6 ⟨i17, i18, rfl, r17, b17, r18, b18⟩
  refine ⟨i17, i18, 0, rfl, fun _ _ => (Mul_spec ((((hd.mono h3).mono h4).mono h5).mono h6) r17 (by omega) (by omega)).mono ?_⟩
  rintro _ V7 h7 ⟨i22, rfl, r22, b22⟩
  exact ⟨i22, rfl, hK i22 V7 (VH.le_trans h3 (VH.le_trans h4 (VH.le_trans h5 (VH.le_trans h6 h7)))) r22 (by omega)⟩
theorem gcdE_step {i j : R2} {M g : Int} {r : R4} {q : Rat} {n b c : Nat} {V : VH} {K : R2 → VH → Prop} (hM : IntR V i M) (hg : IntR V j g) (hl : i.l.length ≤ b) (hj : j.l.length ≤ c) (hq : RatR V r q n) (hn2 : 2 ≤ n) (hn : n < 100000000000) (hb : b < 300000000000) (hc : c < 500000000000)
    (hbc : n + b + 3 ≤ c) (hK : ∀ i' V', V.le V' → IntR V' i' (Int.gcd g (cof M q)) → i'.l.length ≤ c → K i' V') :
    CSpec Tryd.prog n_rational_Rat_Den #[r.v] V fun v33 V34 => ∃ i75 : R2, v33 = i75.v ∧ CSpec Tryd.prog n_integer_DivMod #[i.v, i75.v] V34 fun v34 V35 => ∃ i76 : R2, ∃ i77 : R2, ∃ n78 : Int, v34 = .tuple #[i76.v, i77.v, .int .i64 n78] ∧ ∀ m79 : Nat, ∀ m80 : Nat,
      CSpec Tryd.prog n_rational_Rat_Num #[r.v] V35 fun v35 V36 => ∃ i81 : R2, v35 = i81.v ∧ CSpec Tryd.prog n_integer_Mul #[i81.v, i76.v] V36 fun v36 V37 => ∃ i82 : R2, v36 = i82.v ∧
        CSpec Tryd.prog n_integer_Gcd #[j.v, i82.v] V37 fun v37 V38 => ∃ i83 : R2, v37 = i83.v ∧ K i83 V38 := by
  refine (Den_spec hq (by omega)).mono ?_
  rintro _ V3 h3 ⟨i75, rfl, r75, b75⟩
  have hqd := q.den_pos
  refine ⟨i75, rfl, (DivMod_spec (hM.mono h3) r75 (by omega) (by omega) (by omega)).mono ?_⟩
  rintro _ V4 h4 ⟨i76, i77, rfl, r76, b76, r77, b77⟩
  refine ⟨i76, i77, 0, rfl, fun _ _ => (Num_spec ((hq.mono h3).mono h4)).mono ?_⟩
  rintro _ V5 h5 ⟨i81, rfl, r81, b81⟩
  refine ⟨i81, rfl, (Mul_spec r81 (r76.mono h5) (by omega) (by omega)).mono ?_⟩
  rintro _ V6 h6 ⟨i82, rfl, r82, b82⟩
  refine ⟨i82, rfl, (Gcd_spec ((((hg.mono h3).mono h4).mono h5).mono h6) r82 (by omega) (by omega)).mono ?_⟩
  rintro _ V7 h7 ⟨i83, rfl, r83, b83⟩
  exact ⟨i83, rfl, hK i83 V7 (VH.le_trans h3 (VH.le_trans h4 (VH.le_trans h5 (VH.le_trans h6 h7)))) r83 (by omega)⟩
set_option maxHeartbeats 1000000 in
theorem TPrimitive {r : R24} {t : Q6} {k : Nat} {V : VH} (h : TwL V r t k) (hk : k ≤ 17) :
    CSpec Tryd.prog n_twist_Primitive #[r.v] V fun v V' => ∃ s : R24, ∃ e : Int, v = .tuple #[s.v, .int .i64 e] ∧
      ((t = Q6.zero ∧ e = 19 ∧ TwL V' s Q6.zero (k + 4)) ∨ (t ≠ Q6.zero ∧ e = 0 ∧ TwL V' s ⟨t.a.scale (Rat.divInt (den6 t) (fac (den6 t) t)), t.l.scale (Rat.divInt (den6 t) (fac (den6 t) t))⟩ (k + 4))) := by
  have hL2 := L_two k
  have hLlt := L_lt (show k ≤ 21 by omega)
  have hL3 : L k ≤ 3486784401 := Nat.le_trans (L_le (show k ≤ 17 by omega)) (by decide)
  have hLb : 7 * L k + 23 ≤ L (k + 3) := by
    have e : L (k + 3) = 27 * L k := by unfold L; rw [Nat.pow_succ 3 (k + 3), Nat.pow_succ 3 (k + 2), Nat.pow_succ 3 (k + 1)]; omega
    omega
  refine E_twist_Primitive r.a.a r.a.b r.a.c r.l.a r.l.b r.l.c V _ fun _ _ => (TIsZero h (by omega)).mono ?_
  rintro _ V1 hV1 rfl
  refine ⟨_, rfl, fun e => ?_, fun e => ?_⟩
  · exact ⟨⟨zero12, zero12⟩, 19, rfl, .inl ⟨of_decide_eq_true e, rfl, VecL.zero _ _, VecL.zero _ _⟩⟩
  have ht : t ≠ Q6.zero := of_decide_eq_false e
  have h := h.mono hV1
  refine (Tjoined (r := r.a) (s := r.l)).mono ?_
  rintro _ V2 hV2 ⟨m, rfl, hm⟩
  have h := h.mono hV2
  refine ⟨m, r.a.a, r.a.b, r.a.c, r.l.a, r.l.b, r.l.c, 6, rfl, hm, (From_spec (by decide) (by decide)).mono ?_⟩
  rintro _ V3 hV3 ⟨i11, rfl, r11, b11⟩
  have h := h.mono hV3
  have p1 : 0 < lcmE 1 t.a.x.den := lcmE_pos (by decide) t.a.x.den_pos
  have p2 : 0 < lcmE _ t.a.y.den := lcmE_pos p1 t.a.y.den_pos
  have p3 : 0 < lcmE _ t.a.z.den := lcmE_pos p2 t.a.z.den_pos
  have p4 : 0 < lcmE _ t.l.x.den := lcmE_pos p3 t.l.x.den_pos
  have p5 : 0 < lcmE _ t.l.y.den := lcmE_pos p4 t.l.y.den_pos
  refine ⟨i11, rfl, fun _ _ => lcm_step r11 (by decide) b11 h.1.1 hL2 hLlt (by omega) ?_⟩
  intro i22 V8 hV8 r22 b22
  have h := h.mono hV8
  refine fun _ => lcm_step r22 p1 b22 h.1.2.1 hL2 hLlt (by omega) ?_
  intro i32 V13 hV13 r32 b32
  have h := h.mono hV13
  refine fun _ => lcm_step r32 p2 b32 h.1.2.2 hL2 hLlt (by omega) ?_
  intro i42 V18 hV18 r42 b42
  have h := h.mono hV18
  refine fun _ => lcm_step r42 p3 b42 h.2.1 hL2 hLlt (by omega) ?_
  intro i52 V23 hV23 r52 b52
  have h := h.mono hV23
  refine fun _ => lcm_step r52 p4 b52 h.2.2.1 hL2 hLlt (by omega) ?_
  intro i62 V28 hV28 r62 b62
  have h := h.mono hV28
  refine fun _ => lcm_step r62 p5 b62 h.2.2.2 hL2 hLlt (by omega) ?_
  intro i72 V33 hV33 r72 b72
  have h := h.mono hV33
  have b72 : i72.l.length ≤ 6 * L k + 20 := by omega
  have e72 : IntR V33 i72 (den6 t) := r72
  refine fun _ _ => gcdE_step (j := ⟨false, none, [], 0⟩) (c := 7 * L k + 23) e72 (IntR.zero V33 _ _) b72 (by simp) h.1.1 hL2 hLlt (by omega) (by omega) (by omega) ?_
  intro i83 W1 g1 r83 b83
  have h := h.mono g1
  have e72 := e72.mono g1
  refine fun _ => gcdE_step (c := 7 * L k + 23) e72 r83 b72 b83 h.1.2.1 hL2 hLlt (by omega) (by omega) (by omega) ?_
  intro i93 W2 g2 r93 b93
  have h := h.mono g2
  have e72 := e72.mono g2
  refine fun _ => gcdE_step (c := 7 * L k + 23) e72 r93 b72 b93 h.1.2.2 hL2 hLlt (by omega) (by omega) (by omega) ?_
  intro i103 W3 g3 r103 b103
  have h := h.mono g3
  have e72 := e72.mono g3
  refine fun _ => gcdE_step (c := 7 * L k + 23) e72 r103 b72 b103 h.2.1 hL2 hLlt (by omega) (by omega) (by omega) ?_
  intro i113 W4 g4 r113 b113
  have h := h.mono g4
  have e72 := e72.mono g4
  refine fun _ => gcdE_step (c := 7 * L k + 23) e72 r113 b72 b113 h.2.2.1 hL2 hLlt (by omega) (by omega) (by omega) ?_
  intro i123 W5 g5 r123 b123
  have h := h.mono g5
  have e72 := e72.mono g5
  refine fun _ => gcdE_step (c := 7 * L k + 23) e72 r123 b72 b123 h.2.2.2 hL2 hLlt (by omega) (by omega) (by omega) ?_
  intro i133 W6 g6 r133 b133
  have h := h.mono g6
  have e72 := e72.mono g6
  have hlt3 := L_lt (show k + 3 ≤ 21 by omega)
  refine (Make_spec (n := L (k + 3)) e72 r133 (fac_ne ht) (by omega) (by omega) (by omega)).mono ?_
  rintro _ W7 g7 ⟨t134, rfl, r134⟩
  refine ⟨t134, 0, rfl, fun _ => (TScale ((h.mono g7).up (show k ≤ k + 3 by omega)) (q := Rat.divInt (den6 t) (fac (den6 t) t)) r134 (by omega)).mono ?_⟩
  rintro _ W8 g8 ⟨s, rfl, hs⟩
  exact ⟨s.a.a, s.a.b, s.a.c, s.l.a, s.l.b, s.l.c, rfl, s, 0, rfl, .inr ⟨ht, rfl, hs⟩⟩
end Go.Proofs.YteimfmjojadkfaaDoor
