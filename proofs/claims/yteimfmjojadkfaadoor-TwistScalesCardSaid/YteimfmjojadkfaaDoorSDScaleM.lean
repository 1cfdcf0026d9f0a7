/- A text of this claim's own: SD.ScaleM. -/
import Derived.Test.YteimfmjojadkfaaDoorSDPrim6C
set_option linter.unusedVariables false
set_option linter.unusedSimpArgs false
set_option linter.unusedVariables false
set_option linter.unusedSimpArgs false
namespace Go.Proofs.YteimfmjojadkfaaDoor
open Go Go.Dx Dw
theorem gcd6_mul {k : Int} (hk : 0 ≤ k) (a b c d e f : Int) : gcd6 (k * a) (k * b) (k * c) (k * d) (k * e) (k * f) = k * gcd6 a b c d e f := by
  have g : ∀ x y : Int, ((Int.gcd (k * x) (k * y) : Nat) : Int) = k * ((Int.gcd x y : Nat) : Int) := fun x y => by
    rw [Int.gcd_mul_left, Int.natCast_mul, Int.natAbs_of_nonneg hk]
  have h0 : ((Int.gcd 0 (k * a) : Nat) : Int) = k * ((Int.gcd 0 a : Nat) : Int) := by
    have := g 0 a
    rwa [Int.mul_zero] at this
  unfold gcd6
  rw [h0, g, g, g, g, g]
theorem gcd6_dvd (a b c d e f : Int) : gcd6 a b c d e f ∣ a ∧ gcd6 a b c d e f ∣ b ∧ gcd6 a b c d e f ∣ c ∧ gcd6 a b c d e f ∣ d ∧ gcd6 a b c d e f ∣ e ∧ gcd6 a b c d e f ∣ f := by
  unfold gcd6
  have l : ∀ {x y z : Int}, z ∣ ((Int.gcd x y : Nat) : Int) → z ∣ x := fun h => Int.dvd_trans h (Int.gcd_dvd_left _ _)
  have r : ∀ {x y z : Int}, z ∣ ((Int.gcd x y : Nat) : Int) → z ∣ y := fun h => Int.dvd_trans h (Int.gcd_dvd_right _ _)
  have h := Int.dvd_refl (((Int.gcd (Int.gcd (Int.gcd (Int.gcd (Int.gcd (Int.gcd 0 a : Int) b : Int) c : Int) d : Int) e : Int) f : Nat) : Int))
  exact ⟨r (l (l (l (l (l h))))), r (l (l (l (l h)))), r (l (l (l h))), r (l (l h)), r (l h), r h⟩
theorem cof_eq {M a s : Int} {q : Rat} (hd : (q.den : Int) ∣ M) (hs : s ≠ 0) (hq : q = (a : Rat) / (s : Rat)) : s * cof M q = M * a := by
  obtain ⟨e, rfl⟩ := hd
  have hden : (q.den : Int) ≠ 0 := by have := q.den_pos; omega
  have hden' : ((q.den : Int) : Rat) ≠ 0 := by
    intro h; apply hden; exact Rat.intCast_inj.1 h
  have hs' : (s : Rat) ≠ 0 := by
    intro h; apply hs; exact Rat.intCast_inj.1 h
  unfold cof
  rw [Int.mul_ediv_cancel_left _ hden]
  have h1 : q * ((q.den : Int) : Rat) = ((q.num : Int) : Rat) := by
    conv => lhs; lhs; rw [← Rat.num_divInt_den q, Rat.divInt_eq_div]
    exact Rat.div_mul_cancel hden'
  have h2 : q * (s : Rat) = (a : Rat) := by
    rw [hq]; exact Rat.div_mul_cancel hs'
  apply Rat.intCast_inj.1
  rw [Rat.intCast_mul, Rat.intCast_mul, Rat.intCast_mul, Rat.intCast_mul, ← h1, ← h2]
  grind
/-- one number of the primitive twist -/
theorem prim_num {M G g s a : Int} (hG : G ≠ 0) (hs : s ≠ 0) (hg : g ∣ a) (hsG : s * G = M * g) : Rat.divInt M G * ((a : Rat) / (s : Rat)) = ((a / g : Int) : Rat) := by
  obtain ⟨c, rfl⟩ := hg
  have hG' : (G : Rat) ≠ 0 := by
    intro h; apply hG; exact Rat.intCast_inj.1 h
  have hs' : (s : Rat) ≠ 0 := by
    intro h; apply hs; exact Rat.intCast_inj.1 h
  have hg0 : g ≠ 0 := by
    intro h
    rw [h, Int.mul_zero] at hsG
    rcases Int.mul_eq_zero.1 hsG with h | h
    · exact hs h
    · exact hG h
  rw [Int.mul_ediv_cancel_left _ hg0, Rat.divInt_eq_div]
  have h2 : (s : Rat) * (G : Rat) = (M : Rat) * (g : Rat) := by
    rw [← Rat.intCast_mul, ← Rat.intCast_mul, hsG]
  rw [Rat.intCast_mul]
  grind
theorem gcdS_step {g n : Int} (hg : 0 ≤ g) (hn : 0 ≤ n) (h0 : n ≠ 0) : Int.gcd n (Int.tmod g n) = Int.gcd g n := by
  obtain ⟨a, rfl⟩ := Int.eq_ofNat_of_zero_le hg
  obtain ⟨b, rfl⟩ := Int.eq_ofNat_of_zero_le hn
  show Nat.gcd b (a % b) = Nat.gcd a b
  rw [Nat.gcd_comm b, ← Nat.gcd_rec, Nat.gcd_comm]
theorem tmod_lt {g n : Int} (hg : 0 ≤ g) (hn : 0 ≤ n) (h0 : n ≠ 0) : 0 ≤ Int.tmod g n ∧ (Int.tmod g n).natAbs < n.natAbs := by
  obtain ⟨a, rfl⟩ := Int.eq_ofNat_of_zero_le hg
  obtain ⟨b, rfl⟩ := Int.eq_ofNat_of_zero_le hn
  have hb : 0 < b := by omega
  have : Int.tmod (a : Int) (b : Int) = ((a % b : Nat) : Int) := rfl
  rw [this]
  have := Nat.mod_lt a hb
  exact ⟨by omega, by omega⟩
theorem gcd_abs (g a : Int) : Int.gcd g (if a < 0 then 0 - a else a) = Int.gcd g a := by
  split
  · rw [Int.zero_sub, Int.gcd_neg]
  · rfl
theorem quot_small {a g : Int} (ha : I8 a) (hg : g ∣ a) (h0 : 0 < g) : (a / g).natAbs ≤ 128 ∧ Int.tdiv a g = a / g := by
  obtain ⟨c, rfl⟩ := hg
  rw [Int.mul_ediv_cancel_left _ (by omega), Int.mul_tdiv_cancel_left _ (by omega)]
  refine ⟨?_, rfl⟩
  obtain ⟨h1, h2⟩ := ha
  have h3 : (g * c).natAbs ≤ 128 := by omega
  rw [Int.natAbs_mul] at h3
  have h4 : 1 ≤ g.natAbs := by omega
  exact Nat.le_trans (Nat.le_mul_of_pos_left _ h4) h3
theorem gcd6_nonneg (a b c d e f : Int) : 0 ≤ gcd6 a b c d e f := by unfold gcd6; omega
theorem sden_ne {d : Int} (h0 : 0 ≤ d) : (1 + d % 3 : Int) ≠ 0 := by omega
/-- the twist of small numbers, made primitive -/
theorem prim6 {m : Sm} (hm : m.ok) (hz : m.q ≠ Q6.zero) :
    (⟨m.q.a.scale (Rat.divInt (den6 m.q) (fac (den6 m.q) m.q)), m.q.l.scale (Rat.divInt (den6 m.q) (fac (den6 m.q) m.q))⟩ : Q6) =
      ⟨iv (m.a / gcd6 m.a m.b m.c m.d m.e m.f) (m.b / gcd6 m.a m.b m.c m.d m.e m.f) (m.c / gcd6 m.a m.b m.c m.d m.e m.f), iv (m.d / gcd6 m.a m.b m.c m.d m.e m.f) (m.e / gcd6 m.a m.b m.c m.d m.e m.f) (m.f / gcd6 m.a m.b m.c m.d m.e m.f)⟩ := by
  have hs : (1 + m.s % 3 : Int) ≠ 0 := sden_ne hm.2.1
  have hG := fac_ne hz
  have hM := den6_pos m.q
  obtain ⟨⟨d1, d2, d3⟩, d4, d5, d6⟩ := den6_dvd m.q
  have e1 := cof_eq (a := m.a) (s := 1 + m.s % 3) d1 hs rfl
  have e2 := cof_eq (a := m.b) (s := 1 + m.s % 3) d2 hs rfl
  have e3 := cof_eq (a := m.c) (s := 1 + m.s % 3) d3 hs rfl
  have e4 := cof_eq (a := m.d) (s := 1 + m.s % 3) d4 hs rfl
  have e5 := cof_eq (a := m.e) (s := 1 + m.s % 3) d5 hs rfl
  have e6 := cof_eq (a := m.f) (s := 1 + m.s % 3) d6 hs rfl
  have key : (1 + m.s % 3) * fac (den6 m.q) m.q = den6 m.q * gcd6 m.a m.b m.c m.d m.e m.f := by
    unfold fac
    rw [← gcd6_mul (by have := hm.2.1; omega), ← gcd6_mul (by omega), e1, e2, e3, e4, e5, e6]
  obtain ⟨g1, g2, g3, g4, g5, g6⟩ := gcd6_dvd m.a m.b m.c m.d m.e m.f
  generalize fac (den6 m.q) m.q = G at hG key
  generalize den6 m.q = M at hM key
  clear e1 e2 e3 e4 e5 e6 d1 d2 d3 d4 d5 d6
  simp only [Sm.q, sq, Q3.scale, iv, sden, Q6.mk.injEq, Q3.mk.injEq]
  exact ⟨⟨prim_num hG hs g1 key, prim_num hG hs g2 key, prim_num hG hs g3 key⟩, prim_num hG hs g4 key, prim_num hG hs g5 key, prim_num hG hs g6 key⟩
theorem sq_zero {x d : Int} (hd : (1 + d % 3 : Int) ≠ 0) : (x : Rat) / sden d = 0 ↔ x = 0 := by
  have hs' : sden d ≠ 0 := by
    intro h; apply hd; exact Rat.intCast_inj.1 h
  constructor
  · intro h
    have : (x : Rat) = 0 := by
      have := Rat.div_mul_cancel (a := (x : Rat)) hs'
      rw [h, Rat.zero_mul] at this
      exact this.symm
    exact Rat.intCast_inj.1 this
  · rintro rfl
    rw [Rat.div_def]
    exact Rat.zero_mul _
theorem small_zero {m : Sm} (hm : m.ok) : m.q = Q6.zero ↔ (m.a = 0 ∧ m.b = 0 ∧ m.c = 0) ∧ m.d = 0 ∧ m.e = 0 ∧ m.f = 0 := by
  have hs := sden_ne hm.2.1
  simp only [Sm.q, sq, Q6.zero, Q3.zero, Q6.mk.injEq, Q3.mk.injEq, sq_zero hs]
theorem small_zeroB {m : Sm} (hm : m.ok) : ((m.a == (0 : Int)) && ((m.b == (0 : Int)) && ((m.c == (0 : Int)) && ((m.d == (0 : Int)) && ((m.e == (0 : Int)) && (m.f == (0 : Int))))))) = decide (m.q = Q6.zero) := by
  rw [Bool.eq_iff_iff]
  simp only [Bool.and_eq_true, beq_iff_eq, decide_eq_true_eq, small_zero hm]
  constructor
  · rintro ⟨h1, h2, h3, h4, h5, h6⟩; exact ⟨⟨h1, h2, h3⟩, h4, h5, h6⟩
  · rintro ⟨⟨h1, h2, h3⟩, h4, h5, h6⟩; exact ⟨h1, h2, h3, h4, h5, h6⟩
theorem gcd6_pos {m : Sm} (hm : m.ok) (hz : m.q ≠ Q6.zero) : 0 < gcd6 m.a m.b m.c m.d m.e m.f := by
  have := gcd6_nonneg m.a m.b m.c m.d m.e m.f
  have : gcd6 m.a m.b m.c m.d m.e m.f ≠ 0 := by
    intro h
    obtain ⟨h1, h2, h3, h4, h5, h6⟩ := gcd6_zero h
    exact hz ((small_zero hm).2 ⟨⟨h1, h2, h3⟩, h4, h5, h6⟩)
  omega
end Go.Proofs.YteimfmjojadkfaaDoor
