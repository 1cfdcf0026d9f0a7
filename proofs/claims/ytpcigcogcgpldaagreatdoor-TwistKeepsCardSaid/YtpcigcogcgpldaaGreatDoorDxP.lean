/- A text of this claim's own: Dx.Dig, Dx.Knuth, Dx.Trial, Dx.Addback. -/
set_option linter.unusedVariables false
set_option linter.unusedSimpArgs false
namespace Dw
/-- the base -/
def val : List Int → Int
  | [] => 0
  | d :: ds => d + 4294967296 * val ds
def Digs (l : List Int) : Prop := ∀ d, d ∈ l → 0 ≤ d ∧ d < 4294967296
/-- powers of the base -/
def pw : Nat → Int
  | 0 => 1
  | n + 1 => 4294967296 * pw n

theorem pw_pos (n : Nat) : 1 ≤ pw n := by
  induction n with
  | zero => simp [pw]
  | succ n ih => simp only [pw]; omega
theorem pw_add (m n : Nat) : pw (m + n) = pw m * pw n := by
  induction m with
  | zero => simp [pw]
  | succ m ih => rw [Nat.succ_add]; simp only [pw, ih]; grind
theorem pw_le {m n : Nat} (h : m ≤ n) : pw m ≤ pw n := by
  induction h with
  | refl => exact Int.le_refl _
  | step _ ih => simp only [pw]; rename_i k _; have := pw_pos k; omega
theorem val_nil : val [] = 0 := rfl
theorem val_cons (d : Int) (l : List Int) : val (d :: l) = d + 4294967296 * val l := rfl
theorem val_append (a b : List Int) : val (a ++ b) = val a + pw a.length * val b := by
  induction a with
  | nil => simp [val, pw]
  | cons d a ih => simp only [List.cons_append, val, List.length_cons, pw, ih]; grind
theorem Digs.nil : Digs [] := by intro d h; cases h
theorem Digs.cons {d : Int} {l : List Int} (h : 0 ≤ d ∧ d < 4294967296) (hl : Digs l) : Digs (d :: l) := by
  intro x hx; cases hx with
  | head => exact h
  | tail _ hx => exact hl x hx
theorem Digs.head {d : Int} {l : List Int} (h : Digs (d :: l)) : 0 ≤ d ∧ d < 4294967296 := h d (List.mem_cons_self)
theorem Digs.tail {d : Int} {l : List Int} (h : Digs (d :: l)) : Digs l := fun x hx => h x (List.mem_cons_of_mem _ hx)
theorem Digs.append {a b : List Int} (ha : Digs a) (hb : Digs b) : Digs (a ++ b) := by
  intro x hx; rcases List.mem_append.1 hx with h | h
  · exact ha x h
  · exact hb x h
theorem Digs.left {a b : List Int} (h : Digs (a ++ b)) : Digs a := fun x hx => h x (List.mem_append_left _ hx)
theorem Digs.right {a b : List Int} (h : Digs (a ++ b)) : Digs b := fun x hx => h x (List.mem_append_right _ hx)
theorem Digs.take {l : List Int} (h : Digs l) (n : Nat) : Digs (l.take n) := fun x hx => h x (List.mem_of_mem_take hx)
theorem Digs.drop {l : List Int} (h : Digs l) (n : Nat) : Digs (l.drop n) := fun x hx => h x (List.mem_of_mem_drop hx)
theorem val_nonneg {l : List Int} (h : Digs l) : 0 ≤ val l := by
  induction l with
  | nil => simp [val]
  | cons d l ih => have := h.head; have := ih h.tail; simp only [val]; omega
theorem val_lt {l : List Int} (h : Digs l) : val l < pw l.length := by
  induction l with
  | nil => simp [val, pw]
  | cons d l ih => have := h.head; have := ih h.tail; simp only [val, List.length_cons, pw]; omega
theorem val_replicate_zero (n : Nat) : val (List.replicate n 0) = 0 := by
  induction n with
  | zero => rfl
  | succ n ih => simp [List.replicate_succ, val, ih]
/-- a digit string is determined by its value and its length -/
theorem val_inj : ∀ {a b : List Int}, Digs a → Digs b → a.length = b.length → val a = val b → a = b
  | [], [], _, _, _, _ => rfl
  | [], _ :: _, _, _, h, _ => by simp at h
  | _ :: _, [], _, _, h, _ => by simp at h
  | x :: a, y :: b, ha, hb, h, hv => by
    have h1 := ha.head; have h2 := hb.head
    simp only [val] at hv
    have hv' : val a = val b := by omega
    have hx : x = y := by omega
    rw [hx, val_inj ha.tail hb.tail (by simpa using h) hv']
/-! trimmed: the last digit isn't 0 -/
def Trim (l : List Int) : Prop := ∀ a d, l = a ++ [d] → d ≠ 0
theorem Trim.nil : Trim [] := by intro a d h; simp at h
theorem Trim.lo {l : List Int} (h : Trim l) (hd : Digs l) (hl : l ≠ []) : pw (l.length - 1) ≤ val l := by
  obtain ⟨a, d, rfl⟩ : ∃ a d, l = a ++ [d] := ⟨l.dropLast, l.getLast hl, (List.dropLast_concat_getLast hl).symm⟩
  have h0 := h a d rfl
  have h1 := hd.right.head
  have h2 := val_nonneg hd.left
  have h3 := pw_pos a.length
  rw [val_append]; simp only [List.length_append, List.length_cons, List.length_nil, val]
  have : pw a.length * 1 ≤ pw a.length * (d + 4294967296 * 0) := Int.mul_le_mul_of_nonneg_left (by omega) (by omega)
  simp only [Nat.zero_add, Nat.add_sub_cancel]
  omega
theorem Trim.zero {l : List Int} (h : Trim l) (hd : Digs l) (hv : val l = 0) : l = [] := by
  by_cases hl : l = []
  · exact hl
  · have := h.lo hd hl; have := pw_pos (l.length - 1); omega
theorem Trim.inj {a b : List Int} (ha : Trim a) (hb : Trim b) (da : Digs a) (db : Digs b) (hv : val a = val b) : a = b := by
  by_cases ea : a = []
  · subst ea; simp only [val] at hv; exact (hb.zero db hv.symm).symm
  by_cases eb : b = []
  · subst eb; simp only [val] at hv; exact ha.zero da hv
  have hla : 0 < a.length := List.length_pos_iff.2 ea
  have hlb : 0 < b.length := List.length_pos_iff.2 eb
  refine val_inj da db ?_ hv
  have h1 := ha.lo da ea; have h2 := hb.lo db eb
  have h3 := val_lt da; have h4 := val_lt db
  rcases Nat.lt_trichotomy a.length b.length with h | h | h
  · have := pw_le (show a.length ≤ b.length - 1 by omega); omega
  · exact h
  · have := pw_le (show b.length ≤ a.length - 1 by omega); omega
/-- fewer digits: less -/
theorem val_lt_of_length {a b : List Int} (hb : Trim b) (da : Digs a) (db : Digs b) (h : a.length < b.length) : val a < val b := by
  have eb : b ≠ [] := by intro e; subst e; simp at h
  have := hb.lo db eb
  have := val_lt da
  have := pw_le (show a.length ≤ b.length - 1 by omega)
  omega
end Dw

namespace Dw
theorem mul_le_l {a b c : Int} (h : a ≤ b) (hc : 0 ≤ c) : c * a ≤ c * b := Int.mul_le_mul_of_nonneg_left h hc
theorem mul_le_r {a b c : Int} (h : a ≤ b) (hc : 0 ≤ c) : a * c ≤ b * c := Int.mul_le_mul_of_nonneg_right h hc

/-- the trial quotient is not too small -/
theorem qhat_ge {q V2 U3 P lv lu : Int} (hP : 1 ≤ P) (_h0 : 0 ≤ q) (hlv : 0 ≤ lv) (hlu : lu < P) 
    (hU : lu + P * U3 < 4294967296 * (lv + P * V2)) (hq : 4294967296 ≤ q + 1 ∨ U3 < (q + 1) * V2) (hV : 0 ≤ V2) :
    lu + P * U3 < (q + 1) * (lv + P * V2) := by
  have hPV : 0 ≤ P * V2 := Int.mul_nonneg (by omega) hV
  rcases hq with h | h
  · have := mul_le_r h (show 0 ≤ lv + P * V2 by omega); omega
  · have h1 : P * (U3 + 1) ≤ P * ((q + 1) * V2) := mul_le_l (by omega) (by omega)
    have h2 : 0 ≤ (q + 1) * lv := Int.mul_nonneg (by omega) hlv
    have h3 : (q + 1) * (lv + P * V2) = (q + 1) * lv + P * ((q + 1) * V2) := by grind
    have h4 : P * (U3 + 1) = P * U3 + P := by grind
    omega
/-- .. nor too great by more than one -/
theorem qhat_le {q V2 U3 P lv lu : Int} (hP : 1 ≤ P) (h0 : 0 ≤ q) (hqb : q < 4294967296) (hlv : 0 ≤ lv) (hlv' : lv < P) (hlu : 0 ≤ lu) (hU3 : 0 ≤ U3)
    (hq : q * V2 ≤ U3) (hV : 4294967296 ≤ V2) : (q - 1) * (lv + P * V2) ≤ lu + P * U3 := by
  have hPU : 0 ≤ P * U3 := Int.mul_nonneg (by omega) hU3
  by_cases hz : q = 0
  · subst hz
    have : 0 ≤ P * V2 := Int.mul_nonneg (by omega) (by omega)
    omega
  · have h1 : (q - 1) * (lv + P * V2) ≤ (q - 1) * (P + P * V2) := mul_le_l (by omega) (by omega)
    have h2 : (q - 1) * (P + P * V2) = P * (q * V2 + (q - 1 - V2)) := by grind
    have h3 : P * (q * V2 + (q - 1 - V2)) ≤ P * U3 := mul_le_l (by omega) (by omega)
    omega
end Dw

namespace Dw
/-- where the trial loop ends, the trial quotient is a digit, and not too great -/
theorem trial_exit {q rest v1 v2 u2 high : Int} (he : q * v1 + rest = high) (hq0 : 0 ≤ q) (hr0 : 0 ≤ rest) (hh : high ≤ v1 * 4294967296 + 4294967295) (hv1 : 2147483648 ≤ v1) (hv2 : 0 ≤ v2 ∧ v2 < 4294967296) (hu2 : 0 ≤ u2)
    (hx : 4294967296 ≤ rest ∨ (q < 4294967296 ∧ q * v2 ≤ rest * 4294967296 + u2)) : q < 4294967296 ∧ q * (v1 * 4294967296 + v2) ≤ high * 4294967296 + u2 := by
  have hqb : q < 4294967296 := by
    rcases hx with h | h
    · apply Decidable.byContradiction
      intro hc
      have : 4294967296 * v1 ≤ q * v1 := mul_le_r (by omega) (by omega)
      rw [Int.mul_comm v1] at hh
      omega
    · exact h.1
  have hqv : q * v2 ≤ rest * 4294967296 + u2 := by
    rcases hx with h | h
    · have h1 : q * v2 ≤ 4294967295 * v2 := mul_le_r (by omega) hv2.1
      omega
    · exact h.2
  refine ⟨hqb, ?_⟩
  have e : q * (v1 * 4294967296 + v2) = (high - rest) * 4294967296 + q * v2 := by rw [← he]; grind
  rw [e]; omega
/-- one round of it keeps the quotient great enough -/
theorem trial_step {q rest v1 v2 u2 high : Int} (he : q * v1 + rest = high) (hq : 4294967296 ≤ q ∨ rest * 4294967296 + u2 < q * v2) :
    4294967296 ≤ (q - 1) + 1 ∨ high * 4294967296 + u2 < ((q - 1) + 1) * (v1 * 4294967296 + v2) := by
  rcases hq with h | h
  · left; omega
  · right
    have e : ((q - 1) + 1) * (v1 * 4294967296 + v2) = (high - rest) * 4294967296 + q * v2 := by rw [← he]; grind
    rw [e]; omega
/-- and so it begins -/
theorem trial_start {v1 v2 u2 high : Int} (hv1 : 0 < v1) (hv2 : 0 ≤ v2) (hu2 : u2 < 4294967296) (hh : 0 ≤ high) :
    high * 4294967296 + u2 < (high / v1 + 1) * (v1 * 4294967296 + v2) := by
  have h1 := Int.emod_add_mul_ediv high v1
  have h2 := Int.emod_lt_of_pos high hv1
  have h3 : 0 ≤ high / v1 := Int.ediv_nonneg hh (by omega)
  have h4 : 0 ≤ (high / v1 + 1) * v2 := Int.mul_nonneg (by omega) hv2
  have e : (high / v1 + 1) * (v1 * 4294967296 + v2) = (v1 * (high / v1) + v1) * 4294967296 + (high / v1 + 1) * v2 := by grind
  rw [e]; omega
end Dw

namespace Dw
/-- the add-back: what stands there at the end, and that the trial quotient was one too great -/
theorem addback {p u0 wn q vv a b c x c' r t U : Int} (hinv : a + q * vv = u0 + (c + b) * p) (ht : t = wn - b - c) (hr : r = t + 4294967296) (hr1 : t < 0) (hr0 : 0 ≤ r)
    (ha : a < p) (hx0 : 0 ≤ x) (hx1 : x < p) (hadd : x + c' * p = a + vv) (hc0 : 0 ≤ c') (hc1 : c' ≤ 1) (hU : U = u0 + p * wn) (hok : (q - 1) * vv ≤ U) :
    x + p * ((r + c') % 4294967296) = U - (q - 1) * vv ∧ U < q * vv := by
  have e1 : U - q * vv = a + p * t := by subst hU; subst ht; grind
  have e2 : p * t ≤ p * (-1) := mul_le_l (by omega) (by omega)
  have e3 : (q - 1) * vv = q * vv - vv := by rw [Int.sub_mul, Int.one_mul]
  refine ⟨?_, by omega⟩
  have hk : (r + c') / 4294967296 = 0 ∨ (r + c') / 4294967296 = 1 := by omega
  have hm : (r + c') % 4294967296 = r + c' - 4294967296 * ((r + c') / 4294967296) := by omega
  rcases hk with hk | hk
  · exfalso
    rw [hk] at hm
    have h1 : (r + c') % 4294967296 ≤ 4294967295 := by omega
    have h2 : p * ((r + c') % 4294967296) ≤ p * 4294967295 := mul_le_l h1 (by omega)
    have h3 : p * ((r + c') % 4294967296) = p * t + 4294967296 * p + c' * p := by rw [hm, hr]; grind
    omega
  · rw [hk] at hm
    have h3 : p * ((r + c') % 4294967296) = p * t + c' * p := by rw [hm, hr]; grind
    omega
end Dw
