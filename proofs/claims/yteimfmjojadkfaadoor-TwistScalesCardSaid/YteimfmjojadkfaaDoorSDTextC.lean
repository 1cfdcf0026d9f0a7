/- A text of this claim's own: SD.TextC. -/
import Derived.Test.YteimfmjojadkfaaDoorSdE
import Derived.Test.YteimfmjojadkfaaDoorSDEText
set_option linter.unusedVariables false
set_option linter.unusedSimpArgs false
set_option linter.unusedVariables false
set_option linter.unusedSimpArgs false
set_option maxRecDepth 100000
namespace Go.Proofs.YteimfmjojadkfaaDoor
open Go Go.Dx Dw
/-- the text of a digit -/
def dig1 (n : Nat) : ByteArray := (⟨#[48, 49, 50, 51, 52, 53, 54, 55, 56, 57, 97, 98, 99, 100, 101, 102, 103, 104, 105, 106, 107, 108, 109, 110, 111, 112, 113, 114, 115, 116, 117, 118, 119, 120, 121, 122]⟩ : ByteArray).extract n (n + 1)
/-- the text of an integer of one digit -/
def txt1 (z : Int) : ByteArray := if z = 0 then (⟨#[48]⟩ : ByteArray) else if z < 0 then (⟨#[45]⟩ : ByteArray) ++ dig1 z.natAbs else dig1 z.natAbs
theorem small_spec {n : Int} {V : VH} (h0 : 0 ≤ n) (h1 : n < 10) : CSpec Tryd.prog n_internal_strconv_small #[.int .i64 n] V fun v V' => v = .string (dig1 n.toNat) := by
  refine E_internal_strconv_small n V _ ⟨fun _ => ?_, fun e => ?_⟩
  · rw [w64 (by omega) (by omega)]
    refine ⟨decide_eq_true (by omega), decide_eq_true (by omega), decide_eq_true (by omega), ?_⟩
    rw [show (n + 1).toNat = n.toNat + 1 by omega]
    rfl
  · have := of_decide_eq_false e
    omega
theorem Itoa_spec {n : Int} {V : VH} (h0 : 0 ≤ n) (h1 : n < 10) : CSpec Tryd.prog n_strconv_Itoa #[.int .i64 n] V fun v V' => v = .string (dig1 n.toNat) := by
  refine E_strconv_Itoa n V _ ((E_internal_strconv_Itoa n V (fun v V' => v = .string (dig1 n.toNat)) ((E_internal_strconv_FormatInt n 10 V (fun v V' => v = .string (dig1 n.toNat)) ⟨rfl, decide_eq_true h0, decide_eq_true (by omega), (small_spec h0 h1).mono ?_⟩).mono ?_)).mono ?_)
  · rintro _ _ _ rfl; exact ⟨_, rfl, rfl⟩
  · rintro _ _ _ rfl; exact ⟨_, rfl, rfl⟩
  · rintro _ _ _ rfl; exact ⟨_, rfl, rfl⟩
theorem dig1_size (n : Nat) : (dig1 n).size ≤ 36 := by
  unfold dig1
  rw [ByteArray.size_extract]
  show min (n + 1) 36 - n ≤ 36
  omega
theorem Text_spec {p : R2} {z : Int} {V : VH} (h : IntR V p z) (hz : z.natAbs < 10) : CSpec Tryd.prog n_integer_Int_Text #[p.v] V fun v V' => v = .string (txt1 z) := by
  obtain ⟨h1, h2, h3, h4, h5⟩ := h
  have hv := val_nonneg h2
  have hlen : p.l.length ≤ 1 := by
    apply Decidable.byContradiction
    intro hc
    have := h3.lo h2 (by rintro e; rw [e] at hc; simp at hc)
    have := pw_le (show 1 ≤ p.l.length - 1 by omega)
    have : pw 1 = 4294967296 := rfl
    split at h4 <;> omega
  refine E_integer_Int_Text p V _ fun _ => ⟨rfl, fun e => ?_, fun e => ?_⟩
  · have e : (p.l.length : Int) = 0 := eq_of_beq e
    have e : p.l = [] := List.length_eq_zero_iff.1 (by omega)
    have : z = 0 := by rw [h4, e]; simp [val]
    rw [this]; rfl
  · have e : ¬ (p.l.length : Int) = 0 := by simpa using e
    have hpos : 1 ≤ val p.l := by
      have := h3.lo h2 (by rintro e2; rw [e2] at e; simp at e)
      have := pw_pos (p.l.length - 1)
      omega
    have hz0 : z ≠ 0 := by split at h4 <;> omega
    have hva : val p.l < 10 := by split at h4 <;> omega
    refine ⟨rfl, decide_eq_true (by omega), (short_spec h1 h2 (by omega) (by omega) (by omega)).mono ?_⟩
    rintro _ V1 hV1 ⟨A1, c1, l1, rfl, q1, q2, q3, q4, q5⟩
    rw [Int.ediv_eq_zero_of_lt hv (by omega)] at q4
    have hl1 : l1 = [] := q3.zero q2 q4
    subst hl1
    rw [Int.emod_eq_of_lt hv (by omega)]
    refine ⟨A1, c1, [], val p.l, rfl, ?_⟩
    rw [w64 (by omega) (by omega)]
    refine (Itoa_spec hv hva).mono ?_
    rintro _ V2 hV2 rfl
    refine ⟨_, rfl, rfl, rfl, fun m4 m2a c2a tl2 hm => ⟨rfl, rfl, ?_⟩⟩
    refine E_slices_Reverse_string_string0app1 m2a 9 (dig1 (val p.l).toNat) tl2 c2a _ (VH.put_at _ _ _) _ ?_
    refine ⟨rfl, ?_⟩
    refine E_strings_Join0app1 m2a 9 (dig1 (val p.l).toNat) tl2 c2a _ _ (VH.put_at _ _ _) _ ?_
    refine ⟨_, rfl, fun hn => ⟨decide_eq_true (by have := dig1_size (val p.l).toNat; omega), ?_⟩, fun hn => ?_⟩
    · rw [hn] at h4
      simp only [if_true] at h4
      unfold txt1
      rw [if_neg hz0, if_pos (by omega), show z.natAbs = (val p.l).toNat by omega]
    · rw [hn] at h4
      simp only [Bool.false_eq_true, if_false] at h4
      unfold txt1
      rw [if_neg hz0, if_neg (by omega), show z.natAbs = (val p.l).toNat by omega]
theorem Number_spec {r : R4} {q : Rat} {n : Nat} {V : VH} (h : RatR V r q n) (hn : n < 549755813870) (hd : q.den = 1) (hz : q.num.natAbs < 10) : CSpec Tryd.prog n_rational_Rat_Number #[r.v] V fun v V' => v = .string (txt1 q.num) := by
  refine E_rational_Rat_Number r V _ fun _ => (whole_spec h hn).mono ?_
  rintro _ V1 hV1 rfl
  rw [decide_eq_true hd]
  refine ⟨_, rfl, fun _ => (Text_spec (h.1.mono hV1) hz).mono ?_, fun e => by cases e⟩
  rintro _ V2 hV2 rfl
  exact ⟨_, rfl, rfl⟩
end Go.Proofs.YteimfmjojadkfaaDoor
