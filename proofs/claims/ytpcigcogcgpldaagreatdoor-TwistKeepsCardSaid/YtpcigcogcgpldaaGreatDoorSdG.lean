/- A text of this claim's own: SD.TextN, SD.ReadC, SD.TextQ. -/
import Derived.Test.YtpcigcogcgpldaaGreatDoorSDTextM
import Derived.Test.YtpcigcogcgpldaaGreatDoorSdF
import Derived.Test.YtpcigcogcgpldaaGreatDoorSdE
set_option linter.unusedVariables false
set_option linter.unusedSimpArgs false
set_option linter.unusedVariables false
set_option linter.unusedSimpArgs false
set_option maxRecDepth 100000
namespace Go.Proofs.YtpcigcogcgpldaaGreatDoor
open Go Go.Dx Dw
/-- the text of a rational -/
def ratTxt (q : Rat) : ByteArray := if q.den = 1 then txtZ q.num else (txtZ q.num ++ (⟨#[47]⟩ : ByteArray)) ++ decB q.den
theorem pw_ten (n : Nat) : pw n ≤ ((10 ^ (10 * n) : Nat) : Int) := by
  induction n with
  | zero => simp [pw]
  | succ n ih =>
    have e : 10 ^ (10 * (n + 1)) = 10 ^ (10 * n) * 10000000000 := by rw [Nat.mul_succ, Nat.pow_add]
    rw [e]
    simp only [pw]
    generalize 10 ^ (10 * n) = p at ih ⊢
    omega
theorem dec_len_pw {m n : Nat} (h : (m : Int) < pw n) : (Lib.decDigits m).length ≤ 10 * n + 1 := by
  have := pw_ten n
  have h1 : m < 10 ^ (10 * n) := by omega
  have h2 : m < 10 ^ (10 * n + 1) := Nat.lt_of_lt_of_le h1 (Nat.pow_le_pow_right (by decide) (by omega))
  exact (padr_dec (10 * n) m h2).1
theorem IntR.dec {V : VH} {r : R2} {z : Int} {n : Nat} (h : IntR V r z) (hl : r.l.length ≤ n) : (Lib.decDigits z.natAbs).length ≤ 10 * n + 1 := by
  have h1 := h.abs_lt
  have h2 := pw_le hl
  exact dec_len_pw (by omega)
theorem txtZ_size (z : Int) : (txtZ z).size ≤ (Lib.decDigits z.natAbs).length + 1 := by
  unfold txtZ
  split
  · rw [ByteArray.size_append, size_list (decB _), decB_data]
    show 1 + _ ≤ _; omega
  · rw [size_list, decB_data]; omega
theorem NumberG_spec {r : R4} {q : Rat} {n : Nat} {V : VH} (hT : TabV V) (h : RatR V r q n) (hn : n ≤ 100000000000) : CSpec Tryz.prog n_rational_Rat_Number #[r.v] V fun v V' => v = .string (ratTxt q) := by
  refine E_rational_Rat_Number r V _ fun _ => (whole_spec h (by omega)).mono ?_
  rintro _ V1 hV1 rfl
  obtain ⟨h1, ⟨d, h2, h3⟩, h4, h5⟩ := h
  have z1 := h1.dec h4
  refine ⟨_, rfl, fun e => ?_, fun e => ?_⟩
  · have e : q.den = 1 := by simpa using e
    refine (Text_spec (hT.mono hV1) (h1.mono hV1) (by omega) (by omega)).mono ?_
    rintro _ V2 hV2 rfl
    exact ⟨_, rfl, by unfold ratTxt; rw [if_pos e]⟩
  · have e : q.den ≠ 1 := by simpa using e
    refine (Text_spec (hT.mono hV1) (h1.mono hV1) (by omega) (by omega)).mono ?_
    rintro _ V2 hV2 rfl
    have hd : d = (q.den : Int) := by
      rcases h3 with h3 | h3
      · exact h3
      · exact absurd h3.2 e
    subst hd
    have z2 := h2.dec h5
    have s1 := txtZ_size q.num
    have s2 := txtZ_size (q.den : Int)
    refine ⟨_, rfl, decide_eq_true (by omega), (Text_spec ((hT.mono hV1).mono hV2) ((h2.mono hV1).mono hV2) (by omega) (by omega)).mono ?_⟩
    rintro _ V3 hV3 rfl
    have e2 : txtZ (q.den : Int) = decB q.den := by
      unfold txtZ; rw [if_neg (by omega)]; rfl
    refine ⟨_, rfl, decide_eq_true ?_, ?_⟩
    · rw [ByteArray.size_append]
      show (((txtZ q.num).size + 1 : Nat) : Int) + _ ≤ _
      omega
    · unfold ratTxt; rw [if_neg e, e2]
/-- the text of a digit -/
def dig1 (n : Nat) : ByteArray := (⟨#[48, 49, 50, 51, 52, 53, 54, 55, 56, 57, 97, 98, 99, 100, 101, 102, 103, 104, 105, 106, 107, 108, 109, 110, 111, 112, 113, 114, 115, 116, 117, 118, 119, 120, 121, 122]⟩ : ByteArray).extract n (n + 1)
/-- the text of an integer of one digit -/
def txt1 (z : Int) : ByteArray := if z = 0 then (⟨#[48]⟩ : ByteArray) else if z < 0 then (⟨#[45]⟩ : ByteArray) ++ dig1 z.natAbs else dig1 z.natAbs
theorem decB_dig1 {n : Nat} (h : n < 10) : decB n = dig1 n := by
  unfold decB
  rw [decDigits_lt h]
  match n, h with
  | 0, _ => rfl
  | 1, _ => rfl
  | 2, _ => rfl
  | 3, _ => rfl
  | 4, _ => rfl
  | 5, _ => rfl
  | 6, _ => rfl
  | 7, _ => rfl
  | 8, _ => rfl
  | 9, _ => rfl
theorem txtZ_txt1 {z : Int} (h : z.natAbs < 10) : txtZ z = txt1 z := by
  unfold txtZ txt1
  rw [decB_dig1 h]
  by_cases h0 : z = 0
  · subst h0; rfl
  · rw [if_neg h0]
theorem ratTxt_one {q : Rat} (hd : q.den = 1) (hz : q.num.natAbs < 10) : ratTxt q = txt1 q.num := by
  unfold ratTxt; rw [if_pos hd, txtZ_txt1 hz]
end Go.Proofs.YtpcigcogcgpldaaGreatDoor

set_option linter.unusedVariables false
set_option linter.unusedSimpArgs false
set_option maxRecDepth 100000
namespace Go.Proofs.YtpcigcogcgpldaaGreatDoor
open Go Go.Dx Dw
/-- a text, cut at its first slash -/
def cutI (s : ByteArray) : Int := Lib.indexByte s.data.toList 47
def divT (s : ByteArray) : Bool := decide (0 ≤ cutI s)
def topT (s : ByteArray) : ByteArray := if divT s then s.extract 0 (cutI s).toNat else s
def botT (s : ByteArray) : ByteArray := if divT s then s.extract ((cutI s).toNat + 1) s.size else ByteArray.empty
theorem indexByte_lt (l : List UInt8) (c : UInt8) : Lib.indexByte l c < l.length := by
  induction l with
  | nil => simp [Lib.indexByte]
  | cons b l ih =>
    simp only [Lib.indexByte, List.length_cons]
    split
    · omega
    · split <;> omega
theorem Index_spec {s : ByteArray} {V : VH} : CSpec Tryz.prog n_internal_stringslite_Index #[.string s, .string (⟨#[47]⟩ : ByteArray)] V fun v V' => v = .int .i64 (cutI s) := by
  refine E_internal_stringslite_Index s _ V _ ⟨fun h => (by cases h), fun _ => ⟨fun h => ?_, fun h => ⟨fun _ => ⟨rfl, IndexByte_spec.mono ?_⟩, fun h => (by cases h)⟩⟩⟩
  · have h : ([47] : List UInt8) = s.data.toList := by
      rw [toL, toL] at h; exact eq_of_beq h
    unfold cutI
    rw [← h]; rfl
  · rintro _ V1 hV rfl
    exact ⟨_, rfl, rfl⟩
theorem Cut_spec {s : ByteArray} {V : VH} (hs : s.size ≤ 9223372036854775806) : CSpec Tryz.prog n_strings_Cut #[.string s, .string (⟨#[47]⟩ : ByteArray)] V fun v V' => v = .tuple #[.string (topT s), .string (botT s), .bool (divT s)] := by
  refine E_strings_Cut s _ V _ ((E_internal_stringslite_Cut s _ V (fun v V' => v = .tuple #[.string (topT s), .string (botT s), .bool (divT s)]) (Index_spec.mono ?_)).mono ?_)
  · rintro _ V1 hV rfl
    have hlt := indexByte_lt s.data.toList 47
    rw [← size_list] at hlt
    have hlt : cutI s < s.size := hlt
    have h1 : (((⟨#[47]⟩ : ByteArray).size : Nat) : Int) = 1 := rfl
    refine ⟨_, rfl, fun h => ?_, fun h => ?_⟩
    · have h0 : 0 ≤ cutI s := of_decide_eq_true h
      rw [h1, w64 (by omega) (by omega)]
      refine ⟨h, decide_eq_true (by omega), decide_eq_true (by omega), decide_eq_true (by omega), decide_eq_true (Int.le_refl _), ?_⟩
      have e1 : (cutI s + 1).toNat = (cutI s).toNat + 1 := by omega
      have hd : divT s = true := h
      simp only [topT, botT, hd, if_true, e1, Int.toNat_zero, Int.toNat_natCast]
    · have hd : divT s = false := h
      simp only [topT, botT, hd, Bool.false_eq_true, if_false]; rfl
  · rintro _ V1 hV rfl
    exact ⟨_, _, _, rfl, rfl⟩
theorem topT_size (s : ByteArray) : (topT s).size ≤ s.size := by
  unfold topT; split
  · rw [ByteArray.size_extract]; omega
  · exact Nat.le_refl _
theorem botT_size (s : ByteArray) : (botT s).size ≤ s.size := by
  unfold botT; split
  · rw [ByteArray.size_extract]; omega
  · exact Nat.zero_le _
/-- digits alone, and one at least -/
def dg1 (s : ByteArray) : Bool := decide (s.data.toList ≠ []) && dgT s
theorem digits1_spec {s : ByteArray} {V : VH} (hs : s.size ≤ 9223372036854775807) : CSpec Tryz.prog n_rational_digits #[.string s] V fun v V' => v = .bool (dg1 s) := digits_spec hs
def zerosT (s : ByteArray) : Bool := s.data.toList.all (· == 48)
def errQ (s : ByteArray) (most : Int) : Int :=
  if most < s.size then 5 else if dg1 (magT (topT s)) = false ∨ (divT s = true ∧ dg1 (botT s) = false) then 14
  else if divT s = true ∧ zerosT (botT s) = true then 19 else if errI (topT s) ≠ 0 then 3
  else if divT s = true ∧ (errI (botT s) ≠ 0 ∨ numI (botT s) = 1 ∨ Int.gcd (numI (topT s)) (numI (botT s)) ≠ 1) then 3 else 0
def numQ (s : ByteArray) : Rat := if divT s = true then Rat.divInt (numI (topT s)) (numI (botT s)) else (numI (topT s) : Rat)
def ReadR (s : ByteArray) (most : Int) (v : Value) (V' : VH) : Prop :=
  (errQ s most ≠ 0 ∧ v = .tuple #[zero4.v, .int .i64 (errQ s most)]) ∨ (errQ s most = 0 ∧ ∃ r : R4, v = .tuple #[r.v, .int .i64 0] ∧ RatR V' r (numQ s) s.size)
theorem zero_trim {s : ByteArray} {V : VH} (hs : s.size ≤ 9223372036854775807) : CSpec Tryz.prog n_strings_Trim #[.string s, .string (⟨#[48]⟩ : ByteArray)] V fun v V' => ∃ t, v = .string t ∧ (t.toList == (⟨#[]⟩ : ByteArray).toList) = zerosT s := by
  refine (Trim_spec (cut := ⟨#[48]⟩) hs (by decide) (fun j b hb => ?_)).mono ?_
  · have hm := List.mem_of_getElem? hb
    have : b = 48 := by simpa using hm
    subst this; decide
  · rintro _ V1 hV rfl
    refine ⟨_, rfl, ?_⟩
    rw [toL, toL]
    show ((Lib.trimS s.data.toList [48]) == []) = _
    have e : (s.data.toList.all (([48] : List UInt8).contains ·)) = zerosT s := by
      unfold zerosT; congr 1; funext b; simp; rfl
    have := trimS_nil s.data.toList [48]
    rw [e] at this
    cases hd : zerosT s with
    | true => rw [this.2 hd]; rfl
    | false =>
      have : Lib.trimS s.data.toList [48] ≠ [] := fun e => by rw [this.1 e] at hd; cases hd
      simpa using this
theorem dg1_neg {s : ByteArray} (h : dg1 s = true) : negT s = false := by
  simp only [dg1, dgT, allDg, Bool.and_eq_true] at h
  unfold negT
  cases hl : s.data.toList with
  | nil => rfl
  | cons b l =>
    rw [hl] at h
    simp only [List.all_cons, Bool.and_eq_true] at h
    have := isDg_iff.1 h.2.1
    simp only [List.head?_cons]
    have : b ≠ 45 := by rintro rfl; revert this; decide
    simpa using this
theorem dval_zero {l : List UInt8} (h : allDg l = true) (h0 : dval l = 0) : l.all (· == 48) = true := by
  induction l with
  | nil => rfl
  | cons b l ih =>
    simp only [allDg, List.all_cons, Bool.and_eq_true] at h
    have hb := isDg_iff.1 h.1
    rw [dval_cons] at h0
    have hp := Nat.pow_pos (n := l.length) (show 0 < 10 by decide)
    have h1 : (b.toNat - 48) * 10 ^ l.length = 0 := by omega
    have h2 : b.toNat - 48 = 0 := by
      rcases Nat.mul_eq_zero.1 h1 with h | h
      · exact h
      · omega
    have : b = 48 := UInt8.toNat_inj.1 (by show b.toNat = 48; omega)
    simp only [List.all_cons, this, beq_self_eq_true, Bool.true_and]
    exact ih h.2 (by omega)
theorem numI_bot {s : ByteArray} (h : dg1 s = true) (hz : zerosT s = false) : 0 < numI s := by
  have hn := dg1_neg h
  unfold numI
  rw [hn]
  simp only [Bool.false_eq_true, if_false]
  have hm : magT s = s := by unfold magT; rw [hn]; rfl
  rw [hm]
  simp only [dg1, dgT, Bool.and_eq_true] at h
  have : dval s.data.toList ≠ 0 := fun e => by
    have := dval_zero h.2 e
    unfold zerosT at hz
    rw [hz] at this; cases this
  omega
theorem cmp_eq0 {x y : Int} : cmp x y = 0 ↔ x = y := by
  unfold cmp; constructor
  · intro h; split at h
    · cases h
    · split at h
      · assumption
      · cases h
  · rintro rfl; simp
set_option maxHeartbeats 1000000 in
theorem read_spec {s : ByteArray} {most : Int} {V : VH} (hsz : s.size ≤ 9223372036854775806) (hm : most ≤ 65536) : CSpec Tryz.prog n_rational_read #[.string s, .int .i64 most] V (ReadR s most) := by
  have ht := topT_size s
  have hb := botT_size s
  have hmt := magT_size (topT s)
  refine E_rational_read s most V _ fun _ => (Cut_spec hsz).mono ?_
  rintro _ V1 hV1 rfl
  refine ⟨_, _, _, rfl, fun h => ?_, fun h => ?_⟩
  · have h : most < s.size := of_decide_eq_true h
    have e : errQ s most = 5 := by unfold errQ; rw [if_pos h]
    exact .inl ⟨by rw [e]; decide, by rw [e]; rfl⟩
  have h0 : ¬ most < s.size := of_decide_eq_false h
  refine TrimPrefix_spec.mono ?_
  rintro _ V2 hV2 rfl
  refine ⟨_, rfl, (digits1_spec (by omega)).mono ?_⟩
  rintro _ V3 hV3 rfl
  have e14 : ∀ V' : VH, (dg1 (magT (topT s)) = false ∨ (divT s = true ∧ dg1 (botT s) = false)) → ReadR s most (.tuple #[zero4.v, .int .i64 14]) V' := fun V' hc => by
    have e : errQ s most = 14 := by unfold errQ; rw [if_neg h0, if_pos hc]
    exact .inl ⟨by rw [e]; decide, by rw [e]⟩
  refine ⟨_, rfl, fun h1 => e14 _ (.inl (by simpa using h1)), fun h1 => ?_⟩
  have h1 : dg1 (magT (topT s)) = true := by simpa using h1
  cases hd : divT s with
  | false =>
    refine ⟨fun e => (by cases e), fun _ => ⟨fun e => (by cases e), fun _ => (Parse_spec).mono ?_⟩⟩
    have hn14 : ¬ (dg1 (magT (topT s)) = false ∨ (divT s = true ∧ dg1 (botT s) = false)) := by rw [h1, hd]; simp
    have hn19 : ¬ (divT s = true ∧ zerosT (botT s) = true) := by rw [hd]; simp
    rintro _ V4 hV4 (⟨he, rfl⟩ | ⟨he, i, rfl, hi, hil⟩)
    · refine ⟨zero2, _, rfl, fun _ => ⟨fun _ => ?_, fun e => ?_⟩⟩
      · have e : errQ s most = 3 := by unfold errQ; rw [if_neg h0, if_neg hn14, if_neg hn19, if_pos he]
        exact .inl ⟨by rw [e]; decide, by rw [e]; rfl⟩
      · simp at e; exact absurd e he
    · refine ⟨i, 0, rfl, fun _ => ⟨fun e => (by cases e), fun _ => ⟨fun _ => ?_, fun e => (by cases e)⟩⟩⟩
      have e : errQ s most = 0 := by
        unfold errQ; rw [if_neg h0, if_neg hn14, if_neg hn19, if_neg (by simpa using he), if_neg (by rw [hd]; simp)]
      refine .inr ⟨e, ⟨i, zero2⟩, rfl, ?_⟩
      unfold numQ
      rw [hd]
      simp only [Bool.false_eq_true, if_false]
      exact ⟨hi, ⟨0, IntR.zero _ _ _, .inr ⟨rfl, rfl⟩⟩, by show i.l.length ≤ _; omega, Nat.zero_le _⟩
  | true =>
    refine ⟨fun _ => (digits1_spec (by omega)).mono ?_, fun e => (by cases e)⟩
    rintro _ V4 hV4 rfl
    refine ⟨_, rfl, fun h2 => e14 _ (.inr ⟨hd, by simpa using h2⟩), fun h2 => ⟨fun _ => (zero_trim (by omega)).mono ?_, fun e => (by cases e)⟩⟩
    have h2 : dg1 (botT s) = true := by simpa using h2
    have hn14 : ¬ (dg1 (magT (topT s)) = false ∨ (divT s = true ∧ dg1 (botT s) = false)) := by rw [h1, h2]; simp
    rintro _ V5 hV5 ⟨t, rfl, ez⟩
    refine ⟨t, rfl, fun h3 => ?_, fun h3 => ?_⟩
    · rw [ez] at h3
      have e : errQ s most = 19 := by unfold errQ; rw [if_neg h0, if_neg hn14, if_pos ⟨hd, h3⟩]
      exact .inl ⟨by rw [e]; decide, by rw [e]; rfl⟩
    rw [ez] at h3
    have hn19 : ¬ (divT s = true ∧ zerosT (botT s) = true) := by rw [h3]; simp
    have hpos := numI_bot h2 h3
    refine (Parse_spec).mono ?_
    rintro _ V6 hV6 (⟨he, rfl⟩ | ⟨he, i, rfl, hi, hil⟩)
    · refine ⟨zero2, _, rfl, fun _ => ⟨fun _ => ?_, fun e => ?_⟩⟩
      · have e : errQ s most = 3 := by unfold errQ; rw [if_neg h0, if_neg hn14, if_neg hn19, if_pos he]
        exact .inl ⟨by rw [e]; decide, by rw [e]; rfl⟩
      · simp at e; exact absurd e he
    have e3 : ∀ V' : VH, (errI (botT s) ≠ 0 ∨ numI (botT s) = 1 ∨ Int.gcd (numI (topT s)) (numI (botT s)) ≠ 1) → ReadR s most (.tuple #[zero4.v, .int .i64 3]) V' := fun V' hc => by
      have e : errQ s most = 3 := by unfold errQ; rw [if_neg h0, if_neg hn14, if_neg hn19, if_neg (by simpa using he), if_pos ⟨hd, hc⟩]
      exact .inl ⟨by rw [e]; decide, by rw [e]⟩
    refine ⟨i, 0, rfl, fun _ => ⟨fun e => (by cases e), fun _ => ⟨fun e => (by cases e), fun _ => (Parse_spec).mono ?_⟩⟩⟩
    rintro _ V7 hV7 (⟨he2, rfl⟩ | ⟨he2, j, rfl, hj, hjl⟩)
    · refine ⟨zero2, _, rfl, fun _ => ⟨fun _ => e3 _ (.inl he2), fun e => ?_⟩⟩
      simp at e; exact absurd e he2
    refine ⟨j, 0, rfl, fun _ => ⟨fun e => (by cases e), fun _ => one_spec.mono ?_⟩⟩
    rintro _ V8 hV8 ⟨k, rfl, hk, hkl⟩
    refine ⟨k, rfl, (Compare_spec (hj.mono hV8) hk (by omega) (by omega)).mono ?_⟩
    rintro _ V9 hV9 rfl
    refine ⟨_, rfl, fun h4 => ?_, fun h4 => ?_⟩
    · have h4 : cmp (numI (botT s)) 1 = 0 := eq_of_beq h4
      exact e3 _ (.inr (.inl (cmp_eq0.1 h4)))
    have h4 : numI (botT s) ≠ 1 := fun e => by rw [cmp_eq0.2 e] at h4; cases h4
    have hi9 := ((hi.mono hV7).mono hV8).mono hV9
    have hj9 := (hj.mono hV8).mono hV9
    refine (Gcd_spec hi9 hj9 (by omega) (by omega)).mono ?_
    rintro _ V10 hV10 ⟨g, rfl, hg, hgl⟩
    refine ⟨g, rfl, one_spec.mono ?_⟩
    rintro _ V11 hV11 ⟨k2, rfl, hk2, hk2l⟩
    refine ⟨k2, rfl, (Compare_spec (hg.mono hV11) hk2 (by omega) (by omega)).mono ?_⟩
    rintro _ V12 hV12 rfl
    refine ⟨_, rfl, fun h5 => ?_, fun h5 => ?_⟩
    · refine e3 _ (.inr (.inr fun e => ?_))
      rw [cmp_eq0.2 (by rw [e]; rfl)] at h5; cases h5
    have h5 : ((Int.gcd (numI (topT s)) (numI (botT s)) : Nat) : Int) = 1 := by
      apply cmp_eq0.1
      simpa using h5
    have h5 : Int.gcd (numI (topT s)) (numI (botT s)) = 1 := by omega
    have e : errQ s most = 0 := by
      unfold errQ; rw [if_neg h0, if_neg hn14, if_neg hn19, if_neg (by simpa using he), if_neg]
      rintro ⟨_, hc | hc | hc⟩
      · exact hc he2
      · exact h4 hc
      · exact hc h5
    refine .inr ⟨e, ⟨i, j⟩, rfl, ?_⟩
    have hnum := Rat.num_divInt (numI (topT s)) (numI (botT s))
    have hden := Rat.den_divInt (numI (topT s)) (numI (botT s))
    rw [Int.sign_eq_one_of_pos hpos, Int.one_mul, Int.gcd_comm, h5] at hnum
    rw [if_neg (by omega), Int.gcd_comm, h5] at hden
    unfold numQ
    rw [hd]
    simp only [if_true]
    refine ⟨?_, ⟨numI (botT s), ?_, .inl ?_⟩, by show i.l.length ≤ _; omega, by show j.l.length ≤ _; omega⟩
    · rw [hnum]
      have : numI (topT s) / ((1 : Nat) : Int) = numI (topT s) := by simp
      rw [this]
      exact ((hi9.mono hV10).mono hV11).mono hV12
    · exact ((hj9.mono hV10).mono hV11).mono hV12
    · rw [hden]; simp; omega
end Go.Proofs.YtpcigcogcgpldaaGreatDoor

set_option linter.unusedVariables false
set_option linter.unusedSimpArgs false
set_option maxRecDepth 100000
namespace Go.Proofs.YtpcigcogcgpldaaGreatDoor
open Go Go.Dx Dw
theorem BA.ext' {s t : ByteArray} (h : s.data.toList = t.data.toList) : s = t := by
  cases s; cases t
  congr 1
  exact Array.toList_inj.1 h
theorem app_data (s t : ByteArray) : (s ++ t).data.toList = s.data.toList ++ t.data.toList := by
  rw [ByteArray.data_append, Array.toList_append]
theorem txtZ_data (z : Int) : (txtZ z).data.toList = if z < 0 then 45 :: Lib.decDigits z.natAbs else Lib.decDigits z.natAbs := by
  unfold txtZ
  split
  · rw [app_data]; rfl
  · rfl
/-- what is read is what was written -/
theorem txt_num {s : ByteArray} (h : errI s = 0) : txtZ (numI s) = s := by
  apply BA.ext'
  unfold errI at h
  split at h
  · cases h
  rename_i h1
  split at h
  · cases h
  rename_i h2
  split at h
  · cases h
  rename_i h3
  have hne : (magT s).data.toList ≠ [] := fun e => h2 (.inl e)
  have hd : dgT (magT s) = true := by
    cases hd : dgT (magT s) with
    | true => rfl
    | false => exact absurd (.inr hd) h2
  have hm := magT_data s
  cases hn : negT s with
  | true =>
    have h48 : (magT s).data.toList.head? ≠ some 48 := fun e => h3 ⟨e, .inr hn⟩
    have hp := dval_pos hd hne h48
    have hdec := dec_dval hd hne (.inl h48)
    have hh : s.data.toList.head? = some 45 := by unfold negT at hn; exact eq_of_beq hn
    rw [if_pos hh] at hm
    rw [txtZ_data]
    unfold numI
    rw [hn]
    simp only [if_true]
    rw [if_pos (by omega)]
    have : (-(dval (magT s).data.toList : Int)).natAbs = dval (magT s).data.toList := by omega
    rw [this, hdec, hm]
    cases hl : s.data.toList with
    | nil => rw [hl] at hh; cases hh
    | cons b l => rw [hl] at hh; injection hh with hh; subst hh; rfl
  | false =>
    have hor : (magT s).data.toList.head? ≠ some 48 ∨ (magT s).data.toList.length = 1 := by
      by_cases e : (magT s).data.toList.head? = some 48
      · right
        have h4 : ¬ (1 < (magT s).size) := fun h => h3 ⟨e, .inl h⟩
        rw [size_list] at h4
        have : 0 < (magT s).data.toList.length := List.length_pos_iff.2 hne
        omega
      · exact .inl e
    have hdec := dec_dval hd hne hor
    have hh : ¬ s.data.toList.head? = some 45 := by
      intro e; unfold negT at hn; rw [e] at hn; cases hn
    rw [if_neg hh] at hm
    rw [txtZ_data]
    unfold numI
    rw [hn]
    simp only [Bool.false_eq_true, if_false]
    rw [if_neg (by omega)]
    have : ((dval (magT s).data.toList : Int)).natAbs = dval (magT s).data.toList := by omega
    rw [this, hdec, hm]
theorem dec_no {n : Nat} {b : UInt8} (hb : isDg b = false) : b ∉ Lib.decDigits n := fun h => by
  have := dec_digs n
  unfold allDg at this
  rw [List.all_eq_true] at this
  rw [this b h] at hb; cases hb
theorem head_dec (n : Nat) : (Lib.decDigits n).head? ≠ some 45 := fun e => by
  have : (45 : UInt8) ∈ Lib.decDigits n := List.mem_of_mem_head? (by rw [e]; rfl)
  exact dec_no (by decide) this
theorem txtZ_neg (z : Int) : negT (txtZ z) = decide (z < 0) := by
  unfold negT
  rw [txtZ_data]
  by_cases h : z < 0
  · rw [if_pos h]; simp [h]
  · rw [if_neg h]
    have := head_dec z.natAbs
    simp [h, this]
theorem txtZ_mag (z : Int) : (magT (txtZ z)).data.toList = Lib.decDigits z.natAbs := by
  rw [magT_data, txtZ_data]
  by_cases h : z < 0
  · rw [if_pos h]; rfl
  · rw [if_neg h, if_neg (head_dec _)]
theorem num_txt (z : Int) : numI (txtZ z) = z := by
  unfold numI
  rw [txtZ_neg, txtZ_mag, dval_dec]
  by_cases h : z < 0 <;> simp [h] <;> omega
theorem err_txt {z : Int} (h : (txtZ z).size ≤ 65536) : errI (txtZ z) = 0 := by
  unfold errI
  rw [if_neg (by omega), txtZ_mag, if_neg, if_neg]
  · rintro ⟨h1, h2⟩
    rcases Nat.eq_zero_or_pos z.natAbs with h0 | h0
    · have : z = 0 := by omega
      subst this
      rcases h2 with h2 | h2
      · rw [size_list, txtZ_mag] at h2
        have e : Lib.decDigits (Int.natAbs 0) = [48] := decDigits_lt (by decide)
        rw [e] at h2; revert h2; decide
      · rw [txtZ_neg] at h2; revert h2; decide
    · exact dec_head _ h0 h1
  · rintro (h1 | h1)
    · exact dec_ne _ h1
    · have : dgT (magT (txtZ z)) = true := by unfold dgT; rw [txtZ_mag]; exact dec_digs _
      rw [this] at h1; cases h1
theorem dg1_mag (z : Int) : dg1 (magT (txtZ z)) = true := by
  unfold dg1 dgT
  rw [txtZ_mag, dec_digs]
  simp [dec_ne]
theorem dg1_dec (n : Nat) : dg1 (decB n) = true := by
  unfold dg1 dgT
  rw [decB_data, dec_digs]
  simp [dec_ne]
theorem no47 (z : Int) : (47 : UInt8) ∉ (txtZ z).data.toList := by
  rw [txtZ_data]
  split
  · rw [List.mem_cons]
    rintro (h | h)
    · revert h; decide
    · exact dec_no (by decide) h
  · exact dec_no (by decide)
theorem indexByte_no {l : List UInt8} {c : UInt8} (h : c ∉ l) : Lib.indexByte l c = -1 := by
  induction l with
  | nil => rfl
  | cons b l ih =>
    simp only [List.mem_cons, not_or] at h
    simp only [Lib.indexByte]
    rw [if_neg (by have := h.1; first | exact fun e => this e.symm | simpa using fun e => this e.symm), ih h.2]
    rfl
theorem indexByte_app {l m : List UInt8} {c : UInt8} (h : c ∉ l) : Lib.indexByte (l ++ c :: m) c = l.length := by
  induction l with
  | nil => simp [Lib.indexByte]
  | cons b l ih =>
    simp only [List.mem_cons, not_or] at h
    simp only [List.cons_append, Lib.indexByte]
    rw [if_neg (by have := h.1; first | exact fun e => this e.symm | simpa using fun e => this e.symm), ih h.2]
    simp
theorem indexByte_split : ∀ (l : List UInt8) (c : UInt8), 0 ≤ Lib.indexByte l c → l = l.take (Lib.indexByte l c).toNat ++ c :: l.drop ((Lib.indexByte l c).toNat + 1)
  | [], c, h => by simp [Lib.indexByte] at h
  | b :: l, c, h => by
    simp only [Lib.indexByte] at h ⊢
    split at h
    · rename_i e
      rw [if_pos e]
      have e : b = c := by first | exact e | simpa using e
      subst e; simp
    · rename_i e
      rw [if_neg e]
      split at h
      · rename_i e2; exact absurd h (by decide)
      · rename_i e2
        rw [if_neg e2]
        have e2 : Lib.indexByte l c ≠ -1 := by simpa using e2
        have e4 : -1 ≤ Lib.indexByte l c := by
          have h : 0 ≤ Lib.indexByte l c + 1 := h
          omega
        have ih := indexByte_split l c (by omega)
        have e3 : (Lib.indexByte l c + 1).toNat = (Lib.indexByte l c).toNat + 1 := by omega
        rw [e3]
        simp only [List.take_succ_cons, List.drop_succ_cons, List.cons_append]
        rw [← ih]
theorem cut_glue {s : ByteArray} (h : divT s = true) : (topT s ++ (⟨#[47]⟩ : ByteArray)) ++ botT s = s := by
  apply BA.ext'
  have h0 : 0 ≤ cutI s := of_decide_eq_true h
  rw [app_data, app_data]
  unfold topT botT
  rw [h]
  simp only [if_true]
  rw [Lib.extract_data, Lib.extract_data, size_list]
  have hs := indexByte_split s.data.toList 47 h0
  change _ = s.data.toList.take (cutI s).toNat ++ 47 :: s.data.toList.drop ((cutI s).toNat + 1) at hs
  conv => rhs; rw [hs]
  simp only [Nat.sub_zero, List.drop_zero, List.append_assoc]
  congr 1
  show 47 :: _ = _
  congr 1
  exact List.take_of_length_le (by simp)
theorem errQ_out {s : ByteArray} {most : Int} (h : errQ s most = 0) : ¬ most < s.size ∧ errI (topT s) = 0 ∧ (divT s = true → dg1 (botT s) = true ∧ zerosT (botT s) = false ∧ errI (botT s) = 0 ∧ numI (botT s) ≠ 1 ∧ Int.gcd (numI (topT s)) (numI (botT s)) = 1) := by
  unfold errQ at h
  split at h
  · cases h
  rename_i h1
  split at h
  · cases h
  rename_i h2
  split at h
  · cases h
  rename_i h3
  split at h
  · cases h
  rename_i h4
  split at h
  · cases h
  rename_i h5
  refine ⟨h1, by omega, fun hd => ⟨?_, ?_, ?_, ?_, ?_⟩⟩
  · cases e : dg1 (botT s) with
    | true => rfl
    | false => exact absurd (.inr ⟨hd, e⟩) h2
  · cases e : zerosT (botT s) with
    | false => rfl
    | true => exact absurd ⟨hd, e⟩ h3
  · apply Decidable.byContradiction; intro e; exact h5 ⟨hd, .inl e⟩
  · intro e; exact h5 ⟨hd, .inr (.inl e)⟩
  · apply Decidable.byContradiction; intro e; exact h5 ⟨hd, .inr (.inr e)⟩
theorem topT_no {s : ByteArray} (h : divT s = false) : topT s = s := by unfold topT; rw [h]; rfl
/-- a number that was read is written as it stood -/
theorem rat_txt {s : ByteArray} {most : Int} (h : errQ s most = 0) : ratTxt (numQ s) = s := by
  obtain ⟨h1, h2, h3⟩ := errQ_out h
  have ht := txt_num h2
  cases hd : divT s with
  | false =>
    unfold numQ
    rw [hd]
    simp only [Bool.false_eq_true, if_false]
    rw [topT_no hd] at ht ⊢
    unfold ratTxt
    rw [if_pos (by rfl)]
    exact ht
  | true =>
    obtain ⟨g1, g2, g3, g4, g5⟩ := h3 hd
    have hb := txt_num g3
    have hpos := numI_bot g1 g2
    have hnum := Rat.num_divInt (numI (topT s)) (numI (botT s))
    have hden := Rat.den_divInt (numI (topT s)) (numI (botT s))
    rw [Int.sign_eq_one_of_pos hpos, Int.one_mul, Int.gcd_comm, g5] at hnum
    rw [if_neg (by omega), Int.gcd_comm, g5] at hden
    have hnum : (Rat.divInt (numI (topT s)) (numI (botT s))).num = numI (topT s) := by rw [hnum]; simp
    have hden : (Rat.divInt (numI (topT s)) (numI (botT s))).den = (numI (botT s)).natAbs := by rw [hden]; simp
    unfold numQ
    rw [hd]
    simp only [if_true]
    unfold ratTxt
    rw [if_neg (by rw [hden]; omega), hnum, hden, ht]
    have e : decB (numI (botT s)).natAbs = botT s := by
      rw [← hb]; conv => rhs; unfold txtZ
      rw [if_neg (by omega), hb]
    rw [e]
    exact cut_glue hd
theorem cut_ratTxt (q : Rat) : divT (ratTxt q) = decide (q.den ≠ 1) ∧ topT (ratTxt q) = txtZ q.num ∧ (q.den ≠ 1 → botT (ratTxt q) = decB q.den) := by
  by_cases h : q.den = 1
  · have e : ratTxt q = txtZ q.num := by unfold ratTxt; rw [if_pos h]
    have hc : cutI (txtZ q.num) = -1 := indexByte_no (no47 _)
    have hd : divT (txtZ q.num) = false := by unfold divT; rw [hc]; rfl
    rw [e]
    exact ⟨by rw [hd]; simp [h], topT_no hd, fun g => absurd h g⟩
  · have e : ratTxt q = (txtZ q.num ++ (⟨#[47]⟩ : ByteArray)) ++ decB q.den := by unfold ratTxt; rw [if_neg h]
    have el : (ratTxt q).data.toList = (txtZ q.num).data.toList ++ 47 :: Lib.decDigits q.den := by
      rw [e, app_data, app_data, decB_data]; simp
    have hc : cutI (ratTxt q) = (txtZ q.num).data.toList.length := by
      unfold cutI; rw [el]; exact indexByte_app (no47 _)
    have hd : divT (ratTxt q) = true := by unfold divT; rw [hc]; exact decide_eq_true (by omega)
    refine ⟨by rw [hd]; simp [h], ?_, fun _ => ?_⟩
    · apply BA.ext'
      unfold topT
      rw [hd]
      simp only [if_true]
      rw [Lib.extract_data, hc, el]
      simp
    · apply BA.ext'
      unfold botT
      rw [hd]
      simp only [if_true]
      rw [Lib.extract_data, hc, size_list, el, decB_data]
      have : ((((txtZ q.num).data.toList.length : Nat) : Int)).toNat = (txtZ q.num).data.toList.length := by omega
      rw [this, List.take_of_length_le (by simp)]
      rw [List.drop_append, List.drop_eq_nil_of_le (by omega)]
      simp [Nat.add_sub_cancel_left]
end Go.Proofs.YtpcigcogcgpldaaGreatDoor
