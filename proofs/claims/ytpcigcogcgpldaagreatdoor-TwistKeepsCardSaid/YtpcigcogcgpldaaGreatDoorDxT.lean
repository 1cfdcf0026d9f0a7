/- A text of this claim's own: Dx.Txt, Dx.Txt2. -/
import Derived.Test.YtpcigcogcgpldaaGreatDoorDxQ
import Derived.Lib.ItoaNum
import Derived.Lib.ParseIntB
import Derived.Shelf.GgClosure.StringsIndexFunc
import Derived.Lib.Repeat
import Derived.Lib.RowBridge
import Derived.Laws.IdiomCopy
import Derived.Laws.Rows
set_option linter.unusedVariables false
set_option linter.unusedSimpArgs false
set_option linter.unusedVariables false
set_option linter.unusedSimpArgs false
namespace Go.Dx
open Go.Lib
/-! decimal numerals, as lists of bytes -/
def isDg (b : UInt8) : Bool := decide (48 ≤ b.toNat) && decide (b.toNat ≤ 57)
def allDg (l : List UInt8) : Bool := l.all isDg
def dval (l : List UInt8) : Nat := l.foldl (fun a b => 10 * a + (b.toNat - 48)) 0
theorem dval_from (l : List UInt8) : ∀ a : Nat, l.foldl (fun a b => 10 * a + (b.toNat - 48)) a = a * 10 ^ l.length + dval l := by
  induction l with
  | nil => intro a; simp [dval]
  | cons b l ih =>
    intro a
    have h1 : dval (b :: l) = l.foldl (fun a b => 10 * a + (b.toNat - 48)) (10 * 0 + (b.toNat - 48)) := rfl
    rw [List.foldl_cons, ih, h1, ih, List.length_cons, Nat.pow_succ]
    generalize 10 ^ l.length = p
    grind
theorem dval_append (l m : List UInt8) : dval (l ++ m) = dval l * 10 ^ m.length + dval m := by
  rw [dval, List.foldl_append, dval_from]; rfl
theorem dval_cons (b : UInt8) (l : List UInt8) : dval (b :: l) = (b.toNat - 48) * 10 ^ l.length + dval l := by
  have := dval_append [b] l
  simpa [dval] using this
theorem isDg_iff {b : UInt8} : isDg b = true ↔ 48 ≤ b.toNat ∧ b.toNat ≤ 57 := by simp [isDg]
theorem dval_lt {l : List UInt8} (h : allDg l = true) : dval l < 10 ^ l.length := by
  induction l with
  | nil => simp [dval]
  | cons b l ih =>
    simp only [allDg, List.all_cons, Bool.and_eq_true] at h
    have := isDg_iff.1 h.1
    have := ih h.2
    rw [dval_cons, List.length_cons, Nat.pow_succ]
    have h3 : (b.toNat - 48) * 10 ^ l.length ≤ 9 * 10 ^ l.length := Nat.mul_le_mul_right _ (by omega)
    omega
theorem decDigits_lt {u : Nat} (h : u < 10) : decDigits u = [UInt8.ofNat (48 + u)] := by rw [decDigits, dif_pos h]
theorem decDigits_ge {u : Nat} (h : ¬ u < 10) : decDigits u = decDigits (u / 10) ++ [UInt8.ofNat (48 + u % 10)] := by rw [decDigits, dif_neg h]
theorem ofNat_dig {d : Nat} (h : d < 10) : (UInt8.ofNat (48 + d)).toNat = 48 + d := by
  simp; omega
theorem dval_dec (n : Nat) : dval (decDigits n) = n := by
  induction n using Nat.strongRecOn with
  | ind n ih =>
    by_cases h : n < 10
    · rw [decDigits_lt h, dval_cons, ofNat_dig h]; simp [dval]
    · rw [decDigits_ge h, dval_append, ih (n / 10) (by omega), dval_cons, ofNat_dig (by omega)]
      simp [dval]; omega
theorem dec_digs (n : Nat) : allDg (decDigits n) = true := by
  induction n using Nat.strongRecOn with
  | ind n ih =>
    by_cases h : n < 10
    · rw [decDigits_lt h]; simp only [allDg, List.all_cons, List.all_nil, Bool.and_true]
      exact isDg_iff.2 (by rw [ofNat_dig h]; omega)
    · have := ih (n / 10) (by omega)
      rw [decDigits_ge h]
      simp only [allDg, List.all_append, List.all_cons, List.all_nil, Bool.and_true, Bool.and_eq_true] at this ⊢
      exact ⟨this, isDg_iff.2 (by rw [ofNat_dig (by omega)]; omega)⟩
theorem dec_ne (n : Nat) : decDigits n ≠ [] := by
  by_cases h : n < 10
  · rw [decDigits_lt h]; simp
  · rw [decDigits_ge h]; simp
theorem dec_head (n : Nat) (hn : 0 < n) : (decDigits n).head? ≠ some 48 := by
  induction n using Nat.strongRecOn with
  | ind n ih =>
    by_cases h : n < 10
    · rw [decDigits_lt h]
      simp only [List.head?_cons, ne_eq, Option.some.injEq]
      intro e
      have := congrArg UInt8.toNat e
      rw [ofNat_dig h] at this
      simp at this; omega
    · rw [decDigits_ge h]
      have := ih (n / 10) (by omega) (by omega)
      cases hd : decDigits (n / 10) with
      | nil => exact absurd hd (dec_ne _)
      | cons b l => rw [hd] at this; simpa using this
theorem u8_dig {b : UInt8} (h : isDg b = true) : UInt8.ofNat (48 + (b.toNat - 48)) = b := by
  have := isDg_iff.1 h
  rw [show 48 + (b.toNat - 48) = b.toNat by omega]
  exact UInt8.ofNat_toNat
theorem dval_pos {l : List UInt8} (h : allDg l = true) (hne : l ≠ []) (hh : l.head? ≠ some 48) : 0 < dval l := by
  cases l with
  | nil => exact absurd rfl hne
  | cons b l =>
    simp only [allDg, List.all_cons, Bool.and_eq_true] at h
    have hb := isDg_iff.1 h.1
    have : b.toNat ≠ 48 := by
      intro e
      apply hh
      simp only [List.head?_cons, Option.some.injEq]
      exact UInt8.toNat_inj.1 (by simpa using e)
    rw [dval_cons]
    have : 1 * 10 ^ l.length ≤ (b.toNat - 48) * 10 ^ l.length := Nat.mul_le_mul_right _ (by omega)
    have := Nat.pow_pos (n := l.length) (show 0 < 10 by decide)
    omega
/-- the numeral of a numeral's value -/
theorem dec_dval' (k : Nat) : ∀ l : List UInt8, l.length = k → allDg l = true → l ≠ [] → l.head? ≠ some 48 → decDigits (dval l) = l := by
  induction k with
  | zero => intro l hl _ hne; exact absurd (List.eq_nil_of_length_eq_zero hl) hne
  | succ k ih =>
    intro l hl h hne hh
    have e : l = l.dropLast ++ [l.getLast hne] := (List.dropLast_concat_getLast hne).symm
    generalize hm : l.dropLast = m at e
    generalize l.getLast hne = b at e
    subst e
    simp only [allDg, List.all_append, List.all_cons, List.all_nil, Bool.and_true, Bool.and_eq_true] at h
    have hb := isDg_iff.1 h.2
    cases m with
    | nil =>
      simp only [List.nil_append] at hh ⊢
      have : dval [b] = b.toNat - 48 := by simp [dval]
      rw [this, decDigits_lt (by omega), u8_dig h.2]
    | cons c m =>
      have hh' : (c :: m).head? ≠ some 48 := by simpa using hh
      have hp := dval_pos (l := c :: m) h.1 (by simp) hh'
      have hv : dval (c :: m ++ [b]) = dval (c :: m) * 10 + (b.toNat - 48) := by rw [dval_append]; simp [dval_cons, dval]
      have hi := ih (c :: m) (by simp at hl ⊢; omega) h.1 (by simp) hh'
      rw [hv, decDigits_ge (by omega)]
      rw [show (dval (c :: m) * 10 + (b.toNat - 48)) / 10 = dval (c :: m) by omega, show (dval (c :: m) * 10 + (b.toNat - 48)) % 10 = b.toNat - 48 by omega, hi, u8_dig h.2]
theorem dec_dval {l : List UInt8} (h : allDg l = true) (hne : l ≠ []) (hh : l.head? ≠ some 48 ∨ l.length = 1) : decDigits (dval l) = l := by
  rcases hh with hh | hh
  · exact dec_dval' _ l rfl h hne hh
  · match l, hh with
    | [b], _ =>
      simp only [allDg, List.all_cons, List.all_nil, Bool.and_true] at h
      have hb := isDg_iff.1 h
      have : dval [b] = b.toNat - 48 := by simp [dval]
      rw [this, decDigits_lt (by omega), u8_dig h]
/-- what ParseUint makes of a short numeral -/
theorem parseUintM_dval (M : Nat) : ∀ (l : List UInt8) (acc : Nat), allDg l = true → acc * 10 ^ l.length + dval l ≤ M → M < 10000000000000000000 → parseUintM M acc l = .ok (acc * 10 ^ l.length + dval l)
  | [], acc, _, h, _ => by simp [parseUintM, dval]
  | b :: l, acc, hd, h, hM => by
    simp only [allDg, List.all_cons, Bool.and_eq_true] at hd
    have hb := isDg_iff.1 hd.1
    have hp := Nat.pow_pos (n := l.length) (show 0 < 10 by decide)
    have e : acc * 10 ^ (b :: l).length + dval (b :: l) = (acc * 10 + (b.toNat - 48)) * 10 ^ l.length + dval l := by
      rw [List.length_cons, Nat.pow_succ, dval_cons]
      generalize 10 ^ l.length = p
      grind
    rw [e] at h ⊢
    have h1 : acc * 10 + (b.toNat - 48) ≤ M := by
      have : (acc * 10 + (b.toNat - 48)) * 1 ≤ (acc * 10 + (b.toNat - 48)) * 10 ^ l.length := Nat.mul_le_mul_left _ hp
      omega
    unfold parseUintM
    rw [if_pos hb, if_neg (by omega), if_neg (by omega)]
    exact parseUintM_dval M l _ hd.2 h hM
theorem parseUintB_dval {l : List UInt8} (h : allDg l = true) (hne : l ≠ []) (hl : l.length ≤ 9) : parseUintB 32 l = .ok (dval l) := by
  have h1 := dval_lt h
  have h2 : 10 ^ l.length ≤ 10 ^ 9 := Nat.pow_le_pow_right (by decide) hl
  unfold parseUintB
  rw [if_neg hne]
  have := parseUintM_dval (2 ^ 32 - 1) l 0 h (by omega) (by decide)
  simpa using this

/-! runes that are no digits -/
def nonDg (r : Nat) : Bool := decide (r < 48) || decide (57 < r)
theorem get!_data (s : ByteArray) (i : Nat) (h : i < s.size) : s.get! i = s.data.toList[i]'(by rw [Array.length_toList]; exact h) := by
  have : s.get! i = s.data[i]'h := by
    simp only [ByteArray.get!]
    exact getElem!_pos s.data i h
  rw [this]; simp
theorem decode_big (s : ByteArray) (i : Nat) (h : 128 ≤ (s.get! i).toNat) : nonDg (Utf8.decode s i).1 = true := by
  unfold Utf8.decode
  simp only [Nat.add_zero]
  rw [if_neg (by omega)]
  have big : ∀ r : Nat, 128 ≤ r → nonDg r = true := fun r hr => by simp [nonDg]; omega
  have err : nonDg Utf8.runeError = true := by decide
  split
  · split
    · exact big _ (by assumption)
    · exact err
  · split
    · split
      · rename_i hc
        simp only [Bool.and_eq_true, decide_eq_true_eq] at hc
        exact big _ (by omega)
      · exact err
    · split
      · split
        · rename_i hc
          simp only [Bool.and_eq_true, decide_eq_true_eq] at hc
          exact big _ (by omega)
        · exact err
      · exact err
theorem decode_small (s : ByteArray) (i : Nat) (h : (s.get! i).toNat < 128) : Utf8.decode s i = ((s.get! i).toNat, 1) := by
  unfold Utf8.decode
  simp only [Nat.add_zero]
  rw [if_pos h]
theorem idxFrom_digits (s : ByteArray) : ∀ (f pos : Nat), s.size ≤ pos + f → (idxFuncFrom nonDg true s f pos = -1 ↔ allDg (s.data.toList.drop pos) = true)
  | 0, pos, h => by
    have : s.data.toList.drop pos = [] := List.drop_eq_nil_of_le (by rw [← Lib.size_eq]; omega)
    rw [this]; simp [idxFuncFrom, allDg]
  | f + 1, pos, h => by
    unfold idxFuncFrom
    by_cases hp : pos < s.size
    · rw [if_pos hp]
      have hl : pos < s.data.toList.length := by rw [← Lib.size_eq]; exact hp
      have hb := get!_data s pos hp
      rw [List.drop_eq_getElem_cons hl]
      have hcons : allDg (s.data.toList[pos] :: s.data.toList.drop (pos + 1)) = (isDg s.data.toList[pos] && allDg (s.data.toList.drop (pos + 1))) := by simp [allDg]
      rw [hcons, ← hb]
      by_cases h128 : (s.get! pos).toNat < 128
      · rw [decode_small s pos h128]
        have ih := idxFrom_digits s f (pos + 1) (by omega)
        by_cases hd : isDg (s.get! pos) = true
        · have := isDg_iff.1 hd
          have hn : nonDg (s.get! pos).toNat = false := by simp [nonDg]; omega
          rw [if_neg (by rw [hn]; simp), hd, Bool.true_and]
          exact ih
        · have hn : nonDg (s.get! pos).toNat = true := by
            have : ¬ (48 ≤ (s.get! pos).toNat ∧ (s.get! pos).toNat ≤ 57) := fun h => hd (isDg_iff.2 h)
            simp [nonDg]; omega
          rw [if_pos hn]
          simp only [hd, Bool.false_and]
          constructor
          · intro h; omega
          · intro h; cases h
      · have hn := decode_big s pos (by omega)
        rw [if_pos hn]
        have hd : isDg (s.get! pos) = false := by
          cases hc : isDg (s.get! pos) with
          | false => rfl
          | true => have := isDg_iff.1 hc; omega
        simp only [hd, Bool.false_and]
        constructor
        · intro h; omega
        · intro h; cases h
    · rw [if_neg hp]
      have : s.data.toList.drop pos = [] := List.drop_eq_nil_of_le (by rw [← Lib.size_eq]; omega)
      rw [this]; simp [allDg]
theorem contains_digits (s : ByteArray) : decide (0 ≤ idxFunc nonDg true s) = !allDg s.data.toList := by
  have h := idxFrom_digits s s.size 0 (by omega)
  have hr := idxFunc_range nonDg true s
  rw [List.drop_zero] at h
  change idxFunc nonDg true s = -1 ↔ _ at h
  cases ha : allDg s.data.toList with
  | true => have := h.2 ha; rw [this]; rfl
  | false =>
    have : idxFunc nonDg true s ≠ -1 := fun e => by rw [h.1 e] at ha; cases ha
    simp; omega
end Go.Dx

set_option linter.unusedVariables false
set_option linter.unusedSimpArgs false
namespace Go.Dx
open Go.Lib
/-! numerals in groups -/
def padr : Nat → Nat → List UInt8
  | 0, _ => []
  | k + 1, m => padr k (m / 10) ++ [UInt8.ofNat (48 + m % 10)]
theorem padr_zero (k : Nat) : padr k 0 = List.replicate k 48 := by
  induction k with
  | zero => rfl
  | succ k ih => rw [padr, Nat.zero_div, ih, List.replicate_succ']; rfl
theorem dec_split (k : Nat) : ∀ n : Nat, 10 ^ k ≤ n → decDigits n = decDigits (n / 10 ^ k) ++ padr k n := by
  induction k with
  | zero => intro n _; simp [padr]
  | succ k ih =>
    intro n hn
    have h10 : ¬ n < 10 := by
      have : 10 ^ 1 ≤ 10 ^ (k + 1) := Nat.pow_le_pow_right (by decide) (by omega)
      omega
    have hk : 10 ^ k ≤ n / 10 := by
      rw [Nat.le_div_iff_mul_le (by decide)]
      rw [Nat.pow_succ] at hn; exact hn
    rw [decDigits_ge h10, ih (n / 10) hk, padr, Nat.div_div_eq_div_mul, Nat.pow_succ, Nat.mul_comm 10, List.append_assoc]
theorem padr_mod (k : Nat) : ∀ n : Nat, padr k n = padr k (n % 10 ^ k) := by
  induction k with
  | zero => intro n; rfl
  | succ k ih =>
    intro n
    rw [padr, padr, ih (n / 10), ih (n % 10 ^ (k + 1) / 10)]
    have e1 : n % 10 ^ (k + 1) / 10 = n / 10 % 10 ^ k := by
      rw [Nat.pow_succ, Nat.mul_comm]
      exact Nat.mod_mul_right_div_self n 10 (10 ^ k)
    have e2 : n % 10 ^ (k + 1) % 10 = n % 10 := by
      rw [Nat.pow_succ, Nat.mul_comm]
      exact Nat.mod_mul_right_mod n 10 (10 ^ k)
    rw [e1, e2, Nat.mod_mod]
theorem padr_dec (k : Nat) : ∀ m : Nat, m < 10 ^ (k + 1) → (decDigits m).length ≤ k + 1 ∧ padr (k + 1) m = List.replicate (k + 1 - (decDigits m).length) 48 ++ decDigits m := by
  induction k with
  | zero =>
    intro m hm
    have hm : m < 10 := by simpa using hm
    rw [decDigits_lt hm]
    refine ⟨by simp, ?_⟩
    simp [padr, Nat.mod_eq_of_lt hm]
  | succ k ih =>
    intro m hm
    by_cases h : m < 10
    · rw [decDigits_lt h, padr, Nat.div_eq_of_lt h, padr_zero, Nat.mod_eq_of_lt h]
      refine ⟨by simp, ?_⟩
      simp
    · have h1 : m / 10 < 10 ^ (k + 1) := by
        rw [Nat.div_lt_iff_lt_mul (by decide)]
        rw [Nat.pow_succ] at hm; exact hm
      obtain ⟨q1, q2⟩ := ih (m / 10) h1
      rw [decDigits_ge h]
      refine ⟨by simp; omega, ?_⟩
      rw [padr, q2, ← List.append_assoc]
      congr 2
      simp
theorem repeat48 (k : Nat) : repeatL [48] k = List.replicate k 48 := by
  induction k with
  | zero => rfl
  | succ k ih => simp [repeatL, ih, List.replicate_succ]
/-- one more group of nine -/
theorem dec_group {n : Nat} (h : 1000000000 ≤ n) : decDigits n = decDigits (n / 1000000000) ++ (repeatL [48] (9 - (decDigits (n % 1000000000)).length) ++ decDigits (n % 1000000000)) ∧ (decDigits (n % 1000000000)).length ≤ 9 := by
  have h1 := dec_split 9 n h
  have h2 := padr_dec 8 (n % 10 ^ 9) (Nat.mod_lt _ (by decide))
  rw [padr_mod 9 n] at h1
  rw [repeat48]
  exact ⟨by rw [h1, h2.2], h2.1⟩

/-! a row, written over -/
theorem setCells_row (b : Nat) (T : TypeId) : ∀ (vs : List Value) (o : Nat) (w : World) (cs : Array Value), w.heap[b]? = some (.cells cs T (0, 0)) → o + vs.length ≤ cs.size →
    (w.setCells b o vs).heap[b]? = some (.cells (cs.toList.take o ++ (vs ++ cs.toList.drop (o + vs.length))).toArray T (0, 0))
  | [], o, w, cs, h, _ => by simpa [World.setCells] using h
  | v :: vs, o, w, cs, h, hl => by
    simp only [List.length_cons] at hl
    have h1 := heap_setCell_same w b o cs T v h
    have h2 := setCells_row b T vs (o + 1) (w.setCell ⟨b, o, none⟩ v) (cs.setIfInBounds o v) h1 (by simp; omega)
    simp only [World.setCells]
    rw [h2]
    congr 2
    have ho : o < cs.toList.length := by rw [Array.length_toList]; omega
    rw [Array.toList_setIfInBounds, List.length_cons]
    have e1 : (cs.toList.set o v).take (o + 1) = cs.toList.take o ++ [v] := by
      rw [List.take_succ_eq_append_getElem (by simpa using ho), List.take_set, List.set_eq_of_length_le (by simp; omega)]
      simp
    have e2 : (cs.toList.set o v).drop (o + 1 + vs.length) = cs.toList.drop (o + (vs.length + 1)) := by
      rw [List.drop_set_of_lt (by omega)]
      congr 1; omega
    rw [e1, e2]
    simp
end Go.Dx
