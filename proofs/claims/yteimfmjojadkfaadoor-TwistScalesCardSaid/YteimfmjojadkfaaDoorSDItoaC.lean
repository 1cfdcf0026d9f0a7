/- A text of this claim's own: SD.ItoaC. -/
import Derived.Test.YteimfmjojadkfaaDoorSDTextC
import Derived.Test.YteimfmjojadkfaaDoorSDClone
import Derived.Shelf.Strconv.Itoa4
set_option linter.unusedVariables false
set_option linter.unusedSimpArgs false
set_option linter.unusedVariables false
set_option linter.unusedSimpArgs false
set_option maxRecDepth 100000
namespace Go.Proofs.YteimfmjojadkfaaDoor
open Go Go.Dx Dw Go.Shelf Go.RowKit
/-- where the shelf's functions, types and constants stand in this program -/
def ren243 : Ren where
  f := fun x => match x with
    | 243 => 83 | 246 => 92 | 283 => 98 | 284 => 99 | 285 => 100 | 286 => 101 | 129 => 105 | 317 => 104 | 318 => 106 | 319 => 107 | 320 => 108 | 337 => 109 | 338 => 110
    | n => n
  t := fun x => match x with
    | 3 => 3 | 9 => 9 | 2 => 2 | 4 => 4 | 171 => 141 | 0 => 0 | 53 => 101 | 37 => 127 | 5 => 5 | 173 => 144 | 212 => 151 | 51 => 103 | 20 => 20 | 213 => 152 | 46 => 104 | 232 => 155 | 233 => 156
    | n => n
  g := fun x => match x with
    | 17 => 0 | 18 => 2 | 19 => 3
    | n => n
theorem lays243 : LaysM.n243 Tryd.prog ren243 :=
  { mixed := by kernel_rfl, f129 := by kernel_rfl, f243 := by kernel_rfl, f246 := by kernel_rfl, f283 := by kernel_rfl, f284 := by kernel_rfl, f285 := by kernel_rfl, f286 := by kernel_rfl, f317 := by kernel_rfl, f318 := by kernel_rfl, f319 := by kernel_rfl, f320 := by kernel_rfl, f337 := by kernel_rfl, f338 := by kernel_rfl,
    t0 := Tryd.underlying0, a0 := Tryd.isAgg0, z0 := Tryd.sizeOf0, v0 := Tryd.zeroValue0, t2 := Tryd.underlying2, a2 := Tryd.isAgg2, z2 := Tryd.sizeOf2, v2 := Tryd.zeroValue2, t3 := Tryd.underlying3, a3 := Tryd.isAgg3, z3 := Tryd.sizeOf3, v3 := Tryd.zeroValue3,
    t4 := Tryd.underlying4, a4 := Tryd.isAgg4, z4 := Tryd.sizeOf4, v4 := Tryd.zeroValue4, t5 := Tryd.underlying5, a5 := Tryd.isAgg5, z5 := Tryd.sizeOf5, v5 := Tryd.zeroValue5, t9 := Tryd.underlying9, a9 := Tryd.isAgg9, z9 := Tryd.sizeOf9, v9 := Tryd.zeroValue9,
    t20 := Tryd.underlying20, a20 := Tryd.isAgg20, z20 := Tryd.sizeOf20, v20 := Tryd.zeroValue20, t37 := Tryd.underlying127, a37 := Tryd.isAgg127, z37 := Tryd.sizeOf127, v37 := Tryd.zeroValue127, t46 := Tryd.underlying104, a46 := Tryd.isAgg104, z46 := Tryd.sizeOf104, v46 := Tryd.zeroValue104,
    t51 := Tryd.underlying103, a51 := Tryd.isAgg103, z51 := Tryd.sizeOf103, v51 := Tryd.zeroValue103, t53 := Tryd.underlying101, a53 := Tryd.isAgg101, z53 := Tryd.sizeOf101, v53 := Tryd.zeroValue101, t171 := Tryd.underlying141, a171 := Tryd.isAgg141, z171 := Tryd.sizeOf141, v171 := Tryd.zeroValue141,
    t173 := Tryd.underlying144, a173 := Tryd.isAgg144, z173 := Tryd.sizeOf144, v173 := Tryd.zeroValue144, t212 := Tryd.underlying151, a212 := Tryd.isAgg151, z212 := Tryd.sizeOf151, v212 := Tryd.zeroValue151, t213 := Tryd.underlying152, a213 := Tryd.isAgg152, z213 := Tryd.sizeOf152,
    t232 := Tryd.underlying155, a232 := Tryd.isAgg155, z232 := Tryd.sizeOf155, v232 := Tryd.zeroValue155, t233 := Tryd.underlying156, a233 := Tryd.isAgg156, z233 := Tryd.sizeOf156, v233 := Tryd.zeroValue156,
    g17 := by kernel_rfl, g18 := by kernel_rfl, g19 := by kernel_rfl, i0 := by kernel_rfl, i2 := by kernel_rfl, i3 := by kernel_rfl, i4 := by kernel_rfl, i5 := by kernel_rfl, i9 := by kernel_rfl, i20 := by kernel_rfl, i37 := by kernel_rfl, i46 := by kernel_rfl, i51 := by kernel_rfl, i53 := by kernel_rfl,
    i171 := by kernel_rfl, i173 := by kernel_rfl, i212 := by kernel_rfl, i232 := by kernel_rfl, i233 := by kernel_rfl, m17 := by kernel_rfl, m18 := by kernel_rfl, m19 := by kernel_rfl }
/-- the table of the powers of ten stands -/
def TabV (V : VH) : Prop := ∃ T fr, V.f 0 = some (.cells (Lib.pow10Tab.map (Value.int .u64)).toArray T fr)
theorem TabV.mono {V V' : VH} (h : TabV V) (hl : V.le V') : TabV V' := by
  obtain ⟨T, fr, h⟩ := h
  exact ⟨T, fr, hl _ _ h⟩
theorem tab_named : Tryd.prog.globalNamed "internal/strconv.uint64pow10" = some 0 := by kernel_rfl
theorem TabV.tab {V : VH} {w : World} (h : TabV V) (hw : V.inW w) : Lib.TabIs Tryd.prog w "internal/strconv.uint64pow10" .u64 Lib.pow10Tab := by
  obtain ⟨T, fr, h⟩ := h
  unfold Lib.TabIs World.var?
  rw [tab_named]
  simp only [Option.bind_some]
  rw [hw _ _ h]
/-- the numeral of a number -/
def decB (n : Nat) : ByteArray := ⟨(Lib.decDigits n).toArray⟩
theorem nDig_le (u : Nat) : Lib.nDigits u ≤ u + 1 := by
  induction u using Nat.strongRecOn with
  | ind u ih =>
    by_cases h : u < 10
    · rw [Lib.nDigits_small h]; omega
    · rw [Lib.nDigits_big h]
      have := ih (u / 10) (by omega)
      omega
theorem decB_size (n : Nat) : (decB n).size ≤ n + 1 := by
  show (Lib.decDigits n).toArray.size ≤ _
  rw [List.size_toArray, Lib.decDigits_length]
  exact nDig_le n
def txtN (z : Int) : ByteArray := if z = 0 then (⟨#[48]⟩ : ByteArray) else if z < 0 then (⟨#[45]⟩ : ByteArray) ++ decB z.natAbs else decB z.natAbs
theorem IItoa_spec {n : Int} {V : VH} (hT : TabV V) (h0 : 0 ≤ n) (h1 : n < 9223372036854775808) : CSpec Tryd.prog n_internal_strconv_Itoa #[.int .i64 n] V fun v V' => v = .string (decB n.toNat) := by
  constructor
  intro w hw
  refine (Any.internal_strconv_Itoa lays243 n (by omega) (by omega) w (hT.tab hw)).mono ?_
  rintro e w' ⟨rfl, k, os, rfl⟩
  have hb : Below w.heap.size w (Sort.grow (w.drewN k) os) := by
    refine ⟨rfl, rfl, rfl, ?_, fun j hj => ?_⟩
    · show w.heap.size ≤ (w.heap ++ os).size
      simp
    · show (w.heap ++ os)[j]? = w.heap[j]?
      rw [Array.getElem?_append_left hj]
  have e : Lib.itoa n = Lib.decDigits n.toNat := by unfold Lib.itoa; rw [if_neg (by omega)]
  exact ⟨_, V, rfl, hb, VH.le_refl _, inW_below hw hb, fun k hk => .inl hk, by rw [e]; rfl⟩
theorem Itoa2_spec {n : Int} {V : VH} (hT : TabV V) (h0 : 0 ≤ n) (h1 : n < 9223372036854775808) : CSpec Tryd.prog n_strconv_Itoa #[.int .i64 n] V fun v V' => v = .string (decB n.toNat) := by
  refine E_strconv_Itoa n V _ ((IItoa_spec hT h0 h1).mono ?_)
  rintro _ _ _ rfl; exact ⟨_, rfl, rfl⟩
theorem TextN_spec {p : R2} {z : Int} {V : VH} (hT : TabV V) (h : IntR V p z) (hz : z.natAbs < 1000000000) : CSpec Tryd.prog n_integer_Int_Text #[p.v] V fun v V' => v = .string (txtN z) := by
  obtain ⟨h1, h2, h3, h4, h5⟩ := h
  have hv := val_nonneg h2
  have hlen : p.l.length ≤ 1 := by
    apply Decidable.byContradiction
    intro hc
    have := h3.lo h2 (by rintro e; rw [e] at hc; simp at hc)
    have := pw_le (show 1 ≤ p.l.length - 1 by omega)
    have : pw 1 = 4294967296 := rfl
    split at h4 <;> omega
  refine E_integer_Int_Text p V _ fun _ => ⟨rfl, fun e => ?_, fun e => ?_⟩
  · have e : (p.l.length : Int) = 0 := eq_of_beq e
    have e : p.l = [] := List.length_eq_zero_iff.1 (by omega)
    have : z = 0 := by rw [h4, e]; simp [val]
    rw [this]; rfl
  · have e : ¬ (p.l.length : Int) = 0 := by simpa using e
    have hpos : 1 ≤ val p.l := by
      have := h3.lo h2 (by rintro e2; rw [e2] at e; simp at e)
      have := pw_pos (p.l.length - 1)
      omega
    have hz0 : z ≠ 0 := by split at h4 <;> omega
    have hva : val p.l < 1000000000 := by split at h4 <;> omega
    refine ⟨rfl, decide_eq_true (by omega), (short_spec h1 h2 (by omega) (by omega) (by omega)).mono ?_⟩
    rintro _ V1 hV1 ⟨A1, c1, l1, rfl, q1, q2, q3, q4, q5⟩
    rw [Int.ediv_eq_zero_of_lt hv (by omega)] at q4
    have hl1 : l1 = [] := q3.zero q2 q4
    subst hl1
    rw [Int.emod_eq_of_lt hv (by omega)]
    refine ⟨A1, c1, [], val p.l, rfl, ?_⟩
    rw [w64 (by omega) (by omega)]
    refine (Itoa2_spec (hT.mono hV1) hv (by omega)).mono ?_
    rintro _ V2 hV2 rfl
    refine ⟨_, rfl, rfl, rfl, fun m4 m2a c2a tl2 hm => ⟨rfl, rfl, ?_⟩⟩
    refine E_slices_Reverse_string_string0app1 m2a 9 (decB (val p.l).toNat) tl2 c2a _ (VH.put_at _ _ _) _ ?_
    refine ⟨rfl, ?_⟩
    refine E_strings_Join0app1 m2a 9 (decB (val p.l).toNat) tl2 c2a _ _ (VH.put_at _ _ _) _ ?_
    refine ⟨_, rfl, fun hn => ⟨decide_eq_true (by have := decB_size (val p.l).toNat; omega), ?_⟩, fun hn => ?_⟩
    · rw [hn] at h4
      simp only [if_true] at h4
      unfold txtN
      rw [if_neg hz0, if_pos (by omega), show z.natAbs = (val p.l).toNat by omega]
    · rw [hn] at h4
      simp only [Bool.false_eq_true, if_false] at h4
      unfold txtN
      rw [if_neg hz0, if_neg (by omega), show z.natAbs = (val p.l).toNat by omega]
theorem NumberN_spec {r : R4} {q : Rat} {n : Nat} {V : VH} (hT : TabV V) (h : RatR V r q n) (hn : n < 549755813870) (hd : q.den = 1) (hz : q.num.natAbs < 1000000000) : CSpec Tryd.prog n_rational_Rat_Number #[r.v] V fun v V' => v = .string (txtN q.num) := by
  refine E_rational_Rat_Number r V _ fun _ => (whole_spec h hn).mono ?_
  rintro _ V1 hV1 rfl
  rw [decide_eq_true hd]
  refine ⟨_, rfl, fun _ => (TextN_spec (hT.mono hV1) (h.1.mono hV1) hz).mono ?_, fun e => by cases e⟩
  rintro _ V2 hV2 rfl
  exact ⟨_, rfl, rfl⟩
end Go.Proofs.YteimfmjojadkfaaDoor
