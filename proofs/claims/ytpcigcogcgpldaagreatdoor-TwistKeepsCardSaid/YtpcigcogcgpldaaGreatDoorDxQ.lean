/- A text of this claim's own: Dx.Base, Dx.DivStep. -/
import Derived.Test.YtpcigcogcgpldaaGreatDoorDxH
import Derived.Test.YtpcigcogcgpldaaGreatDoorDxP
set_option linter.unusedVariables false
set_option linter.unusedSimpArgs false
set_option linter.unusedVariables false
set_option linter.unusedSimpArgs false
namespace Go.Dx
open Dw
theorem w64 {n : Int} (h0 : -9223372036854775808 ≤ n) (h1 : n < 9223372036854775808) : IntKind.wrap .i64 n = n := IntWalk.i64_in _ (by omega)
theorem wu64 {n : Int} (h0 : 0 ≤ n) (h1 : n < 18446744073709551616) : IntKind.wrap .u64 n = n := by rw [IntKind.wrap_u64]; omega
theorem wu32 (n : Int) : IntKind.wrap .u32 n = n % 4294967296 := IntKind.wrap_u32 n
theorem OV.int_inj {k : IntKind} {n m : Int} : OV.int k n = OV.int k m ↔ n = m := by
  constructor
  · intro h; have := congrArg OV.v h; simpa [OV.int] using this
  · rintro rfl; rfl
theorem OV.lst_inj {a b : List Int} : OV.lst a = OV.lst b ↔ a = b := by
  constructor
  · intro h; exact congrArg OV.l h
  · rintro rfl; rfl
theorem OV.bool_inj {a b : Bool} : OV.bool a = OV.bool b ↔ a = b := by
  constructor
  · intro h; have := congrArg OV.v h; simpa [OV.bool] using this
  · rintro rfl; rfl
theorem fdivB (x : Int) : Int.fdiv x 4294967296 = x / 4294967296 := Int.fdiv_eq_ediv_of_nonneg _ (by decide)
theorem carry_step {o a b c p x y s : Int} (h : o + c * p = a + b) (hs : s = c + x + y) : (o + p * (s % 4294967296)) + (s / 4294967296) * (4294967296 * p) = (a + p * x) + (b + p * y) := by
  have h1 : s % 4294967296 + 4294967296 * (s / 4294967296) = s := Int.emod_add_mul_ediv s 4294967296
  generalize s % 4294967296 = r at h1 ⊢
  generalize s / 4294967296 = q at h1 ⊢
  grind
theorem _root_.Dw.Digs.get {l : List Int} (h : Digs l) (i : Nat) : 0 ≤ l.getD i 0 ∧ l.getD i 0 < 4294967296 := by
  rw [List.getD_eq_getElem?_getD]
  cases hi : l[i]? with
  | none => simp
  | some d => simpa using h d (List.mem_of_getElem? hi)
theorem val_take_succ (l : List Int) (i : Nat) : val (l.take (i + 1)) = val (l.take i) + pw i * l.getD i 0 := by
  by_cases h : i < l.length
  · rw [List.take_succ_eq_append_getElem h, val_append]
    simp [val, List.getD_eq_getElem?_getD, h, Nat.min_eq_left (Nat.le_of_lt h)]
  · rw [List.take_of_length_le (by omega), List.take_of_length_le (by omega), List.getD_eq_getElem?_getD, List.getElem?_eq_none (by omega)]
    simp
theorem val_take_all {l : List Int} {n : Nat} (h : l.length ≤ n) : val (l.take n) = val l := by rw [List.take_of_length_le h]
theorem getD_take {l : List Int} {i n : Nat} (h : i < n) : (l.take n).getD i 0 = l.getD i 0 := by
  simp [List.getD_eq_getElem?_getD, List.getElem?_take, h]
theorem drop_getD {l : List Int} {i : Nat} (h : i < l.length) : l.drop i = l.getD i 0 :: l.drop (i + 1) := by
  rw [List.drop_eq_getElem_cons h]; simp [List.getD_eq_getElem?_getD, h]
theorem take_set {l : List Int} {i : Nat} {d : Int} : (l.set i d).take i = l.take i := by
  rw [List.take_set]
  rw [List.set_eq_of_length_le (by simp; omega)]
theorem take_set_succ {l : List Int} {i : Nat} {d : Int} (h : i < l.length) : (l.set i d).take (i + 1) = l.take i ++ [d] := by
  rw [List.take_succ_eq_append_getElem (by simpa using h), take_set]
  simp
theorem set_getD_ne {l : List Int} {i j : Nat} {d : Int} (h : i ≠ j) : (l.set i d).getD j 0 = l.getD j 0 := by
  simp [List.getD_eq_getElem?_getD, List.getElem?_set_ne h]
theorem set_getD_eq {l : List Int} {i : Nat} {d : Int} (h : i < l.length) : (l.set i d).getD i 0 = d := by
  simp [List.getD_eq_getElem?_getD, h]
theorem _root_.Dw.Digs.set {l : List Int} (h : Digs l) (i : Nat) {d : Int} (hd : 0 ≤ d ∧ d < 4294967296) : Digs (l.set i d) := by
  intro x hx
  rcases List.mem_or_eq_of_mem_set hx with h1 | h1
  · exact h x h1
  · subst h1; exact hd
theorem _root_.Dw.Digs.replicate (n : Nat) : Digs (List.replicate n 0) := by
  intro x hx; have := List.eq_of_mem_replicate hx; omega

theorem RdV.nil (V : VH) (kd : IntKind) (A : Option Addr) (c : Nat) : RdV V kd (OV.sl A c []) := ⟨A, c, rfl, Nat.zero_le _, fun h => absurd h (by simp [OV.sl])⟩
theorem RdV.hasB {V : VH} {kd : IntKind} {A : Option Addr} {c : Nat} {l : List Int} (h : RdV V kd (OV.sl A c l)) (hl : 0 < l.length) : hasBV (.slice A l.length c) = true := by
  obtain ⟨A', c', e, _, h3⟩ := h
  obtain ⟨b, off, T, cells, fr, rfl, _⟩ := h3 hl
  simp only [OV.sl, Value.slice.injEq] at e
  obtain ⟨rfl, _⟩ := e; rfl
theorem RdV.cap {V : VH} {kd : IntKind} {A : Option Addr} {c : Nat} {l : List Int} (h : RdV V kd (OV.sl A c l)) : l.length ≤ c := by
  obtain ⟨A', c', e, h2, h3⟩ := h
  simp only [OV.sl, Value.slice.injEq] at e h2
  omega
theorem RdV.take {V : VH} {kd : IntKind} {A : Option Addr} {c : Nat} {l : List Int} (h : RdV V kd (OV.sl A c l)) (n : Nat) : RdV V kd (OV.sl A c (l.take n)) := by
  obtain ⟨A', c', e, h2, h3⟩ := h
  simp only [OV.sl, Value.slice.injEq] at e h2 h3
  obtain ⟨rfl, _, rfl⟩ := e
  refine ⟨A, c, rfl, by simp [OV.sl]; omega, ?_⟩
  intro h0
  simp only [OV.sl, List.length_take] at h0 ⊢
  obtain ⟨b, off, T, cells, fr, q1, q2, q3⟩ := h3 (by omega)
  refine ⟨b, off, T, cells, fr, q1, q2, fun j hj => ?_⟩
  rw [q3 j (by omega)]
  simp [List.getD_eq_getElem?_getD, List.getElem?_take, show j < n by omega]
theorem cutOV_sl {A : Option Addr} {c : Nat} {l : List Int} {n : Int} (h0 : 0 ≤ n) (h1 : n ≤ l.length) : cutOV (OV.sl A c l) n = OV.sl A c (l.take n.toNat) := by
  have : (l.take n.toNat).length = n.toNat := by simp; omega
  simp [cutOV, OV.sl, cutV, this]
/-- a block that has been given -/
theorem RdV.put {V : VH} {kd : IntKind} {m : Nat} {L : List Int} {T : TypeId} {n c : Nat} (hn : n ≤ L.length) (hc : n ≤ c) : RdV (V.put m (.cells (L.map (Value.int kd)).toArray T)) kd (OV.sl (some ⟨m, 0, none⟩) c (L.take n)) := by
  refine ⟨some ⟨m, 0, none⟩, c, rfl, by simp [OV.sl]; omega, fun h0 => ⟨m, 0, T, (L.map (Value.int kd)).toArray, (0, 0), rfl, VH.put_at _ _ _, fun j hj => ?_⟩⟩
  simp only [OV.sl, List.length_take] at hj ⊢
  have h1 : j < L.length := by omega
  have h2 : j < n := by omega
  simp [List.getD_eq_getElem?_getD, List.getElem?_take, h1, h2]
theorem RdV.put' {V : VH} {kd : IntKind} {m : Nat} {L : List Int} {T : TypeId} : RdV (V.put m (.cells (L.map (Value.int kd)).toArray T)) kd (OV.sl (some ⟨m, 0, none⟩) L.length L) := by
  have := RdV.put (V := V) (kd := kd) (m := m) (L := L) (T := T) (n := L.length) (c := L.length) (Nat.le_refl _) (Nat.le_refl _)
  rwa [List.take_length] at this
end Go.Dx
namespace Go.Dx
open Dw
theorem ofInt_toNat64 {x : Int} (h0 : 0 ≤ x) (h1 : x < 18446744073709551616) : (BitVec.ofInt 64 x).toNat = x.toNat := by
  rw [BitVec.toNat_ofInt]
  have : x % (2 ^ 64 : Nat) = x := Int.emod_eq_of_lt h0 (by simpa using h1)
  rw [this]
theorem or_hi_lo {x y : Int} (hx0 : 0 ≤ x) (hx1 : x < 4294967296) (hy0 : 0 ≤ y) (hy1 : y < 4294967296) : op2V .or .u64 (x * 4294967296) y = x * 4294967296 + y := by
  obtain ⟨a, rfl⟩ := Int.eq_ofNat_of_zero_le hx0
  obtain ⟨b, rfl⟩ := Int.eq_ofNat_of_zero_le hy0
  show IntKind.u64.wrap ((((BitVec.ofInt 64 ((a : Int) * 4294967296)) ||| (BitVec.ofInt 64 (b : Int))).toNat : Nat) : Int) = _
  rw [BitVec.toNat_or, ofInt_toNat64 (by omega) (by omega), ofInt_toNat64 (by omega) (by omega)]
  have e1 : ((a : Int) * 4294967296).toNat = 2 ^ 32 * a := by omega
  rw [e1, Int.toNat_natCast, ← Nat.two_pow_add_eq_or_of_lt (by omega), wu64 (by omega) (by omega)]
  omega
theorem val_drop {l : List Int} {i : Nat} (h : i < l.length) : val (l.drop i) = l.getD i 0 + 4294967296 * val (l.drop (i + 1)) := by
  rw [drop_getD h]; rfl
end Go.Dx

namespace Go.Dx
open Dw
theorem val_split (l : List Int) {i : Nat} (h : i ≤ l.length) : val l = val (l.take i) + pw i * val (l.drop i) := by
  have e : l = l.take i ++ l.drop i := (List.take_append_drop i l).symm
  have h2 : (l.take i).length = i := by simp; omega
  calc val l = val (l.take i ++ l.drop i) := by rw [← e]
    _ = _ := by rw [val_append, h2]
/-- the divisor as it is shifted: as long as before, with the top bit set -/
theorem norm_top {b v : List Int} {s n : Nat} {x : Int} (db : Digs b) (dv : Digs v) (tv : Trim v) (hn : b.length = n + 1) (hs : s ≤ 31) (hx : b.getD n 0 = x) (hx0 : 0 < x) (h1 : x * ((2 ^ s : Nat) : Int) < 4294967296) (h2 : 2147483648 ≤ x * ((2 ^ s : Nat) : Int))
    (hv : val v = val b * ((2 ^ s : Nat) : Int)) : v.length = n + 1 ∧ 2147483648 ≤ v.getD n 0 := by
  have hp := pw_pos n
  have eb := val_take_succ b n
  rw [List.take_of_length_le (by omega), hx] at eb
  have b0 := val_nonneg (db.take n)
  have b1 := val_lt (db.take n)
  rw [show (b.take n).length = n by simp; omega] at b1
  -- 2^32 = 2^s * 2^(32-s)
  have hpow : ((2 ^ s : Nat) : Int) * ((2 ^ (32 - s) : Nat) : Int) = 4294967296 := by
    have : (2 ^ s : Nat) * 2 ^ (32 - s) = 2 ^ 32 := by rw [← Nat.pow_add]; congr 1; omega
    rw [← Int.natCast_mul, this]; rfl
  have hq : 0 < ((2 ^ s : Nat) : Int) := by have := Nat.two_pow_pos s; omega
  generalize ((2 ^ s : Nat) : Int) = q at *
  generalize ((2 ^ (32 - s) : Nat) : Int) = r at *
  have hxr : x + 1 ≤ r := by
    apply Decidable.byContradiction
    intro hc
    have : r * q ≤ x * q := Int.mul_le_mul_of_nonneg_right (by omega) (by omega)
    rw [Int.mul_comm r] at this; omega
  have hxq : (x + 1) * q ≤ 4294967296 := by
    rw [← hpow, Int.mul_comm q]; exact Int.mul_le_mul_of_nonneg_right hxr (by omega)
  have lo : pw n * 2147483648 ≤ val v := by
    rw [hv, eb, Int.add_mul]
    have a1 : 0 ≤ val (b.take n) * q := Int.mul_nonneg b0 (by omega)
    have a2 : pw n * 2147483648 ≤ pw n * (x * q) := Int.mul_le_mul_of_nonneg_left h2 (by omega)
    rw [Int.mul_assoc]; omega
  have hi : val v < pw n * 4294967296 := by
    rw [hv]
    have a1 : val b + 1 ≤ pw n * (x + 1) := by rw [eb, Int.mul_add]; omega
    have a2 : (val b + 1) * q ≤ pw n * (x + 1) * q := Int.mul_le_mul_of_nonneg_right a1 (by omega)
    have a3 : pw n * ((x + 1) * q) ≤ pw n * 4294967296 := Int.mul_le_mul_of_nonneg_left hxq (by omega)
    rw [Int.mul_assoc, Int.add_mul] at a2
    omega
  have l1 := val_lt dv
  have hlen : v.length = n + 1 := by
    have hne : v ≠ [] := by rintro rfl; simp [val] at lo; omega
    have l2 := tv.lo dv hne
    have hpn : pw (n + 1) = 4294967296 * pw n := rfl
    have c1 : ¬ v.length ≤ n := fun hc => by have := pw_le hc; omega
    have c2 : ¬ n + 2 ≤ v.length := fun hc => by have := pw_le (show n + 1 ≤ v.length - 1 by omega); omega
    omega
  refine ⟨hlen, ?_⟩
  have ev := val_take_succ v n
  rw [List.take_of_length_le (by omega)] at ev
  have v1 := val_lt (dv.take n)
  rw [show (v.take n).length = n by simp; omega] at v1
  apply Decidable.byContradiction
  intro hc
  have : pw n * v.getD n 0 ≤ pw n * 2147483647 := Int.mul_le_mul_of_nonneg_left (by omega) (by omega)
  omega
/-- what the window holds -/
theorem window {U : List Int} {vv : Int} {i n : Nat} (dU : Digs U) (hi : i + (n + 1) ≤ U.length) (hlt : val U < vv * pw (i + 1)) (hvv : vv < pw n) :
    val ((U.drop i).take (n + 1)) = val (U.drop i) ∧ val (U.drop i) < 4294967296 * vv ∧ val ((U.drop i).drop (n + 1)) = 0 := by
  have hp := pw_pos i
  have e1 := val_split U (i := i) (by omega)
  have e2 := val_split (U.drop i) (i := n + 1) (by simp; omega)
  have h0 := val_nonneg (dU.take i)
  have h1 := val_nonneg ((dU.drop i).take (n + 1))
  have h2 := val_nonneg ((dU.drop i).drop (n + 1))
  have hW : val (U.drop i) < 4294967296 * vv := by
    apply Decidable.byContradiction
    intro hc
    have h3 : pw i * (4294967296 * vv) ≤ pw i * val (U.drop i) := Int.mul_le_mul_of_nonneg_left (by omega) (by omega)
    have h4 : vv * pw (i + 1) = pw i * (4294967296 * vv) := by simp only [pw]; grind
    omega
  have hz : val ((U.drop i).drop (n + 1)) = 0 := by
    apply Decidable.byContradiction
    intro hc
    have h3 : pw (n + 1) * 1 ≤ pw (n + 1) * val ((U.drop i).drop (n + 1)) := Int.mul_le_mul_of_nonneg_left (by omega) (by have := pw_pos (n + 1); omega)
    have h4 : pw (n + 1) = 4294967296 * pw n := rfl
    omega
  rw [hz] at e2
  exact ⟨by omega, hW, hz⟩
end Go.Dx
