/- A text of this claim's own: SD.IntC, SD.IntD, SD.IntE. -/
import Derived.Test.YtpcigcogcgpldaaGreatDoorSDEInt
import Derived.Test.YtpcigcogcgpldaaGreatDoorDxQ
set_option linter.unusedVariables false
set_option linter.unusedSimpArgs false
set_option linter.unusedVariables false
set_option linter.unusedSimpArgs false
set_option maxRecDepth 100000
namespace Go.Proofs.YtpcigcogcgpldaaGreatDoor
open Go Go.Dx Dw

/-- a result that is a trimmed string of digits -/
def TrimR (V : VH) (v : Value) (z : Int) (n : Nat) : Prop := ∃ A c l, v = .slice A l.length c ∧ RdV V .u32 (OV.sl A c l) ∧ Digs l ∧ Trim l ∧ val l = z ∧ l.length ≤ n

theorem trim_last {l : List Int} (h : l ≠ []) (h0 : l.getD (l.length - 1) 0 ≠ 0) : Trim l := by
  intro a d e
  subst e
  simpa [List.getD_eq_getElem?_getD] using h0

theorem trim_spec {A : Option Addr} {c : Nat} {l : List Int} {V : VH} (hr : RdV V .u32 (OV.sl A c l)) (hd : Digs l) (hl : l.length ≤ 1099511627776) :
    CSpec Tryz.prog n_integer_trim #[.slice A l.length c] V fun v V' => TrimR V' v (val l) l.length := by
  refine E_integer_trim A c l V _ ⟨fun xs V' => ∃ n, n ≤ l.length ∧ xs = [OV.sl A c (l.take n)] ∧ RdV V' .u32 (OV.sl A c (l.take n)) ∧ val (l.take n) = val l, fun xs => match xs with | [x] => x.l.length | _ => 0, ⟨l.length, Nat.le_refl _, by rw [List.take_length], by rw [List.take_length]; exact hr, by rw [List.take_length]⟩, ?_⟩
  rintro V1 hV x1 ⟨n, hn, e, hrd, hv⟩
  simp only [List.cons.injEq, and_true] at e
  subst e
  have hlen : (l.take n).length = n := by simp; omega
  have hlenv : lenV (OV.sl A c (l.take n)).v = (n : Int) := by simp [OV.sl, lenV]; omega
  have hcap := hrd.cap
  rw [hlen] at hcap
  have hcapv : capV (OV.sl A c (l.take n)).v = (c : Int) := by simp [OV.sl, capV]
  have hl' : (OV.sl A c (l.take n)).l = l.take n := rfl
  have fin : ∀ (ht : Trim (l.take n)), TrimR V1 (OV.sl A c (l.take n)).v (val l) l.length := fun ht => ⟨A, c, l.take n, rfl, hrd, hd.take n, ht, hv, by omega⟩
  simp only [hlenv, hcapv, hl', hlen]
  refine ⟨rfl, fun h1 => ?_, fun h1 => ?_⟩
  · have h1 : (0 : Int) < n := of_decide_eq_true h1
    simp only [w64 (show -9223372036854775808 ≤ (n : Int) - 1 by omega) (by omega)]
    have hi : ((n : Int) - 1).toNat = n - 1 := by omega
    refine ⟨rfl, hrd.hasB (by omega), decide_eq_true (by omega), decide_eq_true (by omega), hrd, decide_eq_true (by omega), decide_eq_true (by omega), fun h2 => ?_, fun h2 => ?_⟩
    · have h2 : (l.take n).getD ((n : Int) - 1).toNat 0 = 0 := by simpa using h2
      rw [hi] at h2
      have hcut : cutOV (OV.sl A c (l.take n)) ((n : Int) - 1) = OV.sl A c (l.take (n - 1)) := by
        rw [cutOV_sl (by omega) (by omega), List.take_take, hi, Nat.min_eq_left (by omega)]
      rw [hcut]
      refine ⟨rfl, rfl, decide_eq_true (by omega), decide_eq_true (by omega), ⟨n - 1, by omega, rfl, ?_, ?_⟩, ?_⟩
      · have := hrd.take (n - 1)
        rwa [List.take_take, Nat.min_eq_left (by omega)] at this
      · have h3 := val_take_succ l (n - 1)
        rw [show n - 1 + 1 = n by omega] at h3
        rw [getD_take (by omega)] at h2
        rw [h2] at h3
        omega
      · simp [OV.sl]; omega
    · refine fin (trim_last (by intro e; rw [e] at hlen; simp at hlen; omega) ?_)
      rw [hlen, ← hi]
      simpa using h2
  · have h1 : ¬ (0 : Int) < n := of_decide_eq_false h1
    have h0 : n = 0 := by omega
    refine fin ?_
    subst h0
    exact Trim.nil

/-- an integer, in memory -/
def IntR (V : VH) (r : R2) (z : Int) : Prop := RdV V .u32 (OV.sl r.A r.c r.l) ∧ Digs r.l ∧ Trim r.l ∧ z = (if r.n = true then -(val r.l) else val r.l) ∧ (r.n = true → r.l ≠ [])
theorem IntR.mono {V V' : VH} {r : R2} {z : Int} (h : IntR V r z) (hl : V.le V') : IntR V' r z := ⟨h.1.mono hl, h.2⟩
def IntV (V : VH) (v : Value) (z : Int) (n : Nat) : Prop := ∃ r : R2, v = r.v ∧ IntR V r z ∧ r.l.length ≤ n
/-- digits, not trimmed -/
def DigR (V : VH) (v : Value) (z : Int) (n : Nat) : Prop := ∃ A c l, v = .slice A l.length c ∧ RdV V .u32 (OV.sl A c l) ∧ Digs l ∧ val l = z ∧ l.length ≤ n

theorem signed_spec {b : Bool} {A : Option Addr} {c : Nat} {l : List Int} {V : VH} (hr : RdV V .u32 (OV.sl A c l)) (hd : Digs l) (hl : l.length ≤ 1099511627776) :
    CSpec Tryz.prog n_integer_signed #[.bool b, .slice A l.length c] V fun v V' => IntV V' v (if b = true then -(val l) else val l) l.length := by
  refine E_integer_signed b A c l V _ fun m => (trim_spec hr hd hl).mono fun v V' hV ⟨A1, c1, l1, e, h1, h2, h3, h4, h5⟩ => ⟨A1, c1, l1, e, fun hb => ⟨rfl, ?_⟩, fun hb => ?_⟩
  · by_cases e0 : l1 = []
    · subst e0
      refine ⟨⟨false, A1, [], c1⟩, rfl, ⟨h1, h2, h3, ?_, fun h => by cases h⟩, h5⟩
      simp only [val] at h4
      rw [← h4]; simp [val]
    · have hpos : 0 < l1.length := List.length_pos_iff.2 e0
      have hdec : decide ((0 : Int) < (l1.length : Int)) = true := decide_eq_true (by omega)
      rw [hdec]
      exact ⟨⟨true, A1, l1, c1⟩, rfl, ⟨h1, h2, h3, by simp [hb, h4], fun _ => e0⟩, h5⟩
  · exact ⟨⟨false, A1, l1, c1⟩, rfl, ⟨h1, h2, h3, by simp [hb, h4], fun h => by cases h⟩, h5⟩

theorem From_spec {n : Int} {V : VH} (h0 : -9223372036854775808 ≤ n) (h1 : n < 9223372036854775808) :
    CSpec Tryz.prog n_integer_From #[.int .i64 n] V fun v V' => IntV V' v n 2 := by
  refine E_integer_From n V _ fun _ => ⟨fun hn m hm => ?_, fun hn m hm => ?_⟩
  · have hn' : n < 0 := of_decide_eq_true hn
    rw [hn]
    have e1 : IntKind.wrap .u64 n = n + 18446744073709551616 := by rw [IntKind.wrap_u64]; omega
    have e2 : IntKind.wrap .u64 (0 - (n + 18446744073709551616)) = -n := by rw [IntKind.wrap_u64]; omega
    simp only [e1, e2, wu32, fdivB]
    have hD : Digs [(-n) % 4294967296, ((-n) / 4294967296) % 4294967296] := by
      intro d hd; simp only [List.mem_cons, List.not_mem_nil, or_false] at hd; omega
    refine (signed_spec (b := true) (A := some ⟨m, 0, none⟩) (c := 2) (l := [(-n) % 4294967296, ((-n) / 4294967296) % 4294967296]) (RdV.put' (L := [(-n) % 4294967296, ((-n) / 4294967296) % 4294967296])) hD (by simp)).mono ?_
    rintro v V' hV ⟨r, e, hr, hl⟩
    refine ⟨r, e, r, rfl, ?_, hl⟩
    have : (if true = true then -(val [(-n) % 4294967296, ((-n) / 4294967296) % 4294967296]) else val [(-n) % 4294967296, ((-n) / 4294967296) % 4294967296]) = n := by
      simp only [if_true, val]; omega
    rwa [this] at hr
  · have hn' : ¬ n < 0 := of_decide_eq_false hn
    rw [hn]
    simp only [wu64 (show 0 ≤ n by omega) (by omega), wu32, fdivB]
    have hD : Digs [n % 4294967296, (n / 4294967296) % 4294967296] := by
      intro d hd; simp only [List.mem_cons, List.not_mem_nil, or_false] at hd; omega
    refine (signed_spec (b := false) (A := some ⟨m, 0, none⟩) (c := 2) (l := [n % 4294967296, (n / 4294967296) % 4294967296]) (RdV.put' (L := [n % 4294967296, (n / 4294967296) % 4294967296])) hD (by simp)).mono ?_
    rintro v V' hV ⟨r, e, hr, hl⟩
    refine ⟨r, e, r, rfl, ?_, hl⟩
    have : (if false = true then -(val [n % 4294967296, (n / 4294967296) % 4294967296]) else val [n % 4294967296, (n / 4294967296) % 4294967296]) = n := by
      simp only [Bool.false_eq_true, if_false, val]; omega
    rwa [this] at hr

/-- the sign -/
theorem val_pos {l : List Int} (hd : Digs l) (ht : Trim l) (h : l ≠ []) : 0 < val l := by
  have := ht.lo hd h; have := pw_pos (l.length - 1); omega
theorem Sign_spec {r : R2} {z : Int} {V : VH} (h : IntR V r z) :
    CSpec Tryz.prog n_integer_Int_Sign #[r.v] V fun v V' => v = .int .i64 z.sign := by
  obtain ⟨h1, h2, h3, h4, h5⟩ := h
  refine E_integer_Int_Sign r V _ fun _ => ⟨rfl, fun e => ?_, fun e => ?_⟩
  · have e : r.l = [] := List.length_eq_zero_iff.1 (by simpa using e)
    have : z = 0 := by rw [h4, e]; simp [val]
    rw [this]; rfl
  · have e : r.l ≠ [] := by intro e'; rw [e'] at e; simp at e
    have hp := val_pos h2 h3 e
    refine ⟨fun hn => ?_, fun hn => ?_⟩
    · rw [h4, if_pos hn, Int.sign_eq_neg_one_of_neg (by omega)]
    · rw [h4, if_neg (by simp [hn]), Int.sign_eq_one_of_pos (by omega)]
theorem Neg_spec {r : R2} {z : Int} {V : VH} (h : IntR V r z) :
    CSpec Tryz.prog n_integer_Neg #[r.v] V fun v V' => IntV V' v (-z) r.l.length := by
  obtain ⟨h1, h2, h3, h4, h5⟩ := h
  refine E_integer_Neg r V _ fun _ _ => ⟨fun e => ⟨rfl, ?_⟩, fun e => ?_⟩
  · have e : r.n = false := by simpa using e
    by_cases e0 : r.l = []
    · refine ⟨⟨false, r.A, r.l, r.c⟩, by simp [R2.v, e0], ⟨h1, h2, h3, ?_, fun h => by cases h⟩, Nat.le_refl _⟩
      simp [h4, e, e0, val]
    · have hpos : 0 < r.l.length := List.length_pos_iff.2 e0
      have hdec : decide ((0 : Int) < (r.l.length : Int)) = true := decide_eq_true (by omega)
      rw [hdec]
      exact ⟨⟨true, r.A, r.l, r.c⟩, rfl, ⟨h1, h2, h3, by simp [h4, e], fun _ => e0⟩, Nat.le_refl _⟩
  · have e : r.n = true := by simpa using e
    exact ⟨⟨false, r.A, r.l, r.c⟩, rfl, ⟨h1, h2, h3, by simp [h4, e], fun h => by cases h⟩, Nat.le_refl _⟩
theorem one_spec {V : VH} : CSpec Tryz.prog n_rational_one #[] V fun v V' => IntV V' v 1 2 :=
  E_rational_one V _ fun _ => (From_spec (by decide) (by decide)).mono fun v V' hV ⟨r, e, hr⟩ => ⟨r, e, r, rfl, hr⟩
end Go.Proofs.YtpcigcogcgpldaaGreatDoor

set_option linter.unusedVariables false
set_option linter.unusedSimpArgs false
set_option maxRecDepth 100000
namespace Go.Proofs.YtpcigcogcgpldaaGreatDoor
open Go Go.Dx Dw

theorem lt_of_top {a b : List Int} (da : Digs a) (db : Digs b) {i : Nat} (hd : a.drop (i + 1) = b.drop (i + 1)) (hl : a.length = b.length) (hlt : a.getD i 0 < b.getD i 0) (hi : i < a.length) : val a < val b := by
  have e : ∀ l : List Int, i < l.length → val l = val (l.take i) + pw i * (l.getD i 0 + 4294967296 * val (l.drop (i + 1))) := by
    intro l hl
    have h1 : l = l.take i ++ (l.getD i 0 :: l.drop (i + 1)) := by
      have : l.drop i = l.getD i 0 :: l.drop (i + 1) := by
        rw [List.drop_eq_getElem_cons hl]; simp [List.getD_eq_getElem?_getD, hl]
      rw [← this, List.take_append_drop]
    have h2 : (l.take i).length = i := by simp; omega
    calc val l = val (l.take i ++ (l.getD i 0 :: l.drop (i + 1))) := by rw [← h1]
      _ = _ := by rw [val_append, h2]; rfl
  rw [e a hi, e b (by omega), hd]
  have h1 := val_lt (da.take i)
  have h2 := val_nonneg (db.take i)
  have h3 : (a.take i).length = i := by simp; omega
  rw [h3] at h1
  have h4 := pw_pos i
  have h5 : pw i * (a.getD i 0 + 4294967296 * val (b.drop (i + 1))) + pw i ≤ pw i * (b.getD i 0 + 4294967296 * val (b.drop (i + 1))) := by
    have : pw i * (a.getD i 0 + 4294967296 * val (b.drop (i + 1)) + 1) ≤ pw i * (b.getD i 0 + 4294967296 * val (b.drop (i + 1))) := Int.mul_le_mul_of_nonneg_left (by omega) (by omega)
    rw [Int.mul_add, Int.mul_one] at this
    exact this
  omega

def cmp (x y : Int) : Int := if x < y then -1 else if x = y then 0 else 1
theorem cmp_lt {x y : Int} (h : x < y) : cmp x y = -1 := by simp [cmp, h]
theorem cmp_gt {x y : Int} (h : y < x) : cmp x y = 1 := by simp [cmp, show ¬ x < y by omega, show ¬ x = y by omega]
theorem cmp_eq {x y : Int} (h : x = y) : cmp x y = 0 := by simp [cmp, h]

theorem order_spec {A0 A1 : Option Addr} {c0 c1 : Nat} {a b : List Int} {V : VH} (ha : RdV V .u32 (OV.sl A0 c0 a)) (da : Digs a) (ta : Trim a) (hb : RdV V .u32 (OV.sl A1 c1 b)) (db : Digs b) (tb : Trim b) (hl : a.length ≤ 1099511627776) :
    CSpec Tryz.prog n_integer_order #[.slice A0 a.length c0, .slice A1 b.length c1] V fun v V' => v = .int .i64 (cmp (val a) (val b)) := by
  refine E_integer_order A0 c0 a A1 c1 b V _ ⟨rfl, rfl, fun hne => ⟨rfl, rfl, fun h => ?_, fun h => ?_⟩, fun heq => ⟨rfl, ?_⟩⟩
  · have h : (a.length : Int) < b.length := of_decide_eq_true h
    rw [cmp_lt (val_lt_of_length tb da db (by omega))]
  · have h : ¬ (a.length : Int) < b.length := of_decide_eq_false h
    have hne : (a.length : Int) ≠ b.length := by simpa using hne
    rw [cmp_gt (val_lt_of_length ta db da (by omega))]
  · have heq : (a.length : Int) = b.length := by simpa using heq
    have heq : a.length = b.length := by omega
    rw [w64 (by omega) (by omega)]
    refine ⟨fun xs V' => ∃ i : Nat, i ≤ a.length ∧ xs = [OV.int .i64 0, OV.int .i64 ((i : Int) - 1)] ∧ a.drop i = b.drop i, fun xs => match xs with | [_, x] => (intV x.v + 1).toNat | _ => 0, ⟨a.length, Nat.le_refl _, rfl, by rw [List.drop_eq_nil_of_le (Nat.le_refl _), List.drop_eq_nil_of_le (by omega)]⟩, ?_⟩
    rintro V1 hV n1 n2 ⟨i, hi, e, hd⟩
    simp only [List.cons.injEq, OV.int_inj, and_true] at e
    obtain ⟨rfl, rfl⟩ := e
    refine ⟨fun h => ?_, fun h => ?_⟩
    · have h : (0 : Int) ≤ (i : Int) - 1 := of_decide_eq_true h
      have hi' : ((i : Int) - 1).toNat = i - 1 := by omega
      rw [hi']
      have hda := drop_getD (l := a) (i := i - 1) (by omega)
      have hdb := drop_getD (l := b) (i := i - 1) (by omega)
      rw [show i - 1 + 1 = i by omega] at hda hdb
      have q1 := ha.mono hV
      have q2 := hb.mono hV
      have g1 := q1.hasB (by omega)
      have g2 := q2.hasB (by omega)
      refine ⟨g1, decide_eq_true (by omega), decide_eq_true (by omega), q1, decide_eq_true (by omega), decide_eq_true (by omega), g2, decide_eq_true (by omega), decide_eq_true (by omega), q2, decide_eq_true (by omega), decide_eq_true (by omega), fun h2 => ⟨g1, decide_eq_true (by omega), decide_eq_true (by omega), q1, decide_eq_true (by omega), decide_eq_true (by omega), g2, decide_eq_true (by omega), decide_eq_true (by omega), q2, decide_eq_true (by omega), decide_eq_true (by omega), fun h3 => ?_, fun h3 => ?_⟩, fun h2 => ⟨⟨i - 1, by omega, ?_, ?_⟩, ?_⟩⟩
      · have h3 : a.getD (i - 1) 0 < b.getD (i - 1) 0 := of_decide_eq_true h3
        rw [cmp_lt (lt_of_top da db (i := i - 1) (by rw [show i - 1 + 1 = i by omega]; exact hd) heq h3 (by omega))]
      · have h3 : ¬ a.getD (i - 1) 0 < b.getD (i - 1) 0 := of_decide_eq_false h3
        have h2 : a.getD (i - 1) 0 ≠ b.getD (i - 1) 0 := by simpa using h2
        rw [cmp_gt (lt_of_top db da (i := i - 1) (by rw [show i - 1 + 1 = i by omega]; exact hd.symm) heq.symm (by omega) (by omega))]
      · rw [w64 (by omega) (by omega)]
        simp only [List.cons.injEq, OV.int_inj, and_true, true_and]; omega
      · have h2 : a.getD (i - 1) 0 = b.getD (i - 1) 0 := by simpa using h2
        rw [hda, hdb, hd, h2]
      · rw [w64 (by omega) (by omega)]
        simp only [OV.int, intV]; omega
    · have h : ¬ (0 : Int) ≤ (i : Int) - 1 := of_decide_eq_false h
      have : i = 0 := by omega
      subst this
      have hab : a = b := by simpa using hd
      rw [cmp_eq (by rw [hab])]

theorem Compare_spec {r s : R2} {x y : Int} {V : VH} (h : IntR V r x) (k : IntR V s y) (hl : r.l.length ≤ 1099511627776) (hk : s.l.length ≤ 1099511627776) :
    CSpec Tryz.prog n_integer_Compare #[r.v, s.v] V fun v V' => v = .int .i64 (cmp x y) := by
  obtain ⟨h1, h2, h3, h4, h5⟩ := h
  obtain ⟨k1, k2, k3, k4, k5⟩ := k
  have p1 := val_nonneg h2
  have p2 := val_nonneg k2
  refine E_integer_Compare r s V _ fun _ _ => ⟨fun e => ⟨fun hn => ?_, fun hn => ?_⟩, fun e => ⟨fun hn => ?_, fun hn => ?_⟩⟩
  · have e : r.n ≠ s.n := by simpa using e
    have hs : s.n = false := by cases hh : s.n <;> simp_all
    have := val_pos h2 h3 (h5 hn)
    rw [h4, k4, if_pos hn, if_neg (by simp [hs]), cmp_lt (by omega)]
  · have e : r.n ≠ s.n := by simpa using e
    have hs : s.n = true := by cases hh : s.n <;> simp_all
    have := val_pos k2 k3 (k5 hs)
    rw [h4, k4, if_neg (by simp [hn]), if_pos hs, cmp_gt (by omega)]
  · have e : r.n = s.n := by simpa using e
    refine (order_spec k1 k2 k3 h1 h2 h3 hk).mono fun v V' _ e1 => ⟨_, e1, ?_⟩
    rw [h4, k4, if_pos hn, if_pos (e ▸ hn)]
    simp only [cmp]
    congr 1
    split <;> split <;> (try split) <;> (try split) <;> omega
  · have e : r.n = s.n := by simpa using e
    refine (order_spec h1 h2 h3 k1 k2 k3 hl).mono fun v V' _ e1 => ⟨_, e1, ?_⟩
    rw [h4, k4, if_neg (by simp [hn]), if_neg (by simp [← e, hn])]

theorem plus_spec {A0 A1 : Option Addr} {c0 c1 : Nat} {a b : List Int} {V : VH} (ha : RdV V .u32 (OV.sl A0 c0 a)) (da : Digs a) (hb : RdV V .u32 (OV.sl A1 c1 b)) (db : Digs b) (hl : a.length < 1099511627776) (hk : b.length < 1099511627776) :
    CSpec Tryz.prog n_integer_plus #[.slice A0 a.length c0, .slice A1 b.length c1] V fun v V' => DigR V' v (val a + val b) (max a.length b.length + 1) := by
  refine E_integer_plus A0 c0 a A1 c1 b V _ ⟨rfl, rfl, fun hlt => ?_, fun hlt => ?_⟩
  · have hlt : (a.length : Int) < b.length := of_decide_eq_true hlt
    simp only [w64 (show -9223372036854775808 ≤ (b.length : Int) + 1 by omega) (by omega)]
    have hn1 : ((b.length : Int) + 1).toNat = b.length + 1 := by omega
    simp only [hn1]
    refine ⟨rfl, decide_eq_true (by omega), decide_eq_true (by omega), fun m => ⟨rfl, fun xs V' => ∃ (cy : Int) (i : Nat) (o : List Int), i ≤ b.length ∧ 0 ≤ cy ∧ cy ≤ 1 ∧ Digs o ∧ o.length = b.length + 1 ∧ val (o.take i) + cy * pw i = val (b.take i) + val (a.take i) ∧ xs = [OV.int .u64 cy, OV.int .i64 i, OV.lst o],
      fun xs => match xs with | [_, x, _] => (b.length - intV x.v).toNat | _ => 0, ⟨0, 0, List.replicate (b.length + 1) 0, by omega, by omega, by omega, Digs.replicate _, by simp, by simp [val], rfl⟩, ?_⟩⟩
    rintro V1 hV n1 n2 o1 ⟨cy, i, o, hi, hc0, hc1, ho, hol, hv, e⟩
    simp only [List.cons.injEq, OV.int_inj, OV.lst_inj, and_true] at e
    obtain ⟨rfl, rfl, rfl⟩ := e
    have q1 := hb.mono hV
    have q2 := ha.mono hV
    have d1 := db.get i
    have d2 := da.get i
    have ti : ((i : Int)).toNat = i := by omega
    refine ⟨fun h => ?_, fun h => ?_⟩
    · have h : (i : Int) < b.length := of_decide_eq_true h
      have g1 := q1.hasB (by omega)
      have step : ∀ s, s = n1 + b.getD i 0 + a.getD i 0 → ∃ (cy : Int) (j : Nat) (o' : List Int), j ≤ b.length ∧ 0 ≤ cy ∧ cy ≤ 1 ∧ Digs o' ∧ o'.length = b.length + 1 ∧ val (o'.take j) + cy * pw j = val (b.take j) + val (a.take j) ∧ [OV.int .u64 (s / 4294967296), OV.int .i64 ((i : Int) + 1), OV.lst (o1.set i (s % 4294967296))] = [OV.int .u64 cy, OV.int .i64 j, OV.lst o'] := by
        intro s hs
        refine ⟨s / 4294967296, i + 1, o1.set i (s % 4294967296), by omega, by omega, by omega, ho.set i (by omega), by simpa using hol, ?_, by simp⟩
        rw [take_set_succ (by omega), val_append, val_take_succ, val_take_succ]
        have hli : (o1.take i).length = i := by simp; omega
        rw [hli]
        have := carry_step hv hs
        simp only [val, pw] at this ⊢
        simpa using this
      simp only [ti]
      refine ⟨g1, decide_eq_true (by omega), decide_eq_true h, q1, decide_eq_true (by omega), decide_eq_true h, rfl, fun h2 => ?_, fun h2 => ?_⟩
      · have h2 : (i : Int) < a.length := of_decide_eq_true h2
        have g2 := q2.hasB (by omega)
        refine ⟨g2, decide_eq_true (by omega), decide_eq_true h2, q2, decide_eq_true (by omega), decide_eq_true h2, decide_eq_true (by omega), decide_eq_true (by omega), decide_eq_true (by omega), decide_eq_true (by omega), ?_⟩
        simp (disch := omega) only [w64, wu64, wu32, fdivB]
        refine ⟨step _ rfl, ?_⟩
        simp only [OV.int, intV]; omega
      · have h2 : ¬ (i : Int) < a.length := of_decide_eq_false h2
        have hb0 : a.getD i 0 = 0 := by rw [List.getD_eq_getElem?_getD, List.getElem?_eq_none (by omega)]; rfl
        refine ⟨decide_eq_true (by omega), decide_eq_true (by omega), decide_eq_true (by omega), decide_eq_true (by omega), ?_⟩
        simp (disch := omega) only [w64, wu64, wu32, fdivB]
        refine ⟨step _ (by omega), ?_⟩
        simp only [OV.int, intV]; omega
    · have h : ¬ (i : Int) < b.length := of_decide_eq_false h
      have hia : i = b.length := by omega
      subst hia
      have ta : ((b.length : Int)).toNat = b.length := by omega
      simp only [ta]
      refine ⟨rfl, decide_eq_true (by omega), decide_eq_true (by omega), decide_eq_true (by omega), decide_eq_true (by omega), fun hm => ?_⟩
      simp only [wu32]
      have e1 : n1 % 4294967296 = n1 := by omega
      rw [e1]
      have hset : (o1.set b.length n1).length = b.length + 1 := by simpa using hol
      refine ⟨some ⟨m, 0, none⟩, b.length + 1, o1.set b.length n1, by rw [hset]; rfl, ?_, ho.set _ (by omega), ?_, by omega⟩
      · have := RdV.put' (V := V1) (kd := .u32) (m := m) (L := o1.set b.length n1) (T := ty_u32)
        rwa [hset] at this
      · have h5 : o1.set b.length n1 = o1.take b.length ++ [n1] := by
          rw [← take_set_succ (d := n1) (by omega), List.take_of_length_le (by simp; omega)]
        have hli : (o1.take b.length).length = b.length := by simp; omega
        rw [h5, val_append, hli]
        rw [List.take_of_length_le (Nat.le_refl _), List.take_of_length_le (show a.length ≤ b.length by omega)] at hv
        simp only [val]
        grind
  · have hlt : ¬ (a.length : Int) < b.length := of_decide_eq_false hlt
    simp only [w64 (show -9223372036854775808 ≤ (a.length : Int) + 1 by omega) (by omega)]
    have hn1 : ((a.length : Int) + 1).toNat = a.length + 1 := by omega
    simp only [hn1]
    refine ⟨rfl, decide_eq_true (by omega), decide_eq_true (by omega), fun m => ⟨rfl, fun xs V' => ∃ (cy : Int) (i : Nat) (o : List Int), i ≤ a.length ∧ 0 ≤ cy ∧ cy ≤ 1 ∧ Digs o ∧ o.length = a.length + 1 ∧ val (o.take i) + cy * pw i = val (a.take i) + val (b.take i) ∧ xs = [OV.int .u64 cy, OV.int .i64 i, OV.lst o],
      fun xs => match xs with | [_, x, _] => (a.length - intV x.v).toNat | _ => 0, ⟨0, 0, List.replicate (a.length + 1) 0, by omega, by omega, by omega, Digs.replicate _, by simp, by simp [val], rfl⟩, ?_⟩⟩
    rintro V1 hV n1 n2 o1 ⟨cy, i, o, hi, hc0, hc1, ho, hol, hv, e⟩
    simp only [List.cons.injEq, OV.int_inj, OV.lst_inj, and_true] at e
    obtain ⟨rfl, rfl, rfl⟩ := e
    have q1 := ha.mono hV
    have q2 := hb.mono hV
    have d1 := da.get i
    have d2 := db.get i
    have ti : ((i : Int)).toNat = i := by omega
    refine ⟨fun h => ?_, fun h => ?_⟩
    · have h : (i : Int) < a.length := of_decide_eq_true h
      have g1 := q1.hasB (by omega)
      have step : ∀ s, s = n1 + a.getD i 0 + b.getD i 0 → ∃ (cy : Int) (j : Nat) (o' : List Int), j ≤ a.length ∧ 0 ≤ cy ∧ cy ≤ 1 ∧ Digs o' ∧ o'.length = a.length + 1 ∧ val (o'.take j) + cy * pw j = val (a.take j) + val (b.take j) ∧ [OV.int .u64 (s / 4294967296), OV.int .i64 ((i : Int) + 1), OV.lst (o1.set i (s % 4294967296))] = [OV.int .u64 cy, OV.int .i64 j, OV.lst o'] := by
        intro s hs
        refine ⟨s / 4294967296, i + 1, o1.set i (s % 4294967296), by omega, by omega, by omega, ho.set i (by omega), by simpa using hol, ?_, by simp⟩
        rw [take_set_succ (by omega), val_append, val_take_succ, val_take_succ]
        have hli : (o1.take i).length = i := by simp; omega
        rw [hli]
        have := carry_step hv hs
        simp only [val, pw] at this ⊢
        simpa using this
      simp only [ti]
      refine ⟨g1, decide_eq_true (by omega), decide_eq_true h, q1, decide_eq_true (by omega), decide_eq_true h, rfl, fun h2 => ?_, fun h2 => ?_⟩
      · have h2 : (i : Int) < b.length := of_decide_eq_true h2
        have g2 := q2.hasB (by omega)
        refine ⟨g2, decide_eq_true (by omega), decide_eq_true h2, q2, decide_eq_true (by omega), decide_eq_true h2, decide_eq_true (by omega), decide_eq_true (by omega), decide_eq_true (by omega), decide_eq_true (by omega), ?_⟩
        simp (disch := omega) only [w64, wu64, wu32, fdivB]
        refine ⟨step _ rfl, ?_⟩
        simp only [OV.int, intV]; omega
      · have h2 : ¬ (i : Int) < b.length := of_decide_eq_false h2
        have hb0 : b.getD i 0 = 0 := by rw [List.getD_eq_getElem?_getD, List.getElem?_eq_none (by omega)]; rfl
        refine ⟨decide_eq_true (by omega), decide_eq_true (by omega), decide_eq_true (by omega), decide_eq_true (by omega), ?_⟩
        simp (disch := omega) only [w64, wu64, wu32, fdivB]
        refine ⟨step _ (by omega), ?_⟩
        simp only [OV.int, intV]; omega
    · have h : ¬ (i : Int) < a.length := of_decide_eq_false h
      have hia : i = a.length := by omega
      subst hia
      have ta : ((a.length : Int)).toNat = a.length := by omega
      simp only [ta]
      refine ⟨rfl, decide_eq_true (by omega), decide_eq_true (by omega), decide_eq_true (by omega), decide_eq_true (by omega), fun hm => ?_⟩
      simp only [wu32]
      have e1 : n1 % 4294967296 = n1 := by omega
      rw [e1]
      have hset : (o1.set a.length n1).length = a.length + 1 := by simpa using hol
      refine ⟨some ⟨m, 0, none⟩, a.length + 1, o1.set a.length n1, by rw [hset]; rfl, ?_, ho.set _ (by omega), ?_, by omega⟩
      · have := RdV.put' (V := V1) (kd := .u32) (m := m) (L := o1.set a.length n1) (T := ty_u32)
        rwa [hset] at this
      · have h5 : o1.set a.length n1 = o1.take a.length ++ [n1] := by
          rw [← take_set_succ (d := n1) (by omega), List.take_of_length_le (by simp; omega)]
        have hli : (o1.take a.length).length = a.length := by simp; omega
        rw [h5, val_append, hli]
        rw [List.take_of_length_le (Nat.le_refl _), List.take_of_length_le (show b.length ≤ a.length by omega)] at hv
        simp only [val]
        grind
end Go.Proofs.YtpcigcogcgpldaaGreatDoor

set_option linter.unusedVariables false
set_option linter.unusedSimpArgs false
set_option maxRecDepth 100000
namespace Go.Proofs.YtpcigcogcgpldaaGreatDoor
open Go Go.Dx Dw

theorem getD_end {l : List Int} {i : Nat} (h : l.length ≤ i) : l.getD i 0 = 0 := by rw [List.getD_eq_getElem?_getD, List.getElem?_eq_none h]; rfl

theorem minus_spec {A0 A1 : Option Addr} {c0 c1 : Nat} {a b : List Int} {V : VH} (ha : RdV V .u32 (OV.sl A0 c0 a)) (da : Digs a) (hb : RdV V .u32 (OV.sl A1 c1 b)) (db : Digs b) (hl : a.length < 1099511627776) (hk : b.length ≤ a.length) (hv : val b ≤ val a) :
    CSpec Tryz.prog n_integer_minus #[.slice A0 a.length c0, .slice A1 b.length c1] V fun v V' => DigR V' v (val a - val b) a.length := by
  have tn : ((a.length : Int)).toNat = a.length := by omega
  refine E_integer_minus A0 c0 a A1 c1 b V _ ⟨rfl, decide_eq_true (by omega), decide_eq_true (by omega), fun m => ⟨rfl, fun xs V' => ∃ (w : Int) (i : Nat) (o : List Int), i ≤ a.length ∧ 0 ≤ w ∧ w ≤ 1 ∧ Digs o ∧ o.length = a.length ∧ val (o.take i) + val (b.take i) = val (a.take i) + w * pw i ∧ xs = [OV.int .i64 w, OV.int .i64 i, OV.lst o],
      fun xs => match xs with | [_, x, _] => (a.length - intV x.v).toNat | _ => 0, ⟨0, 0, List.replicate a.length 0, by omega, by omega, by omega, Digs.replicate _, by simp, by simp [val], by rw [tn]; rfl⟩, ?_⟩⟩
  rintro V1 hV n1 n2 o1 ⟨w, i, o, hi, hw0, hw1, ho, hol, hw, e⟩
  simp only [List.cons.injEq, OV.int_inj, OV.lst_inj, and_true] at e
  obtain ⟨rfl, rfl, rfl⟩ := e
  have q1 := ha.mono hV
  have q2 := hb.mono hV
  have d1 := da.get i
  have d2 := db.get i
  have ti : ((i : Int)).toNat = i := by omega
  refine ⟨fun h => ?_, fun h => ?_⟩
  · have h : (i : Int) < a.length := of_decide_eq_true h
    have g1 := q1.hasB (by omega)
    have step : ∀ w' d, d = a.getD i 0 - n1 - b.getD i 0 + w' * 4294967296 → 0 ≤ d → d < 4294967296 → 0 ≤ w' → w' ≤ 1 → ∃ (w : Int) (j : Nat) (o' : List Int), j ≤ a.length ∧ 0 ≤ w ∧ w ≤ 1 ∧ Digs o' ∧ o'.length = a.length ∧ val (o'.take j) + val (b.take j) = val (a.take j) + w * pw j ∧ [OV.int .i64 w', OV.int .i64 ((i : Int) + 1), OV.lst (o1.set i d)] = [OV.int .i64 w, OV.int .i64 j, OV.lst o'] := by
      intro w' d hd hd0 hd1 hw0' hw1'
      refine ⟨w', i + 1, o1.set i d, by omega, by omega, by omega, ho.set i ⟨hd0, hd1⟩, by simpa using hol, ?_, by simp⟩
      rw [take_set_succ (by omega), val_append, val_take_succ, val_take_succ]
      have hli : (o1.take i).length = i := by simp; omega
      rw [hli, hd]
      simp only [val, pw]
      grind
    simp only [ti]
    refine ⟨g1, decide_eq_true (by omega), decide_eq_true h, q1, decide_eq_true (by omega), decide_eq_true h, rfl, fun h2 => ?_, fun h2 => ?_⟩
    · have h2 : (i : Int) < b.length := of_decide_eq_true h2
      have g2 := q2.hasB (by omega)
      simp (disch := omega) only [w64]
      refine ⟨g2, decide_eq_true (by omega), decide_eq_true h2, q2, decide_eq_true (by omega), decide_eq_true h2, fun h3 => ?_, fun h3 => ?_⟩
      · have h3 : a.getD i 0 - n1 - b.getD i 0 < 0 := of_decide_eq_true h3
        refine ⟨decide_eq_true (by omega), decide_eq_true (by omega), decide_eq_true (by omega), decide_eq_true (by omega), ?_⟩
        exact ⟨step 1 _ (by rw [wu32]; omega) (by rw [wu32]; omega) (by rw [wu32]; omega) (by omega) (by omega), by simp only [OV.int, intV]; omega⟩
      · have h3 : ¬ a.getD i 0 - n1 - b.getD i 0 < 0 := of_decide_eq_false h3
        refine ⟨decide_eq_true (by omega), decide_eq_true (by omega), decide_eq_true (by omega), decide_eq_true (by omega), ?_⟩
        exact ⟨step 0 _ (by rw [wu32]; omega) (by rw [wu32]; omega) (by rw [wu32]; omega) (by omega) (by omega), by simp only [OV.int, intV]; omega⟩
    · have h2 : ¬ (i : Int) < b.length := of_decide_eq_false h2
      have hb0 : b.getD i 0 = 0 := getD_end (by omega)
      simp (disch := omega) only [w64]
      refine ⟨fun h3 => ?_, fun h3 => ?_⟩
      · have h3 : a.getD i 0 - n1 < 0 := of_decide_eq_true h3
        refine ⟨decide_eq_true (by omega), decide_eq_true (by omega), decide_eq_true (by omega), decide_eq_true (by omega), ?_⟩
        exact ⟨step 1 _ (by rw [wu32]; omega) (by rw [wu32]; omega) (by rw [wu32]; omega) (by omega) (by omega), by simp only [OV.int, intV]; omega⟩
      · have h3 : ¬ a.getD i 0 - n1 < 0 := of_decide_eq_false h3
        refine ⟨decide_eq_true (by omega), decide_eq_true (by omega), decide_eq_true (by omega), decide_eq_true (by omega), ?_⟩
        exact ⟨step 0 _ (by rw [wu32]; omega) (by rw [wu32]; omega) (by rw [wu32]; omega) (by omega) (by omega), by simp only [OV.int, intV]; omega⟩
  · have h : ¬ (i : Int) < a.length := of_decide_eq_false h
    have hia : i = a.length := by omega
    subst hia
    intro hm
    rw [tn]
    rw [List.take_of_length_le (Nat.le_refl _), List.take_of_length_le (show b.length ≤ a.length by omega), List.take_of_length_le (show o1.length ≤ a.length by omega)] at hw
    have hlt := val_lt ho
    rw [hol] at hlt
    have h0 : n1 = 0 := by
      rcases (show n1 = 0 ∨ n1 = 1 by omega) with h | h
      · exact h
      · subst h; omega
    subst h0
    refine ⟨some ⟨m, 0, none⟩, a.length, o1, by rw [hol]; rfl, ?_, ho, by omega, by omega⟩
    have := RdV.put' (V := V1) (kd := .u32) (m := m) (L := o1) (T := ty_u32)
    rwa [hol] at this

/-- the length that a value needs -/
theorem IntR.len_le {V : VH} {r : R2} {z : Int} {n : Nat} (h : IntR V r z) (hz : (z.natAbs : Int) < pw n) : r.l.length ≤ n := by
  obtain ⟨h1, h2, h3, h4, h5⟩ := h
  by_cases e : r.l = []
  · rw [e]; simp
  · have h6 := h3.lo h2 e
    have h7 := val_nonneg h2
    have : (z.natAbs : Int) = val r.l := by rw [h4]; split <;> omega
    rw [this] at hz
    apply Decidable.byContradiction
    intro hc
    have := pw_le (show n ≤ r.l.length - 1 by omega)
    omega
theorem IntR.abs_lt {V : VH} {r : R2} {z : Int} (h : IntR V r z) : (z.natAbs : Int) < pw r.l.length := by
  obtain ⟨h1, h2, h3, h4, h5⟩ := h
  have h6 := val_lt h2
  have h7 := val_nonneg h2
  rw [h4]; split <;> omega

theorem Add_spec {r s : R2} {x y : Int} {V : VH} (h : IntR V r x) (k : IntR V s y) (hl : r.l.length < 1099511627775) (hk : s.l.length < 1099511627775) :
    CSpec Tryz.prog n_integer_Add #[r.v, s.v] V fun v V' => IntV V' v (x + y) (max r.l.length s.l.length + 1) := by
  obtain ⟨h1, h2, h3, h4, h5⟩ := h
  obtain ⟨k1, k2, k3, k4, k5⟩ := k
  refine E_integer_Add r s V _ fun _ _ _ => ⟨fun e => ?_, fun e => ?_⟩
  · have e : r.n = s.n := by simpa using e
    refine (plus_spec h1 h2 k1 k2 (by omega) (by omega)).mono ?_
    rintro v V' hV ⟨A, c, l, e1, p1, p2, p3, p4⟩
    refine ⟨A, c, l, e1, (signed_spec p1 p2 (by omega)).mono ?_⟩
    rintro v2 V2 hV2 ⟨q, e2, hq, hql⟩
    refine ⟨q, e2, q, rfl, ?_, by omega⟩
    have : (if r.n = true then -(val l) else val l) = x + y := by
      rw [h4, k4, p3, ← e]; split <;> omega
    rwa [this] at hq
  · have e : r.n ≠ s.n := by simpa using e
    refine (order_spec h1 h2 h3 k1 k2 k3 (by omega)).mono ?_
    rintro v V' hV e1
    refine ⟨_, e1, fun hc => ?_, fun hc => ?_⟩
    · have hc : 0 ≤ cmp (val r.l) (val s.l) := of_decide_eq_true hc
      have hge : val s.l ≤ val r.l := by
        apply Decidable.byContradiction; intro hh; rw [cmp_lt (by omega)] at hc; omega
      have hlen : s.l.length ≤ r.l.length := by
        apply Decidable.byContradiction; intro hh
        have := val_lt_of_length k3 h2 k2 (by omega); omega
      refine (minus_spec (h1.mono hV) h2 (k1.mono hV) k2 (by omega) hlen hge).mono ?_
      rintro v1 V1 hV1 ⟨A, c, l, e2, p1, p2, p3, p4⟩
      refine ⟨A, c, l, e2, (signed_spec p1 p2 (by omega)).mono ?_⟩
      rintro v2 V2 hV2 ⟨q, e3, hq, hql⟩
      refine ⟨q, e3, q, rfl, ?_, by omega⟩
      have : (if r.n = true then -(val l) else val l) = x + y := by
        rw [h4, k4, p3]; revert e; cases r.n <;> cases s.n <;> simp <;> omega
      rwa [this] at hq
    · have hc : ¬ 0 ≤ cmp (val r.l) (val s.l) := of_decide_eq_false hc
      have hlt : val r.l < val s.l := by
        apply Decidable.byContradiction; intro hh
        simp only [cmp, if_neg hh] at hc; split at hc <;> omega
      have hlen : r.l.length ≤ s.l.length := by
        apply Decidable.byContradiction; intro hh
        have := val_lt_of_length h3 k2 h2 (by omega); omega
      refine (minus_spec (k1.mono hV) k2 (h1.mono hV) h2 (by omega) hlen (by omega)).mono ?_
      rintro v1 V1 hV1 ⟨A, c, l, e2, p1, p2, p3, p4⟩
      refine ⟨A, c, l, e2, (signed_spec p1 p2 (by omega)).mono ?_⟩
      rintro v2 V2 hV2 ⟨q, e3, hq, hql⟩
      refine ⟨q, e3, q, rfl, ?_, by omega⟩
      have : (if s.n = true then -(val l) else val l) = x + y := by
        rw [h4, k4, p3]; revert e; cases r.n <;> cases s.n <;> simp <;> omega
      rwa [this] at hq
theorem Sub_spec {r s : R2} {x y : Int} {V : VH} (h : IntR V r x) (k : IntR V s y) (hl : r.l.length < 1099511627775) (hk : s.l.length < 1099511627775) :
    CSpec Tryz.prog n_integer_Sub #[r.v, s.v] V fun v V' => IntV V' v (x - y) (max r.l.length s.l.length + 1) := by
  refine E_integer_Sub r s V _ fun _ _ _ => (Neg_spec k).mono ?_
  rintro v V' hV ⟨q, e, hq, hql⟩
  refine ⟨q, e, (Add_spec (h.mono hV) hq hl (by omega)).mono ?_⟩
  rintro v2 V2 hV2 ⟨q2, e2, hq2, hql2⟩
  exact ⟨q2, e2, q2, rfl, by rwa [← Int.sub_eq_add_neg] at hq2, by omega⟩
end Go.Proofs.YtpcigcogcgpldaaGreatDoor
