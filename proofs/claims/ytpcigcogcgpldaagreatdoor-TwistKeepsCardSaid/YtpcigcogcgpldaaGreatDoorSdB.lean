/- A text of this claim's own: SD.IntF, SD.IntG, SD.IntH, SD.IntI, SD.IntJ. -/
import Derived.Test.YtpcigcogcgpldaaGreatDoorSdA
import Derived.Test.YtpcigcogcgpldaaGreatDoorSDClone
set_option linter.unusedVariables false
set_option linter.unusedSimpArgs false
set_option linter.unusedVariables false
set_option linter.unusedSimpArgs false
set_option maxRecDepth 100000
namespace Go.Proofs.YtpcigcogcgpldaaGreatDoor
open Go Go.Dx Dw

theorem getD_of_drop {a b : List Int} {n : Nat} (h : a.drop n = b.drop n) : a.getD n 0 = b.getD n 0 := by
  have e : ∀ l : List Int, l.getD n 0 = (l.drop n).getD 0 0 := by
    intro l; simp [List.getD_eq_getElem?_getD, List.getElem?_drop]
  rw [e a, e b, h]
theorem drop_succ_of {a b : List Int} {n : Nat} (h : a.drop n = b.drop n) : a.drop (n + 1) = b.drop (n + 1) := by
  have := congrArg (List.drop 1) h
  simpa [List.drop_drop, Nat.add_comm] using this
theorem drop_set_ge {l : List Int} {n : Nat} {d : Int} : (l.set n d).drop (n + 1) = l.drop (n + 1) := by
  rw [List.drop_set, if_pos (by omega)]
theorem mul_bound {x y : Int} (hx : 0 ≤ x ∧ x < 4294967296) (hy : 0 ≤ y ∧ y < 4294967296) : 0 ≤ x * y ∧ x * y ≤ 18446744065119617025 := by
  refine ⟨Int.mul_nonneg hx.1 hy.1, ?_⟩
  have h1 : x * y ≤ 4294967295 * y := Int.mul_le_mul_of_nonneg_right (by omega) hy.1
  omega

theorem Mul_spec {r s : R2} {x y : Int} {V : VH} (h : IntR V r x) (k : IntR V s y) (hl : r.l.length < 549755813888) (hk : s.l.length < 549755813888) :
    CSpec Tryz.prog n_integer_Mul #[r.v, s.v] V fun v V' => IntV V' v (x * y) (r.l.length + s.l.length) := by
  obtain ⟨h1, h2, h3, h4, h5⟩ := h
  obtain ⟨k1, k2, k3, k4, k5⟩ := k
  refine E_integer_Mul r s V _ fun _ _ _ => ?_
  have tn : ((r.l.length : Int) + (s.l.length : Int)).toNat = r.l.length + s.l.length := by omega
  simp only [w64 (show -9223372036854775808 ≤ (r.l.length : Int) + (s.l.length : Int) by omega) (by omega), tn]
  refine ⟨rfl, rfl, decide_eq_true (by omega), decide_eq_true (by omega), fun m => ⟨rfl, fun xs V' => ∃ (i : Nat) (o : List Int), i ≤ r.l.length ∧ Digs o ∧ o.length = r.l.length + s.l.length ∧ val (o.take (i + s.l.length)) = val (r.l.take i) * val s.l ∧ xs = [OV.int .i64 i, OV.lst o],
      fun xs => match xs with | [x, _] => (r.l.length - intV x.v).toNat | _ => 0, ⟨0, List.replicate (r.l.length + s.l.length) 0, by omega, Digs.replicate _, by simp, by simp [val, List.take_replicate, val_replicate_zero], rfl⟩, ?_⟩⟩
  rintro V1 hV n5 l6 ⟨i, o, hi, ho, hol, hv, e⟩
  simp only [List.cons.injEq, OV.int_inj, OV.lst_inj, and_true] at e
  obtain ⟨rfl, rfl⟩ := e
  have q1 := h1.mono hV
  have ti : ((i : Int)).toNat = i := by omega
  refine ⟨fun h => ?_, fun h => ?_⟩
  · have h : (i : Int) < r.l.length := of_decide_eq_true h
    have dx := h2.get i
    refine ⟨q1.hasB (by omega), decide_eq_true (by omega), decide_eq_true h, q1, decide_eq_true (by omega), decide_eq_true h, rfl, fun xs V' => ∃ (c : Int) (k : Nat) (o : List Int), k ≤ s.l.length ∧ 0 ≤ c ∧ c < 4294967296 ∧ Digs o ∧ o.length = r.l.length + s.l.length ∧ o.drop (i + k) = l6.drop (i + k) ∧ val (o.take (i + k)) + c * pw (i + k) = val (l6.take (i + k)) + r.l.getD i 0 * pw i * val (s.l.take k) ∧ xs = [OV.int .u64 c, OV.int .i64 k, OV.lst o],
      fun xs => match xs with | [_, x, _] => (s.l.length - intV x.v).toNat | _ => 0, ⟨0, 0, l6, by omega, by omega, by omega, ho, hol, rfl, by simp [val], rfl⟩, ?_⟩
    rintro V2 hV2 n8 n9 l10 ⟨c, j, o', hj, hc0, hc1, ho', hol', hdr, hv', e⟩
    simp only [List.cons.injEq, OV.int_inj, OV.lst_inj, and_true] at e
    obtain ⟨rfl, rfl, rfl⟩ := e
    have q2 := (k1.mono hV).mono hV2
    have tj : ((j : Int)).toNat = j := by omega
    have tij : ((i : Int) + (j : Int)).toNat = i + j := by omega
    simp only [w64 (show -9223372036854775808 ≤ (i : Int) + (j : Int) by omega) (by omega), tij, tj, ti]
    refine ⟨fun h2' => ?_, fun h2' => ?_⟩
    · have h2' : (j : Int) < s.l.length := of_decide_eq_true h2'
      have dy := k2.get j
      have dz := ho'.get (i + j)
      have hb := mul_bound dx dy
      refine ⟨q2.hasB (by omega), decide_eq_true (by omega), decide_eq_true h2', q2, decide_eq_true (by omega), decide_eq_true h2', decide_eq_true (by omega), decide_eq_true (by omega), decide_eq_true (by omega), decide_eq_true (by omega), decide_eq_true (by omega), decide_eq_true (by omega), decide_eq_true (by omega), decide_eq_true (by omega), ?_⟩
      rw [wu64 (n := r.l.getD i 0) (by omega) (by omega), wu64 (n := s.l.getD j 0) (by omega) (by omega), wu64 (n := l10.getD (i + j) 0) (by omega) (by omega)]
      generalize hp : r.l.getD i 0 * s.l.getD j 0 = p at hb ⊢
      simp (disch := omega) only [w64, wu64, wu32, fdivB]
      generalize hs : n8 + (p + l10.getD (i + j) 0) = t
      refine ⟨⟨t / 4294967296, j + 1, l10.set (i + j) (t % 4294967296), by omega, by omega, by omega, ho'.set _ (by omega), by simpa using hol', ?_, ?_, by simp⟩, by simp only [OV.int, intV]; omega⟩
      · rw [show i + (j + 1) = (i + j) + 1 by omega, drop_set_ge]; exact drop_succ_of hdr
      · rw [show i + (j + 1) = (i + j) + 1 by omega, take_set_succ (by omega), val_append, val_take_succ l6, val_take_succ s.l]
        have hli : (l10.take (i + j)).length = i + j := by simp; omega
        rw [hli, ← getD_of_drop hdr]
        have h7 : t % 4294967296 + 4294967296 * (t / 4294967296) = t := Int.emod_add_mul_ediv t 4294967296
        have h8 := pw_add i j
        simp only [val, pw]
        generalize t % 4294967296 = u at h7 ⊢
        generalize t / 4294967296 = q at h7 ⊢
        rw [h8] at hv' ⊢
        generalize pw i = a at *
        generalize pw j = b at *
        grind
    · have h2' : ¬ (j : Int) < s.l.length := of_decide_eq_false h2'
      have hj' : j = s.l.length := by omega
      subst hj'
      simp only [w64 (show -9223372036854775808 ≤ (i : Int) + (s.l.length : Int) by omega) (by omega), tij]
      refine ⟨rfl, decide_eq_true (by omega), decide_eq_true (by omega), decide_eq_true (by omega), decide_eq_true (by omega), ?_⟩
      have e1 : n8 % 4294967296 = n8 := by omega
      simp (disch := omega) only [w64, wu32, e1]
      refine ⟨⟨i + 1, l10.set (i + s.l.length) n8, by omega, ho'.set _ (by omega), by simpa using hol', ?_, by simp⟩, by simp only [OV.int, intV]; omega⟩
      rw [show i + 1 + s.l.length = (i + s.l.length) + 1 by omega, take_set_succ (by omega), val_append, val_take_succ]
      have hli : (l10.take (i + s.l.length)).length = i + s.l.length := by simp; omega
      rw [hli]
      rw [List.take_of_length_le (l := s.l) (Nat.le_refl _)] at hv'
      simp only [val]
      grind
  · have h : ¬ (i : Int) < r.l.length := of_decide_eq_false h
    have hia : i = r.l.length := by omega
    subst hia
    intro hm
    rw [List.take_of_length_le (l := r.l) (Nat.le_refl _), List.take_of_length_le (l := l6) (by omega)] at hv
    have p := signed_spec (V := V1.put m (.cells (l6.map (Value.int .u32)).toArray ty_u32)) (b := !(r.n == s.n)) (A := some ⟨m, 0, none⟩) (c := l6.length) (l := l6) RdV.put' ho (by omega)
    rw [← hol]
    refine p.mono ?_
    rintro v2 V2 hV2 ⟨q, e3, hq, hql⟩
    refine ⟨q, e3, q, rfl, ?_, by omega⟩
    have : (if (!(r.n == s.n)) = true then -(val l6) else val l6) = x * y := by
      rw [h4, k4, hv]; cases r.n <;> cases s.n <;> simp <;> grind
    rwa [this] at hq
end Go.Proofs.YtpcigcogcgpldaaGreatDoor

set_option linter.unusedVariables false
set_option linter.unusedSimpArgs false
set_option maxRecDepth 100000
namespace Go.Proofs.YtpcigcogcgpldaaGreatDoor
open Go Go.Dx Dw

theorem short_spec {A0 : Option Addr} {c0 : Nat} {a : List Int} {d : Int} {V : VH} (ha : RdV V .u32 (OV.sl A0 c0 a)) (da : Digs a) (hl : a.length < 1099511627776) (hd0 : 0 < d) (hd1 : d < 4294967296) :
    CSpec Tryz.prog n_integer_short #[.slice A0 a.length c0, .int .u32 d] V fun v V' => ∃ A c l, v = .tuple #[.slice A l.length c, .int .u32 (val a % d)] ∧ RdV V' .u32 (OV.sl A c l) ∧ Digs l ∧ Trim l ∧ val l = val a / d ∧ l.length ≤ a.length := by
  have tn : ((a.length : Int)).toNat = a.length := by omega
  refine E_integer_short A0 c0 a d V _ ?_
  simp (disch := omega) only [w64, wu64 (show 0 ≤ d by omega) (by omega), tn]
  refine ⟨rfl, decide_eq_true (by omega), decide_eq_true (by omega), fun m => ⟨rfl, fun xs V' => ∃ (w : Int) (i : Nat) (o : List Int), i ≤ a.length ∧ 0 ≤ w ∧ w < d ∧ Digs o ∧ o.length = a.length ∧ val (o.drop i) * d + w = val (a.drop i) ∧ xs = [OV.int .u64 w, OV.int .i64 ((i : Int) - 1), OV.lst o],
      fun xs => match xs with | [_, x, _] => (intV x.v + 1).toNat | _ => 0, ⟨0, a.length, List.replicate a.length 0, by omega, by omega, by omega, Digs.replicate _, by simp, by simp [val], rfl⟩, ?_⟩⟩
  rintro V1 hV n2 n3 o1 ⟨w, i, o, hi, hw0, hw1, ho, hol, hw, e⟩
  simp only [List.cons.injEq, OV.int_inj, OV.lst_inj, and_true] at e
  obtain ⟨rfl, rfl, rfl⟩ := e
  have q1 := ha.mono hV
  refine ⟨fun h => ?_, fun h => ?_⟩
  · have h : (0 : Int) ≤ (i : Int) - 1 := of_decide_eq_true h
    have ti : ((i : Int) - 1).toNat = i - 1 := by omega
    have g := q1.hasB (by omega)
    have dx := da.get (i - 1)
    have hne : (!(d == (0 : Int))) = true := by simp; omega
    simp only [ti]
    refine ⟨g, decide_eq_true h, decide_eq_true (by omega), q1, decide_eq_true h, decide_eq_true (by omega), hne, decide_eq_true h, decide_eq_true (by omega), decide_eq_true h, decide_eq_true (by omega), hne, ?_⟩
    rw [wu64 (n := a.getD (i - 1) 0) (by omega) (by omega), wu64 (n := n2 * 4294967296) (by omega) (by omega), or_hi_lo hw0 (by omega) dx.1 dx.2]
    generalize hx : a.getD (i - 1) 0 = x at dx ⊢
    generalize ht : n2 * 4294967296 + x = t
    have ht0 : 0 ≤ t := by omega
    rw [Int.tdiv_eq_ediv_of_nonneg ht0, Int.tmod_eq_emod_of_nonneg ht0]
    have hq0 : 0 ≤ t / d := Int.ediv_nonneg ht0 (by omega)
    have hq1 : t / d < 4294967296 := by
      apply Int.ediv_lt_of_lt_mul hd0
      have : (n2 + 1) * 4294967296 ≤ d * 4294967296 := Int.mul_le_mul_of_nonneg_right (by omega) (by omega)
      rw [Int.mul_comm 4294967296 d]; omega
    have hr0 := Int.emod_nonneg t (show d ≠ 0 by omega)
    have hr1 := Int.emod_lt_of_pos t hd0
    have hqr := Int.emod_add_mul_ediv t d
    generalize t / d = q at *
    generalize t % d = rr at *
    simp (disch := omega) only [w64, wu64, wu32]
    rw [Int.emod_eq_of_lt hq0 hq1]
    refine ⟨⟨rr, i - 1, o1.set (i - 1) q, by omega, by omega, by omega, ho.set _ ⟨hq0, hq1⟩, by simpa using hol, ?_, by simp only [List.cons.injEq, OV.int_inj, and_true, true_and]; omega⟩, by simp only [OV.int, intV]; omega⟩
    rw [val_drop (by simp; omega), val_drop (l := a) (by omega), drop_set_ge, set_getD_eq (by omega), hx, show i - 1 + 1 = i by omega]
    grind
  · have h : ¬ (0 : Int) ≤ (i : Int) - 1 := of_decide_eq_false h
    have : i = 0 := by omega
    subst this
    intro hm
    simp only [List.drop_zero] at hw
    have hv0 := val_nonneg ho
    have hq : val o1 = val a / d := by
      rw [← hw, Int.add_comm, Int.add_mul_ediv_right _ _ (by omega), Int.ediv_eq_zero_of_lt hw0 hw1]; omega
    have hr : n2 = val a % d := by
      rw [← hw, Int.add_comm, Int.add_mul_emod_self_right, Int.emod_eq_of_lt hw0 hw1]
    have p := trim_spec (V := V1.put m (.cells (o1.map (Value.int .u32)).toArray ty_u32)) (A := some ⟨m, 0, none⟩) (c := o1.length) (l := o1) RdV.put' ho (by omega)
    rw [← hol]
    refine p.mono ?_
    rintro v2 V2 hV2 ⟨A, c, l, e1, p1, p2, p3, p4, p5⟩
    rw [wu32, Int.emod_eq_of_lt hw0 (by omega)]
    exact ⟨A, c, l, e1, A, c, l, by rw [hr], p1, p2, p3, by rw [p4, hq], by omega⟩
end Go.Proofs.YtpcigcogcgpldaaGreatDoor

set_option linter.unusedVariables false
set_option linter.unusedSimpArgs false
set_option maxRecDepth 100000
namespace Go.Proofs.YtpcigcogcgpldaaGreatDoor
open Go Go.Dx Dw

def len8 : ByteArray := ⟨#[0, 1, 2, 2, 3, 3, 3, 3, 4, 4, 4, 4, 4, 4, 4, 4, 5, 5, 5, 5, 5, 5, 5, 5, 5, 5, 5, 5, 5, 5, 5, 5, 6, 6, 6, 6, 6, 6, 6, 6, 6, 6, 6, 6, 6, 6, 6, 6, 6, 6, 6, 6, 6, 6, 6, 6, 6, 6, 6, 6, 6, 6, 6, 6, 7, 7, 7, 7, 7, 7, 7, 7, 7, 7, 7, 7, 7, 7, 7, 7, 7, 7, 7, 7, 7, 7, 7, 7, 7, 7, 7, 7, 7, 7, 7, 7, 7, 7, 7, 7, 7, 7, 7, 7, 7, 7, 7, 7, 7, 7, 7, 7, 7, 7, 7, 7, 7, 7, 7, 7, 7, 7, 7, 7, 7, 7, 7, 7, 8, 8, 8, 8, 8, 8, 8, 8, 8, 8, 8, 8, 8, 8, 8, 8, 8, 8, 8, 8, 8, 8, 8, 8, 8, 8, 8, 8, 8, 8, 8, 8, 8, 8, 8, 8, 8, 8, 8, 8, 8, 8, 8, 8, 8, 8, 8, 8, 8, 8, 8, 8, 8, 8, 8, 8, 8, 8, 8, 8, 8, 8, 8, 8, 8, 8, 8, 8, 8, 8, 8, 8, 8, 8, 8, 8, 8, 8, 8, 8, 8, 8, 8, 8, 8, 8, 8, 8, 8, 8, 8, 8, 8, 8, 8, 8, 8, 8, 8, 8, 8, 8, 8, 8, 8, 8, 8, 8, 8, 8, 8, 8, 8, 8, 8, 8, 8, 8, 8, 8, 8, 8, 8, 8, 8, 8, 8, 8]⟩
theorem len8_ok : ∀ j : Fin 256, (j.val < 2 ^ (btV len8 (j.val : Int)).toNat ∧ (0 < j.val → 2 ^ (btV len8 (j.val : Int)).toNat ≤ 2 * j.val)) ∧ 0 ≤ btV len8 (j.val : Int) ∧ btV len8 (j.val : Int) ≤ 8 := by decide +kernel
theorem pow_shift (k n c : Nat) (h : 2 ^ k = c) : ((2 ^ (k + n) : Nat) : Int) = (c : Int) * ((2 ^ n : Nat) : Int) := by rw [Nat.pow_add, h, Int.natCast_mul]
theorem len8_at {j : Int} (h0 : 0 ≤ j) (h1 : j < 256) : ∃ n : Nat, btV len8 j = n ∧ n ≤ 8 ∧ j < ((2 ^ n : Nat) : Int) ∧ (0 < j → ((2 ^ n : Nat) : Int) ≤ 2 * j) := by
  obtain ⟨m, rfl⟩ := Int.eq_ofNat_of_zero_le h0
  have := len8_ok ⟨m, by omega⟩
  obtain ⟨⟨k1, k2⟩, k3, k4⟩ := this
  refine ⟨(btV len8 (m : Int)).toNat, by simp only at k3; omega, by simp only at k4; omega, by simp only at k1; omega, fun h => ?_⟩
  have := k2 (by simp; omega)
  simp only at this; omega
theorem Len32_spec {x : Int} {V : VH} (h0 : 0 ≤ x) (h1 : x < 4294967296) :
    CSpec Tryz.prog n_math_bits_Len32 #[.int .u32 x] V fun v V' => ∃ n : Nat, v = .int .i64 n ∧ n ≤ 32 ∧ x < ((2 ^ n : Nat) : Int) ∧ (0 < x → ((2 ^ n : Nat) : Int) ≤ 2 * x) := by
  have e16 : ∀ y : Int, Int.fdiv y 65536 = y / 65536 := fun y => Int.fdiv_eq_ediv_of_nonneg _ (by decide)
  have e8 : ∀ y : Int, Int.fdiv y 256 = y / 256 := fun y => Int.fdiv_eq_ediv_of_nonneg _ (by decide)
  have w8 : ∀ y : Int, 0 ≤ y → y < 256 → IntKind.wrap .u8 y = y := fun y a b => by rw [IntKind.wrap_u8']; omega
  refine E_math_bits_Len32 x V _ ?_
  simp only [e16, e8]
  refine ⟨fun h => ⟨fun k => ?_, fun k => ?_⟩, fun h => ⟨fun k => ?_, fun k => ?_⟩⟩
  · have h : 65536 ≤ x := of_decide_eq_true h
    have k : 256 ≤ x / 65536 := of_decide_eq_true k
    rw [w8 _ (by omega) (by omega)]
    obtain ⟨n, a1, a2, a3, a4⟩ := len8_at (j := x / 65536 / 256) (by omega) (by omega)
    refine ⟨decide_eq_true (by omega), decide_eq_true (by omega), 24 + n, ?_, by omega, ?_, fun hp => ?_⟩
    · show Value.int .i64 (IntKind.wrap .i64 (24 + IntKind.wrap .i64 (btV len8 (x / 65536 / 256)))) = _
      rw [a1, w64 (n := (n : Int)) (by omega) (by omega), w64 (by omega) (by omega)]; rfl
    · rw [pow_shift 24 n 16777216 (by decide)]; omega
    · have := a4 (by omega); rw [pow_shift 24 n 16777216 (by decide)]; omega
  · have h : 65536 ≤ x := of_decide_eq_true h
    have k : ¬ 256 ≤ x / 65536 := of_decide_eq_false k
    rw [w8 _ (by omega) (by omega)]
    obtain ⟨n, a1, a2, a3, a4⟩ := len8_at (j := x / 65536) (by omega) (by omega)
    refine ⟨decide_eq_true (by omega), decide_eq_true (by omega), 16 + n, ?_, by omega, ?_, fun hp => ?_⟩
    · show Value.int .i64 (IntKind.wrap .i64 (16 + IntKind.wrap .i64 (btV len8 (x / 65536)))) = _
      rw [a1, w64 (n := (n : Int)) (by omega) (by omega), w64 (by omega) (by omega)]; rfl
    · rw [pow_shift 16 n 65536 (by decide)]; omega
    · have := a4 (by omega); rw [pow_shift 16 n 65536 (by decide)]; omega
  · have h : ¬ 65536 ≤ x := of_decide_eq_false h
    have k : 256 ≤ x := of_decide_eq_true k
    rw [w8 _ (by omega) (by omega)]
    obtain ⟨n, a1, a2, a3, a4⟩ := len8_at (j := x / 256) (by omega) (by omega)
    refine ⟨decide_eq_true (by omega), decide_eq_true (by omega), 8 + n, ?_, by omega, ?_, fun hp => ?_⟩
    · show Value.int .i64 (IntKind.wrap .i64 (8 + IntKind.wrap .i64 (btV len8 (x / 256)))) = _
      rw [a1, w64 (n := (n : Int)) (by omega) (by omega), w64 (by omega) (by omega)]; rfl
    · rw [pow_shift 8 n 256 (by decide)]; omega
    · have := a4 (by omega); rw [pow_shift 8 n 256 (by decide)]; omega
  · have h : ¬ 65536 ≤ x := of_decide_eq_false h
    have k : ¬ 256 ≤ x := of_decide_eq_false k
    rw [w8 _ (by omega) (by omega)]
    obtain ⟨n, a1, a2, a3, a4⟩ := len8_at (j := x) (by omega) (by omega)
    refine ⟨decide_eq_true (by omega), decide_eq_true (by omega), n, ?_, by omega, a3, a4⟩
    show Value.int .i64 (IntKind.wrap .i64 (IntKind.wrap .i64 (btV len8 x))) = _
    rw [a1, w64 (n := (n : Int)) (by omega) (by omega), w64 (by omega) (by omega)]
/-- how far the top digit can be raised -/
theorem Lz_spec {x : Int} {V : VH} (h0 : 0 < x) (h1 : x < 4294967296) :
    CSpec Tryz.prog n_math_bits_LeadingZeros32 #[.int .u32 x] V fun v V' => ∃ n : Nat, v = .int .i64 n ∧ n ≤ 31 ∧ x * ((2 ^ n : Nat) : Int) < 4294967296 ∧ 2147483648 ≤ x * ((2 ^ n : Nat) : Int) := by
  refine E_math_bits_LeadingZeros32 x V _ ((Len32_spec (by omega) h1).mono ?_)
  rintro v V' hV ⟨n, rfl, hn, a3, a4⟩
  have a4 := a4 h0
  refine ⟨_, rfl, 32 - n, by rw [w64 (by omega) (by omega)]; congr 1; omega, ?_, ?_, ?_⟩
  · have : n ≠ 0 := by intro e; subst e; simp at a3; omega
    omega
  · have e : ((2 ^ n : Nat) : Int) * ((2 ^ (32 - n) : Nat) : Int) = 4294967296 := by
      rw [← Int.natCast_mul, ← Nat.pow_add, show n + (32 - n) = 32 by omega]; rfl
    have hp : (0 : Int) < ((2 ^ (32 - n) : Nat) : Int) := by have := Nat.two_pow_pos (32 - n); omega
    rw [← e]
    exact Int.mul_lt_mul_of_pos_right a3 hp
  · have e : ((2 ^ n : Nat) : Int) * ((2 ^ (32 - n) : Nat) : Int) = 4294967296 := by
      rw [← Int.natCast_mul, ← Nat.pow_add, show n + (32 - n) = 32 by omega]; rfl
    have hp : (0 : Int) ≤ ((2 ^ (32 - n) : Nat) : Int) := Int.natCast_nonneg _
    have := Int.mul_le_mul_of_nonneg_right a4 hp
    rw [e, Int.mul_assoc] at this
    omega
end Go.Proofs.YtpcigcogcgpldaaGreatDoor

set_option linter.unusedVariables false
set_option linter.unusedSimpArgs false
set_option maxRecDepth 100000
namespace Go.Proofs.YtpcigcogcgpldaaGreatDoor
open Go Go.Dx Dw

theorem ofInt_toNat32 {x : Int} (h0 : 0 ≤ x) (h1 : x < 4294967296) : (BitVec.ofInt 32 x).toNat = x.toNat := by
  rw [BitVec.toNat_ofInt]
  have : x % (2 ^ 32 : Nat) = x := Int.emod_eq_of_lt h0 (by simpa using h1)
  rw [this]
theorem shl32 {d : Int} {s : Nat} (hs : s ≤ 31) : op2V .shl .u32 d (s : Int) = (d * ((2 ^ s : Nat) : Int)) % 4294967296 := by
  show IntKind.u32.wrap (d * 2 ^ min ((s : Int)).toNat 32) = _
  rw [wu32, Int.toNat_natCast, Nat.min_eq_left (by omega)]
  simp
theorem shl64 {d : Int} {s : Nat} (hs : s ≤ 31) (h0 : 0 ≤ d * ((2 ^ s : Nat) : Int)) (h1 : d * ((2 ^ s : Nat) : Int) < 18446744073709551616) : op2V .shl .u64 d (s : Int) = d * ((2 ^ s : Nat) : Int) := by
  show IntKind.u64.wrap (d * 2 ^ min ((s : Int)).toNat 64) = _
  rw [Int.toNat_natCast, Nat.min_eq_left (by omega)]
  have : (2 : Int) ^ s = ((2 ^ s : Nat) : Int) := by simp
  rw [this, wu64 h0 h1]
theorem pow_le_31 {s : Nat} (hs : s ≤ 31) : 1 ≤ ((2 ^ s : Nat) : Int) ∧ ((2 ^ s : Nat) : Int) ≤ 2147483648 := by
  have h1 := Nat.two_pow_pos s
  have h2 : 2 ^ s ≤ 2 ^ 31 := Nat.pow_le_pow_right (by decide) hs
  constructor
  · omega
  · have : (2 : Nat) ^ 31 = 2147483648 := by decide
    omega
theorem or32 {z t : Int} {s : Nat} (hs : s ≤ 31) (z0 : 0 ≤ z) (z1 : z < ((2 ^ s : Nat) : Int)) (t0 : 0 ≤ t) (t1 : ((2 ^ s : Nat) : Int) * t < 4294967296) (hsum : z + ((2 ^ s : Nat) : Int) * t < 4294967296) : op2V .or .u32 z (((2 ^ s : Nat) : Int) * t) = z + ((2 ^ s : Nat) : Int) * t := by
  obtain ⟨a, rfl⟩ := Int.eq_ofNat_of_zero_le z0
  obtain ⟨b, rfl⟩ := Int.eq_ofNat_of_zero_le t0
  have hp := pow_le_31 hs
  have hb0 : (0 : Int) ≤ ((2 ^ s : Nat) : Int) * (b : Int) := Int.mul_nonneg (by omega) (by omega)
  show IntKind.u32.wrap ((((BitVec.ofInt 32 (a : Int)) ||| (BitVec.ofInt 32 (((2 ^ s : Nat) : Int) * (b : Int)))).toNat : Nat) : Int) = _
  rw [BitVec.toNat_or, ofInt_toNat32 (by omega) (by omega), ofInt_toNat32 hb0 t1]
  have e1 : (((2 ^ s : Nat) : Int) * (b : Int)).toNat = 2 ^ s * b := by rw [← Int.natCast_mul]; rfl
  rw [e1, Int.toNat_natCast, Nat.or_comm, ← Nat.two_pow_add_eq_or_of_lt (by omega), wu32]
  have e2 : ((2 ^ s * b + a : Nat) : Int) = (a : Int) + ((2 ^ s : Nat) : Int) * (b : Int) := by rw [Int.natCast_add, Int.natCast_mul, Int.add_comm]
  rw [e2, Int.emod_eq_of_lt (by omega) hsum]

/-- what a digit times a power of 2 splits into -/
theorem split_shift {d : Int} {s : Nat} (hs : s ≤ 31) (d0 : 0 ≤ d) (d1 : d < 4294967296) : ∃ lo hi : Int, (d * ((2 ^ s : Nat) : Int)) % 4294967296 = ((2 ^ s : Nat) : Int) * lo ∧ (d * ((2 ^ s : Nat) : Int)) / 4294967296 = hi ∧ 0 ≤ lo ∧ 0 ≤ hi ∧ hi < ((2 ^ s : Nat) : Int) ∧ d * ((2 ^ s : Nat) : Int) = ((2 ^ s : Nat) : Int) * lo + 4294967296 * hi ∧ ((2 ^ s : Nat) : Int) * lo + ((2 ^ s : Nat) : Int) ≤ 4294967296 := by
  have hp := pow_le_31 hs
  have hq : ((2 ^ s : Nat) : Int) * ((2 ^ (32 - s) : Nat) : Int) = 4294967296 := by
    rw [← Int.natCast_mul, ← Nat.pow_add, show s + (32 - s) = 32 by omega]; rfl
  have hq0 : (0 : Int) < ((2 ^ (32 - s) : Nat) : Int) := by have := Nat.two_pow_pos (32 - s); omega
  generalize ((2 ^ s : Nat) : Int) = p at *
  generalize ((2 ^ (32 - s) : Nat) : Int) = q at *
  have e1 : (d * p) % 4294967296 = p * (d % q) := by
    rw [← hq, Int.mul_comm d p, Int.mul_emod_mul_of_pos _ _ (by omega)]
  have e2 := Int.emod_nonneg d (show q ≠ 0 by omega)
  have e3 := Int.emod_lt_of_pos d hq0
  have e4 := Int.emod_add_mul_ediv (d * p) 4294967296
  have e5 : (0 : Int) ≤ d * p := Int.mul_nonneg d0 (by omega)
  refine ⟨d % q, _, e1, rfl, e2, Int.ediv_nonneg e5 (by decide), ?_, by rw [← e1]; omega, ?_⟩
  · apply Int.ediv_lt_of_lt_mul (by decide)
    rw [Int.mul_comm d p]
    exact Int.mul_lt_mul_of_pos_left d1 (by omega)
  · have : p * (d % q + 1) ≤ p * q := Int.mul_le_mul_of_nonneg_left (by omega) (by omega)
    rw [Int.mul_add, hq] at this; omega

theorem raised_spec {A0 : Option Addr} {c0 : Nat} {a : List Int} {s : Nat} {V : VH} (ha : RdV V .u32 (OV.sl A0 c0 a)) (da : Digs a) (hl : a.length < 1099511627776) (hs : s ≤ 31) :
    CSpecO Tryz.prog n_integer_raised #[.slice A0 a.length c0, .int .i64 (s : Int)] V ty_u32 .u32 (fun _ _ => False) fun v V' n0 L => v = .slice (some ⟨n0, 0, none⟩) (a.length + 1) (a.length + 1) ∧ L.length = a.length + 1 ∧ Digs L ∧ val L = val a * ((2 ^ s : Nat) : Int) := by
  have hp := pow_le_31 hs
  have tn : ((a.length : Int) + 1).toNat = a.length + 1 := by omega
  refine (E_integer_raised A0 c0 a s V (fun v V' L => (∃ n0, v = .slice (some ⟨n0, 0, none⟩) (a.length + 1) (a.length + 1)) ∧ L.length = a.length + 1 ∧ Digs L ∧ val L = val a * ((2 ^ s : Nat) : Int)) ?_).mono (fun _ _ _ h => h) ?_
  · simp only [w64 (show -9223372036854775808 ≤ (a.length : Int) + 1 by omega) (by omega), tn]
    refine ⟨rfl, decide_eq_true (by omega), decide_eq_true (by omega), fun m => ⟨rfl, fun xs V' => ∃ (i : Nat) (o : List Int), i ≤ a.length ∧ Digs o ∧ o.length = a.length + 1 ∧ o.getD i 0 < ((2 ^ s : Nat) : Int) ∧ val (o.take (i + 1)) = val (a.take i) * ((2 ^ s : Nat) : Int) ∧ xs = [OV.int .i64 i, OV.lst o],
      fun xs => match xs with | [x, _] => (a.length - intV x.v).toNat | _ => 0, ⟨0, List.replicate (a.length + 1) 0, by omega, Digs.replicate _, by simp, by rw [show (List.replicate (a.length + 1) (0 : Int)).getD 0 0 = 0 by simp [List.replicate_succ]]; omega, by simp [val, List.take_replicate, val_replicate_zero], rfl⟩, ?_⟩⟩
    rintro V1 hV n2 l3 ⟨i, o, hi, ho, hol, htop, hv, e⟩
    simp only [List.cons.injEq, OV.int_inj, OV.lst_inj, and_true] at e
    obtain ⟨rfl, rfl⟩ := e
    have q1 := ha.mono hV
    have ti : ((i : Int)).toNat = i := by omega
    have ti1 : ((i : Int) + 1).toNat = i + 1 := by omega
    refine ⟨fun h => ?_, fun h => ?_⟩
    · have h : (i : Int) < a.length := of_decide_eq_true h
      have dx := da.get i
      have dz := ho.get i
      obtain ⟨lo, hi', s1, s2, s3, s4, s5, s6, s7⟩ := split_shift hs dx.1 dx.2
      have e64 : op2V .shl .u64 (a.getD i 0) (s : Int) = a.getD i 0 * ((2 ^ s : Nat) : Int) := by
        apply shl64 hs
        · exact Int.mul_nonneg dx.1 (by omega)
        · rw [s6]; omega
      have hplo : 0 ≤ ((2 ^ s : Nat) : Int) * lo := Int.mul_nonneg (by omega) s3
      simp only [ti, w64 (show -9223372036854775808 ≤ (i : Int) + 1 by omega) (by omega), ti1, wu64 (n := a.getD i 0) (by omega) (by omega), e64, fdivB, wu32, shl32 hs, s1, s2, List.length_set]
      rw [or32 hs dz.1 htop s3 (by omega) (by omega), Int.emod_eq_of_lt s4 (by omega)]
      refine ⟨q1.hasB (by omega), decide_eq_true (by omega), decide_eq_true h, q1, decide_eq_true (by omega), decide_eq_true h, decide_eq_true (by omega), decide_eq_true (by omega), decide_eq_true (by omega), decide_eq_true (by omega), decide_eq_true (by omega), decide_eq_true (by omega), decide_eq_true (by omega), decide_eq_true (by omega), decide_eq_true (by omega), decide_eq_true (by omega), decide_eq_true (by omega), decide_eq_true (by omega), decide_eq_true (by omega), decide_eq_true (by omega), ?_⟩
      refine ⟨⟨i + 1, (l3.set i (l3.getD i 0 + ((2 ^ s : Nat) : Int) * lo)).set (i + 1) hi', by omega, (ho.set _ (by omega)).set _ (by omega), by simpa using hol, ?_, ?_, by simp⟩, by simp only [OV.int, intV]; omega⟩
      · rw [set_getD_eq (by simp; omega)]; exact s5
      · rw [take_set_succ (by simp; omega), val_append, take_set_succ (by omega), val_append, val_take_succ a]
        rw [val_take_succ] at hv
        have hli : (l3.take i).length = i := by simp; omega
        simp only [List.length_append, hli, List.length_cons, List.length_nil, val, pw, Nat.zero_add]
        rw [Int.add_mul, Int.mul_assoc (pw i), s6, ← hv]
        grind
    · have h : ¬ (i : Int) < a.length := of_decide_eq_false h
      have hia : i = a.length := by omega
      subst hia
      refine ⟨⟨m, rfl⟩, hol, ho, ?_⟩
      rw [List.take_of_length_le (by omega), List.take_of_length_le (Nat.le_refl _)] at hv
      exact hv
  · rintro v V' n L hV ⟨⟨n1, c1, e1⟩, ⟨n2, e2⟩, h⟩
    rw [e1] at e2
    simp only [Value.slice.injEq, Option.some.injEq, Addr.mk.injEq, and_true] at e2
    obtain ⟨rfl, rfl, rfl⟩ := e2
    exact ⟨e1, h⟩
end Go.Proofs.YtpcigcogcgpldaaGreatDoor

set_option linter.unusedVariables false
set_option linter.unusedSimpArgs false
set_option maxRecDepth 100000
namespace Go.Proofs.YtpcigcogcgpldaaGreatDoor
open Go Go.Dx Dw

theorem shr32 {d : Int} {s : Nat} (hs : s ≤ 31) : op2V .shr .u32 d (s : Int) = d / ((2 ^ s : Nat) : Int) := by
  show d.fdiv (2 ^ min ((s : Int)).toNat 32) = _
  rw [Int.toNat_natCast, Nat.min_eq_left (by omega)]
  have : (2 : Int) ^ s = ((2 ^ s : Nat) : Int) := by simp
  rw [this]
  exact Int.fdiv_eq_ediv_of_nonneg _ (Int.natCast_nonneg _)
theorem shr64 {d : Int} {s : Nat} (hs : s ≤ 31) : op2V .shr .u64 d (s : Int) = d / ((2 ^ s : Nat) : Int) := by
  show d.fdiv (2 ^ min ((s : Int)).toNat 64) = _
  rw [Int.toNat_natCast, Nat.min_eq_left (by omega)]
  have : (2 : Int) ^ s = ((2 ^ s : Nat) : Int) := by simp
  rw [this]
  exact Int.fdiv_eq_ediv_of_nonneg _ (Int.natCast_nonneg _)
theorem or32' {z t : Int} {k : Nat} (z0 : 0 ≤ z) (z1 : z < ((2 ^ k : Nat) : Int)) (z2 : z < 4294967296) (t0 : 0 ≤ t) (t1 : 0 ≤ ((2 ^ k : Nat) : Int) * t) (hsum : z + ((2 ^ k : Nat) : Int) * t < 4294967296) : op2V .or .u32 z (((2 ^ k : Nat) : Int) * t) = z + ((2 ^ k : Nat) : Int) * t := by
  obtain ⟨a, rfl⟩ := Int.eq_ofNat_of_zero_le z0
  obtain ⟨b, rfl⟩ := Int.eq_ofNat_of_zero_le t0
  show IntKind.u32.wrap ((((BitVec.ofInt 32 (a : Int)) ||| (BitVec.ofInt 32 (((2 ^ k : Nat) : Int) * (b : Int)))).toNat : Nat) : Int) = _
  rw [BitVec.toNat_or, ofInt_toNat32 (by omega) (by omega), ofInt_toNat32 t1 (by omega)]
  have e1 : (((2 ^ k : Nat) : Int) * (b : Int)).toNat = 2 ^ k * b := by rw [← Int.natCast_mul]; rfl
  rw [e1, Int.toNat_natCast, Nat.or_comm, ← Nat.two_pow_add_eq_or_of_lt (by omega), wu32]
  have e2 : ((2 ^ k * b + a : Nat) : Int) = (a : Int) + ((2 ^ k : Nat) : Int) * (b : Int) := by rw [Int.natCast_add, Int.natCast_mul, Int.add_comm]
  rw [e2, Int.emod_eq_of_lt (by omega) hsum]
/-- the next digit's low bits, moved up -/
theorem low_up {d : Int} {s : Nat} (hs : s ≤ 31) (d0 : 0 ≤ d) (d1 : d < 4294967296) : (d * 4294967296 / ((2 ^ s : Nat) : Int)) % 4294967296 = ((2 ^ (32 - s) : Nat) : Int) * (d % ((2 ^ s : Nat) : Int)) := by
  have hq : ((2 ^ s : Nat) : Int) * ((2 ^ (32 - s) : Nat) : Int) = 4294967296 := by
    rw [← Int.natCast_mul, ← Nat.pow_add, show s + (32 - s) = 32 by omega]; rfl
  have hp0 := (pow_le_31 hs).1
  have hq0 : (0 : Int) < ((2 ^ (32 - s) : Nat) : Int) := by have := Nat.two_pow_pos (32 - s); omega
  generalize ((2 ^ s : Nat) : Int) = p at *
  generalize ((2 ^ (32 - s) : Nat) : Int) = q at *
  rw [← hq]
  have e1 : d * (p * q) / p = q * d := by
    rw [show d * (p * q) = (q * d) * p by grind, Int.mul_ediv_cancel _ (by omega)]
  rw [e1, Int.mul_comm p q, Int.mul_emod_mul_of_pos _ _ hq0]
theorem lowered_spec {A0 : Option Addr} {c0 : Nat} {a : List Int} {s : Nat} {z : Int} {V : VH} (ha : RdV V .u32 (OV.sl A0 c0 a)) (da : Digs a) (hl : a.length < 1099511627776) (hs : s ≤ 31) (hz : val a = z * ((2 ^ s : Nat) : Int)) :
    CSpec Tryz.prog n_integer_lowered #[.slice A0 a.length c0, .int .i64 (s : Int)] V fun v V' => TrimR V' v z a.length := by
  have hp0 := pow_le_31 hs
  refine E_integer_lowered A0 c0 a s V _ ((Clone_spec ha hl).mono ?_ ?_)
  · rintro v V1 hV ⟨rfl, A, c, rfl⟩
    refine ⟨A, c, [], rfl, rfl, fun xs V' => xs = [OV.int .i64 0], fun _ => 0, rfl, ?_⟩
    rintro V2 hV2 n2 e
    simp only [List.cons.injEq, OV.int_inj, and_true] at e
    subst e
    refine ⟨fun h => ?_, fun h => ?_⟩
    · exact absurd (of_decide_eq_true h) (by simp)
    · refine (trim_spec (RdV.nil V2 .u32 A c) Digs.nil (by simp)).mono ?_
      rintro v3 V3 hV3 ⟨A', c', l', e1, h1, h2, h3, h4, h5⟩
      refine ⟨A', c', l', e1, A', c', l', rfl, h1, h2, h3, ?_, h5⟩
      simp only [val] at h4 hz
      have : z = 0 := by
        rcases Int.mul_eq_zero.1 hz.symm with h | h
        · exact h
        · omega
      rw [h4, this]
  · rintro v V1 m0 L hV ⟨⟨k, rfl, hk⟩, r, rfl⟩
    have q := ha.mono hV
    have hq : ((2 ^ s : Nat) : Int) * ((2 ^ (32 - s) : Nat) : Int) = 4294967296 := by
      rw [← Int.natCast_mul, ← Nat.pow_add, show s + (32 - s) = 32 by omega]; rfl
    have hq0 : (0 : Int) < ((2 ^ (32 - s) : Nat) : Int) := by have := Nat.two_pow_pos (32 - s); omega
    have hL : ∀ i, i < a.length → (a ++ List.replicate r 0).getD i 0 = a.getD i 0 := fun i hi => by
      simp [List.getD_eq_getElem?_getD, List.getElem?_append, hi]
    refine ⟨a.length, k, by simp, decide_eq_true (by omega), fun xs V' => ∃ (i : Nat) (o : List Int), i ≤ a.length ∧ Digs o ∧ o.length = a.length + r ∧ o.drop i = (a ++ List.replicate r 0).drop i ∧ val (o.take i) * ((2 ^ s : Nat) : Int) + a.getD 0 0 % ((2 ^ s : Nat) : Int) = val (a.take i) + (a.getD i 0 % ((2 ^ s : Nat) : Int)) * pw i ∧ xs = [OV.int .i64 i, OV.lst o],
      fun xs => match xs with | [x, _] => (a.length - intV x.v).toNat | _ => 0, ⟨0, _, by omega, da.append (Digs.replicate r), by simp, rfl, by simp [val, pw], rfl⟩, ?_⟩
    rintro V2 hV2 n7 l8 ⟨i, o, hi, ho, hol, hdr, hv, e⟩
    simp only [List.cons.injEq, OV.int_inj, OV.lst_inj, and_true] at e
    obtain ⟨rfl, rfl⟩ := e
    have q2 := q.mono hV2
    have ti : ((i : Int)).toNat = i := by omega
    refine ⟨fun h => ?_, fun h => ?_⟩
    · have h : (i : Int) < a.length := of_decide_eq_true h
      have hoi : l8.getD i 0 = a.getD i 0 := by rw [getD_of_drop hdr, hL i (by omega)]
      have dx := da.get i
      have dy := da.get (i + 1)
      have hx1 := Int.emod_add_mul_ediv (a.getD i 0) ((2 ^ s : Nat) : Int)
      have hx2 := Int.emod_nonneg (a.getD i 0) (show ((2 ^ s : Nat) : Int) ≠ 0 by omega)
      have hx3 := Int.emod_lt_of_pos (a.getD i 0) (show 0 < ((2 ^ s : Nat) : Int) by omega)
      have hx4 : 0 ≤ a.getD i 0 / ((2 ^ s : Nat) : Int) := Int.ediv_nonneg dx.1 (by omega)
      have hx5 : a.getD i 0 / ((2 ^ s : Nat) : Int) < ((2 ^ (32 - s) : Nat) : Int) := by
        apply Int.ediv_lt_of_lt_mul (by omega)
        rw [Int.mul_comm, hq]; exact dx.2
      have hx6 : a.getD i 0 / ((2 ^ s : Nat) : Int) ≤ a.getD i 0 := Int.ediv_le_self _ dx.1
      have hy2 := Int.emod_nonneg (a.getD (i + 1) 0) (show ((2 ^ s : Nat) : Int) ≠ 0 by omega)
      have hy3 := Int.emod_lt_of_pos (a.getD (i + 1) 0) (show 0 < ((2 ^ s : Nat) : Int) by omega)
      have hy4 : ((2 ^ (32 - s) : Nat) : Int) * (a.getD (i + 1) 0 % ((2 ^ s : Nat) : Int)) + ((2 ^ (32 - s) : Nat) : Int) ≤ 4294967296 := by
        have := Int.mul_le_mul_of_nonneg_left (show a.getD (i + 1) 0 % ((2 ^ s : Nat) : Int) + 1 ≤ ((2 ^ s : Nat) : Int) by omega) (show (0 : Int) ≤ ((2 ^ (32 - s) : Nat) : Int) by omega)
        rw [Int.mul_add, Int.mul_comm _ ((2 ^ s : Nat) : Int), hq] at this
        omega
      have hy5 : 0 ≤ ((2 ^ (32 - s) : Nat) : Int) * (a.getD (i + 1) 0 % ((2 ^ s : Nat) : Int)) := Int.mul_nonneg (by omega) hy2
      have low := low_up hs dy.1 dy.2
      have ti1 : ((i : Int) + 1).toNat = i + 1 := by omega
      have step : ∀ d l, l = l8.take i ++ [d] ++ l8.drop (i + 1) → d = a.getD i 0 / ((2 ^ s : Nat) : Int) + ((2 ^ (32 - s) : Nat) : Int) * (a.getD (i + 1) 0 % ((2 ^ s : Nat) : Int)) → ∃ (j : Nat) (o : List Int), j ≤ a.length ∧ Digs o ∧ o.length = a.length + r ∧ o.drop j = (a ++ List.replicate r 0).drop j ∧ val (o.take j) * ((2 ^ s : Nat) : Int) + a.getD 0 0 % ((2 ^ s : Nat) : Int) = val (a.take j) + (a.getD j 0 % ((2 ^ s : Nat) : Int)) * pw j ∧ [OV.int .i64 ((i : Int) + 1), OV.lst l] = [OV.int .i64 j, OV.lst o] := by
        rintro d l rfl hd
        have hli : (l8.take i).length = i := by simp; omega
        have hli2 : (l8.take i ++ [d]).length = i + 1 := by simp [hli]
        refine ⟨i + 1, l8.take i ++ [d] ++ l8.drop (i + 1), by omega, ((ho.take i).append (Digs.nil.cons (by omega))).append (ho.drop _), by simp; omega, ?_, ?_, by simp⟩
        · rw [List.drop_append_of_le_length (by omega), List.drop_eq_nil_of_le (by omega), List.nil_append]
          exact drop_succ_of hdr
        · rw [List.take_append_of_le_length (by omega), List.take_of_length_le (by omega), val_append, hli, val_take_succ]
          have e1 : d * ((2 ^ s : Nat) : Int) = (a.getD i 0 - a.getD i 0 % ((2 ^ s : Nat) : Int)) + 4294967296 * (a.getD (i + 1) 0 % ((2 ^ s : Nat) : Int)) := by
            rw [hd, ← hq]; grind
          simp only [val, pw]
          generalize a.getD i 0 % ((2 ^ s : Nat) : Int) = x at *
          generalize a.getD (i + 1) 0 % ((2 ^ s : Nat) : Int) = y at *
          generalize ((2 ^ s : Nat) : Int) = p at *
          grind
      have hset1 : ∀ d, l8.set i d = l8.take i ++ [d] ++ l8.drop (i + 1) := fun d => by
        rw [List.set_eq_take_append_cons_drop, if_pos (by omega)]; simp
      have hlen1 : ∀ d, (l8.set i d).length = a.length + r := fun d => by simpa using hol
      simp only [ti, shr32 hs, shr64 hs, hoi, w64 (show -9223372036854775808 ≤ (i : Int) + 1 by omega) (by omega), ti1, List.length_set, wu32]
      refine ⟨decide_eq_true (by omega), decide_eq_true h, decide_eq_true (by omega), decide_eq_true (by omega), decide_eq_true (by omega), decide_eq_true (by omega), decide_eq_true h, decide_eq_true (by omega), decide_eq_true (by omega), rfl, fun h2 => ?_, fun h2 => ?_⟩
      · have h2 : (i : Int) + 1 < a.length := of_decide_eq_true h2
        rw [wu64 (n := a.getD (i + 1) 0) (by omega) (by omega), wu64 (n := a.getD (i + 1) 0 * 4294967296) (by omega) (by omega), low, set_getD_eq (by omega), or32' hx4 hx5 (by omega) hy2 hy5 (by omega), List.set_set]
        refine ⟨decide_eq_true (by omega), decide_eq_true h, q2.hasB (by omega), decide_eq_true (by omega), decide_eq_true h2, q2, decide_eq_true (by omega), decide_eq_true h2, decide_eq_true (by omega), decide_eq_true (by omega), decide_eq_true (by omega), decide_eq_true (by omega), decide_eq_true h, decide_eq_true (by omega), decide_eq_true (by omega), step _ _ (hset1 _) rfl, by simp only [OV.int, intV]; omega⟩
      · have h2 : ¬ (i : Int) + 1 < a.length := of_decide_eq_false h2
        have h0 : a.getD (i + 1) 0 = 0 := getD_end (by omega)
        refine ⟨step _ _ (hset1 _) (by rw [h0]; simp), by simp only [OV.int, intV]; omega⟩
    · have h : ¬ (i : Int) < a.length := of_decide_eq_false h
      have hia : i = a.length := by omega
      subst hia
      intro hm
      rw [getD_end (l := a) (Nat.le_refl _), Int.zero_emod, List.take_of_length_le (l := a) (Nat.le_refl _), hz] at hv
      have h0 : a.getD 0 0 % ((2 ^ s : Nat) : Int) = 0 ∧ val (l8.take a.length) = z := by
        have hx2 := Int.emod_nonneg (a.getD 0 0) (show ((2 ^ s : Nat) : Int) ≠ 0 by omega)
        have hx3 := Int.emod_lt_of_pos (a.getD 0 0) (show 0 < ((2 ^ s : Nat) : Int) by omega)
        generalize a.getD 0 0 % ((2 ^ s : Nat) : Int) = x at *
        generalize ((2 ^ s : Nat) : Int) = p at *
        generalize val (l8.take a.length) = w at *
        have e : (z - w) * p = x := by rw [Int.sub_mul]; omega
        rcases Int.lt_trichotomy (z - w) 0 with h | h | h
        · have := Int.mul_le_mul_of_nonneg_right (show z - w ≤ -1 by omega) (show 0 ≤ p by omega)
          omega
        · rw [h, Int.zero_mul] at e; omega
        · have := Int.mul_le_mul_of_nonneg_right (show 1 ≤ z - w by omega) (show 0 ≤ p by omega)
          omega
      have p := trim_spec (V := V2.put m0 (.cells (l8.map (Value.int .u32)).toArray ty_u32)) (A := some ⟨m0, 0, none⟩) (c := k) (l := l8.take a.length) (RdV.put (by omega) hk) (ho.take _) (by simp; omega)
      have e1 : (l8.take a.length).length = a.length := by simp; omega
      rw [e1, h0.2] at p
      refine p.mono ?_
      rintro v3 V3 hV3 ⟨A', c', l', e1, h⟩
      exact ⟨A', c', l', e1, A', c', l', rfl, h⟩
end Go.Proofs.YtpcigcogcgpldaaGreatDoor
