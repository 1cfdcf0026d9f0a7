/- A text of this claim's own: SD.IntN, SD.IntO, SD.IntP. -/
import Derived.Test.YtpcigcogcgpldaaGreatDoorSdC
import Derived.Test.YtpcigcogcgpldaaGreatDoorDxQ
set_option linter.unusedVariables false
set_option linter.unusedSimpArgs false
set_option linter.unusedVariables false
set_option linter.unusedSimpArgs false
set_option maxRecDepth 100000
namespace Go.Proofs.YtpcigcogcgpldaaGreatDoor
open Go Go.Dx Dw
/-- what divide hands back -/
def DivR (V : VH) (v : Value) (x y : Int) (n m : Nat) : Prop := ∃ A c l A' c' l', v = .tuple #[.slice A l.length c, .slice A' l'.length c'] ∧ RdV V .u32 (OV.sl A c l) ∧ Digs l ∧ Trim l ∧ val l = x / y ∧ l.length ≤ n ∧
  RdV V .u32 (OV.sl A' c' l') ∧ Digs l' ∧ Trim l' ∧ val l' = x % y ∧ l'.length ≤ m
theorem len_of_lt {a b : List Int} (da : Digs a) (ta : Trim a) (db : Digs b) (h : val a < val b) : a.length ≤ b.length := by
  apply Decidable.byContradiction
  intro hc
  have := val_lt_of_length ta db da (by omega)
  omega
set_option maxHeartbeats 1000000 in
theorem divide_spec {A0 A1 : Option Addr} {c0 c1 : Nat} {a b : List Int} {V : VH} (ha : RdV V .u32 (OV.sl A0 c0 a)) (da : Digs a) (ta : Trim a) (hb : RdV V .u32 (OV.sl A1 c1 b)) (db : Digs b) (tb : Trim b) (hl : a.length < 549755813880) (hm : b.length < 549755813880) (hb0 : 0 < b.length) :
    CSpec Tryz.prog n_integer_divide #[.slice A0 a.length c0, .slice A1 b.length c1] V fun v V' => DivR V' v (val a) (val b) a.length b.length := by
  have va := val_nonneg da
  have vb : 0 < val b := by
    have := tb.lo db (by rintro rfl; simp at hb0)
    have := pw_pos (b.length - 1)
    omega
  refine E_integer_divide A0 c0 a A1 c1 b V _ ((order_spec ha da ta hb db tb (by omega)).mono ?_)
  rintro _ V1 hV1 rfl
  have a1 := ha.mono hV1
  have b1 := hb.mono hV1
  refine ⟨_, rfl, fun h => ?_, fun h => ⟨rfl, fun h1 => ?_, fun h1 => ?_⟩⟩
  · have h := of_decide_eq_true h
    have hlt : val a < val b := by
      simp only [cmp] at h
      split at h
      · assumption
      · split at h <;> simp at h
    exact ⟨none, 0, [], A0, c0, a, rfl, RdV.nil _ _ _ _, Digs.nil, Trim.nil, by rw [Int.ediv_eq_zero_of_lt va hlt]; rfl, by simp, a1, da, ta, by rw [Int.emod_eq_of_lt va hlt], len_of_lt da ta db hlt⟩
  · have h1 : (b.length : Int) = 1 := eq_of_beq h1
    have dx := db.get 0
    have eb : val b = b.getD 0 0 := by
      have := val_take_succ b 0
      rw [List.take_of_length_le (by omega)] at this
      simpa [val, pw] using this
    refine ⟨b1.hasB hb0, decide_eq_true (by omega), b1, decide_eq_true (by omega), (short_spec a1 da (by omega) (by show 0 < b.getD 0 0; omega) (by show b.getD 0 0 < _; omega)).mono ?_⟩
    rintro _ V2 hV2 ⟨A2, c2, l2, rfl, p1, p2, p3, p4, p5⟩
    have hmod0 := Int.emod_nonneg (val a) (show b.getD 0 0 ≠ 0 by omega)
    have hmod1 := Int.emod_lt_of_pos (val a) (show 0 < b.getD 0 0 by omega)
    refine ⟨A2, c2, l2, _, rfl, fun m3 hm3 => ?_⟩
    have p := trim_spec (V := V2.put m3 (.cells (([val a % b.getD 0 0] : List Int).map (Value.int .u32)).toArray ty_u32)) (A := some ⟨m3, 0, none⟩) (c := 1) (l := [val a % b.getD 0 0]) RdV.put' (Digs.cons (by omega) Digs.nil) (by simp)
    refine p.mono ?_
    rintro v3 V3 hV3 ⟨A4, c4, l4, rfl, q1, q2, q3, q4, q5⟩
    refine ⟨A4, c4, l4, rfl, A2, c2, l2, A4, c4, l4, rfl, p1.mono (VH.le_trans (VH.le_put hm3 _) hV3), p2, p3, by rw [p4, eb]; rfl, p5, q1, q2, q3, by rw [q4, eb]; simp [val], by simp at q5; omega⟩
  · have h := of_decide_eq_false h
    have hge : val b ≤ val a := by
      simp only [cmp] at h
      split at h
      · simp at h
      · omega
    have h1 : ¬ (b.length : Int) = 1 := by simpa using h1
    have hlen : b.length ≤ a.length := by
      apply Decidable.byContradiction
      intro hc
      have := val_lt_of_length tb da db (by omega)
      omega
    obtain ⟨n, hn⟩ : ∃ n, b.length = n + 1 := ⟨b.length - 1, by omega⟩
    have dx := db.get n
    have hx0 : 0 < b.getD n 0 := by
      have e := val_take_succ b n
      have := tb (b.take n) (b.getD n 0) (by
        have := drop_getD (l := b) (i := n) (by omega)
        rw [List.drop_of_length_le (i := n + 1) (by omega)] at this
        rw [← this, List.take_append_drop])
      omega
    have wn : IntKind.wrap .i64 ((b.length : Int) - 1) = n := by rw [w64 (by omega) (by omega)]; omega
    have tn : ((n : Nat) : Int).toNat = n := by omega
    rw [wn]
    simp only [tn]
    refine ⟨rfl, b1.hasB hb0, decide_eq_true (by omega), decide_eq_true (by omega), b1, decide_eq_true (by omega), decide_eq_true (by omega), (Lz_spec hx0 dx.2).mono ?_⟩
    rintro _ V4 hV4 ⟨s, rfl, hs, hs1, hs2⟩
    have a4 := a1.mono hV4
    have b4 := b1.mono hV4
    refine ⟨_, rfl, (raised_spec a4 da (by omega) hs).mono (fun _ _ _ h => h.elim) ?_⟩
    rintro _ V5 m4 L4 hV5 ⟨rfl, u1, u2, u3⟩
    have b5 := b4.mono hV5
    refine ⟨(a.length : Int) + 1, (a.length : Int) + 1, by simp, (raised_spec b5 db (by omega) hs).mono (fun _ _ _ h => h.elim) ?_⟩
    rintro _ V6 m5 L5 hV6 ⟨rfl, y1, y2, y3⟩
    refine ⟨(b.length : Int) + 1, (b.length : Int) + 1, by simp, fun hm5 => ?_⟩
    have p := trim_spec (V := V6.put m5 (.cells (L5.map (Value.int .u32)).toArray ty_u32)) (A := some ⟨m5, 0, none⟩) (c := L5.length) (l := L5) RdV.put' y2 (by omega)
    have tb1 : ((b.length : Int) + 1).toNat = L5.length := by omega
    have ta1 : ((a.length : Int) + 1).toNat = a.length + 1 := by omega
    rw [tb1]
    refine p.mono ?_
    rintro _ V7 hV7 ⟨A10, c10, v, rfl, v1, v2, v3, v4, v5⟩
    rw [y3] at v4
    obtain ⟨hvl, htop⟩ := norm_top db v2 v3 hn hs rfl hx0 hs1 hs2 v4
    have wk : IntKind.wrap .i64 (IntKind.wrap .i64 ((a.length : Int) - (b.length : Int)) + 1) = ((a.length - n : Nat) : Int) := by
      rw [w64 (n := (a.length : Int) - (b.length : Int)) (by omega) (by omega), w64 (by omega) (by omega)]; omega
    generalize hk : a.length - n = k at wk
    rw [wk]
    have tk : ((k : Nat) : Int).toNat = k := by omega
    rw [tk, w64 (n := (k : Int) - 1) (by omega) (by omega)]
    have hps : 0 < ((2 ^ s : Nat) : Int) := by have := Nat.two_pow_pos s; omega
    have hps2 : ((2 ^ s : Nat) : Int) ≤ 2147483648 := by have := pow_le_31 hs; omega
    have hv0 : 0 < val v := by rw [v4]; exact Int.mul_pos vb hps
    have hvhi := val_lt v2
    rw [hvl] at hvhi
    refine ⟨A10, c10, v, rfl, rfl, rfl, decide_eq_true (by omega), decide_eq_true (by omega), fun m11 => ⟨decide_eq_true (by omega), fun xs V' => ∃ (j : Nat) (Q U : List Int), j ≤ k ∧ Digs Q ∧ Q.length = k ∧ Digs U ∧ U.length = a.length + 1 ∧ val v * (pw j * val (Q.drop j)) + val U = val a * ((2 ^ s : Nat) : Int) ∧ val U < val v * pw j ∧ xs = [OV.int .i64 ((j : Int) - 1), OV.lst Q, OV.lst U],
      fun xs => match xs with | [x, _, _] => (intV x.v + 1).toNat | _ => 0, ⟨k, List.replicate k 0, L4, by omega, Digs.replicate _, by simp, u2, u1, by rw [List.drop_of_length_le (by simp)]; simp [val, u3], ?_, rfl⟩, ?_⟩⟩
    · -- the start
      rw [u3]
      have e1 := val_take_succ v n
      rw [List.take_of_length_le (by omega)] at e1
      have e2 := val_nonneg (v2.take n)
      have e3 := pw_pos n
      have e4 := val_lt da
      have e5 : pw a.length = pw n * pw k := by rw [← pw_add]; congr 1; omega
      have e6 : pw n * 2147483648 ≤ val v := by
        have : pw n * 2147483648 ≤ pw n * v.getD n 0 := Int.mul_le_mul_of_nonneg_left htop (by omega)
        omega
      have e7 : pw n * 2147483648 * pw k ≤ val v * pw k := Int.mul_le_mul_of_nonneg_right e6 (by have := pw_pos k; omega)
      have e8 : val a * ((2 ^ s : Nat) : Int) ≤ val a * 2147483648 := Int.mul_le_mul_of_nonneg_left hps2 va
      have e9 : pw n * 2147483648 * pw k = pw a.length * 2147483648 := by rw [e5]; grind
      omega
    rintro V8 hV8 n13 l14 l15 ⟨j, Q, U, hj, dQ, hQl, dU, hUl, hsum, hbd, e⟩
    simp only [List.cons.injEq, OV.int_inj, OV.lst_inj, and_true] at e
    obtain ⟨rfl, rfl, rfl⟩ := e
    have v8 := v1.mono hV8
    refine ⟨fun h2 => ?_, fun h2 => ?_⟩
    · have h2 : (0 : Int) ≤ (j : Int) - 1 := of_decide_eq_true h2
      obtain ⟨i, rfl⟩ : ∃ i, j = i + 1 := ⟨j - 1, by omega⟩
      have ei : ((i + 1 : Nat) : Int) - 1 = i := by omega
      have ti : ((i : Nat) : Int).toNat = i := by omega
      rw [ei]
      have w1 : IntKind.wrap .i64 (IntKind.wrap .i64 ((i : Int) + (v.length : Int)) + 1) = ((i + v.length + 1 : Nat) : Int) := by
        rw [w64 (n := (i : Int) + (v.length : Int)) (by omega) (by omega), w64 (by omega) (by omega)]; omega
      rw [w1, ti]
      have t2 : (((i + v.length + 1 : Nat) : Int) - (i : Int)).toNat = v.length + 1 := by omega
      rw [t2]
      obtain ⟨x1, x2, x3⟩ := window dU (show i + (v.length + 1) ≤ l15.length by omega) hbd (by rw [hvl]; exact hvhi)
      have hT : (l15.take i).length = i := by simp; omega
      have hD : (l15.drop i).length = l15.length - i := by simp
      have hd := digit_spec (m := m4) (c := (a.length : Int) + 1 - i) (V := V8) v8 v2 (by omega) (by omega) (by rw [hvl]; simpa using htop) hT (dU.drop i) (by omega) (by rw [List.take_append_drop]; omega) (by rw [x1]; exact x2)
      rw [List.take_append_drop] at hd
      refine ⟨rfl, decide_eq_true (by omega), decide_eq_true (by omega), decide_eq_true (by omega), decide_eq_true (by omega), hd.mono ?_⟩
      rintro _ V9 _ hV9 ⟨W', rfl, z1, z2, z3, rfl, z4⟩
      rw [x1] at z4 ⊢
      have dd0 : 0 ≤ val (l15.drop i) := val_nonneg (dU.drop i)
      have hq0 : 0 ≤ val (l15.drop i) / val v := Int.ediv_nonneg dd0 (by omega)
      have hq1 : val (l15.drop i) / val v < 4294967296 := Int.ediv_lt_of_lt_mul hv0 x2
      have hqr := Int.emod_add_mul_ediv (val (l15.drop i)) (val v)
      have hr1 := Int.emod_lt_of_pos (val (l15.drop i)) hv0
      have hW' : val W' = val (l15.drop i) % val v := by
        have := val_split W' (i := v.length + 1) (by omega)
        rw [z3, x3, z4] at this; omega
      have eU := val_split l15 (i := i) (by omega)
      have lT := val_lt (dU.take i)
      rw [hT] at lT
      have hUn : val (l15.take i ++ W') = val (l15.take i) + pw i * val W' := by rw [val_append, hT]
      refine ⟨_, rfl, decide_eq_true (by omega), decide_eq_true (by omega), decide_eq_true (by omega), decide_eq_true (by omega), ⟨i, l14.set i (val (l15.drop i) / val v), l15.take i ++ W', by omega, dQ.set _ ⟨hq0, hq1⟩, by simpa using hQl, (dU.take i).append z2, by simp; omega, ?_, ?_, ?_⟩, by simp only [OV.int, intV]; rw [w64 (by omega) (by omega)]; omega⟩
      · rw [val_drop (by simp; omega), set_getD_eq (by omega), drop_set_ge, hUn, hW', ← hsum, eU]
        simp only [pw]
        grind
      · rw [hUn, hW']
        have h5 : pw i * (val (l15.drop i) % val v + 1) ≤ pw i * val v := Int.mul_le_mul_of_nonneg_left (by omega) (by have := pw_pos i; omega)
        rw [Int.mul_comm (val v)]
        rw [Int.mul_add] at h5
        omega
      · rw [w64 (by omega) (by omega)]
    · have h2 : ¬ (0 : Int) ≤ (j : Int) - 1 := of_decide_eq_false h2
      have hj0 : j = 0 := by omega
      subst hj0
      simp only [List.drop_zero, pw, Int.one_mul, Int.mul_one] at hsum hbd
      intro hm11
      have q := trim_spec (V := V8.put m11 (.cells (l14.map (Value.int .u32)).toArray ty_u32)) (A := some ⟨m11, 0, none⟩) (c := l14.length) (l := l14) RdV.put' dQ (by omega)
      rw [hQl] at q
      refine q.mono ?_
      rintro _ V10 hV10 ⟨A17, c17, l17, rfl, s1, s2, s3, s4, s5⟩
      refine ⟨A17, c17, l17, rfl, fun hm4 => ?_⟩
      have q' := trim_spec (V := V10.put m4 (.cells (l15.map (Value.int .u32)).toArray ty_u32)) (A := some ⟨m4, 0, none⟩) (c := l15.length) (l := l15) RdV.put' dU (by omega)
      rw [hUl] at q'
      rw [ta1]
      refine q'.mono ?_
      rintro _ V11 hV11 ⟨A18, c18, l18, rfl, r1, r2, r3, r4, r5⟩
      have hz : val l18 = (val a - val b * val l14) * ((2 ^ s : Nat) : Int) := by
        rw [r4, Int.sub_mul, ← hsum, v4]
        generalize ((2 ^ s : Nat) : Int) = t
        grind
      have hU0 := val_nonneg dU
      rw [r4] at hz
      have hz0 : 0 ≤ val a - val b * val l14 := by
        apply Decidable.byContradiction
        intro hc
        have : (val a - val b * val l14) * ((2 ^ s : Nat) : Int) ≤ (-1) * ((2 ^ s : Nat) : Int) := Int.mul_le_mul_of_nonneg_right (by omega) (by omega)
        omega
      have hz1 : val a - val b * val l14 < val b := by
        apply Decidable.byContradiction
        intro hc
        have : val b * ((2 ^ s : Nat) : Int) ≤ (val a - val b * val l14) * ((2 ^ s : Nat) : Int) := Int.mul_le_mul_of_nonneg_right (by omega) (by omega)
        omega
      have hdiv : val a / val b = val l14 := by
        rw [Int.ediv_eq_iff_of_pos vb]
        rw [Int.mul_comm] at hz0 hz1
        constructor <;> omega
      have hmod : val a % val b = val a - val b * val l14 := by
        have := Int.emod_add_mul_ediv (val a) (val b)
        rw [hdiv] at this; omega
      refine ⟨A18, c18, l18, rfl, (lowered_spec r1 r2 (by omega) hs (by rw [r4]; exact hz)).mono ?_⟩
      rintro _ V12 hV12 ⟨A19, c19, l19, rfl, t1, t2, t3, t4, t5⟩
      refine ⟨A19, c19, l19, rfl, A17, c17, l17, A19, c19, l19, rfl, (s1.mono (VH.le_trans (VH.le_put hm4 _) hV11)).mono hV12, s2, s3, by rw [s4, hdiv], by omega, t1, t2, t3, by rw [t4, hmod], ?_⟩
      exact len_of_lt t2 t3 db (by rw [t4]; exact hz1)
end Go.Proofs.YtpcigcogcgpldaaGreatDoor

set_option linter.unusedVariables false
set_option linter.unusedSimpArgs false
set_option maxRecDepth 100000
namespace Go.Proofs.YtpcigcogcgpldaaGreatDoor
open Go Go.Dx Dw
theorem neg_div {a y : Int} (hy : 0 < y) (h : a % y ≠ 0) : (-a) / y = -(a / y) - 1 ∧ (-a) % y = y - a % y := by
  have h1 := Int.emod_add_mul_ediv a y
  have h2 := Int.emod_nonneg a (show y ≠ 0 by omega)
  have h3 := Int.emod_lt_of_pos a hy
  have e : (-(a / y) - 1) * y = -(y * (a / y)) - y := by grind
  have e2 : (-(a / y) - 1 + 1) * y = -(y * (a / y)) := by grind
  have hd : (-a) / y = -(a / y) - 1 := by
    rw [Int.ediv_eq_iff_of_pos hy]
    constructor <;> omega
  refine ⟨hd, ?_⟩
  have h4 := Int.emod_add_mul_ediv (-a) y
  rw [hd, Int.mul_comm, e] at h4; omega
theorem neg_div0 {a y : Int} (hy : 0 < y) (h : a % y = 0) : (-a) / y = -(a / y) ∧ (-a) % y = 0 := by
  have h1 := Int.emod_add_mul_ediv a y
  have e : -(a / y) * y = -(y * (a / y)) := by grind
  have e2 : (-(a / y) + 1) * y = -(y * (a / y)) + y := by grind
  have hd : (-a) / y = -(a / y) := by
    rw [Int.ediv_eq_iff_of_pos hy]
    constructor <;> omega
  refine ⟨hd, ?_⟩
  have h4 := Int.emod_add_mul_ediv (-a) y
  rw [hd, Int.mul_comm, e] at h4; omega
/-- the bound on digits: what two integers may have when they meet -/
theorem DivMod_spec {p q : R2} {x y : Int} {V : VH} (h : IntR V p x) (k : IntR V q y) (hy : 0 < y) (hl : p.l.length < 549755813880) (hm : q.l.length < 549755813880) :
    CSpec Tryz.prog n_integer_DivMod #[p.v, q.v] V fun v V' => ∃ i j : R2, v = .tuple #[i.v, j.v, .int .i64 0] ∧ IntR V' i (x / y) ∧ i.l.length ≤ p.l.length + 3 ∧ IntR V' j (x % y) ∧ j.l.length ≤ q.l.length + 1 := by
  refine E_integer_DivMod p q V _ (fun _ _ _ _ => (Sign_spec k).mono ?_)
  rintro _ V1 hV1 rfl
  have sy : y.sign = 1 := Int.sign_eq_one_of_pos hy
  refine ⟨_, rfl, fun e => ?_, fun _ => ?_⟩
  · rw [sy] at e; simp at e
  have kq := k.mono hV1
  obtain ⟨h1, h2, h3, h4, h5⟩ := h
  obtain ⟨k1, k2, k3, k4, k5⟩ := k
  have vp := val_nonneg h2
  have vq := val_nonneg k2
  have kn : q.n = false := by
    cases hn : q.n with
    | false => rfl
    | true => rw [hn] at k4; simp only [if_true] at k4; omega
  rw [kn] at k4
  simp only [Bool.false_eq_true, if_false] at k4
  subst k4
  have hq0 : 0 < q.l.length := by
    apply Nat.pos_of_ne_zero; intro e; rw [List.length_eq_zero_iff] at e; rw [e] at hy; simp [val] at hy
  refine (divide_spec (h1.mono hV1) h2 h3 (k1.mono hV1) k2 k3 hl hm hq0).mono ?_
  rintro _ V2 hV2 ⟨A5, c5, l5, A6, c6, l6, rfl, d1, d2, d3, d4, d5, d6, d7, d8, d9, d10⟩
  refine ⟨A5, c5, l5, A6, c6, l6, rfl, (signed_spec d1 d2 (by omega)).mono ?_⟩
  rintro _ V3 hV3 ⟨i7, rfl, r7, b7⟩
  refine ⟨i7, rfl, (signed_spec (d6.mono hV3) d7 (by omega)).mono ?_⟩
  rintro _ V4 hV4 ⟨i8, rfl, r8, b8⟩
  refine ⟨i8, rfl, (Sign_spec r8).mono ?_⟩
  rintro _ V5 hV5 rfl
  have r7' := (r7.mono hV4).mono hV5
  have r8' := r8.mono hV5
  have kq' := (((kq.mono hV2).mono hV3).mono hV4).mono hV5
  rw [kn] at r7'
  rw [d4] at r7'
  rw [d9] at r8' r8
  have hr0 := Int.emod_nonneg (val p.l) (show val q.l ≠ 0 by omega)
  rw [d9]
  have i8n : i8.n = true → (if p.n = true then -(val p.l % val q.l) else val p.l % val q.l) < 0 := by
    intro hn
    obtain ⟨_, q2, q3, q4, q5⟩ := r8
    rw [q4, hn]
    have := q3.lo q2 (q5 hn)
    have := pw_pos (i8.l.length - 1)
    simp; omega
  have i8n' : i8.n = false → 0 ≤ (if p.n = true then -(val p.l % val q.l) else val p.l % val q.l) := by
    intro hn
    obtain ⟨_, q2, q3, q4, q5⟩ := r8
    rw [q4, hn]
    have := val_nonneg q2
    simp; omega
  refine ⟨_, rfl, fun e => ⟨fun f => ?_, fun f => ?_⟩, fun e => ?_⟩
  · have hn : i8.n = true := by
      rw [kn] at f
      simpa using f
    have hneg := i8n hn
    have hp : p.n = true := by
      cases hp : p.n with
      | true => rfl
      | false => rw [hp] at hneg; simp at hneg; omega
    rw [hp] at r7' r8' h4 hneg
    simp only [if_true] at h4 r8' hneg
    simp only [Bool.true_beq, Bool.not_false, if_true] at r7'
    subst h4
    obtain ⟨e1, e2⟩ := neg_div hy (show val p.l % val q.l ≠ 0 by omega)
    have addk : ∀ (i : R2) (V' : VH), V5.le V' → IntR V' i (-val p.l / val q.l) → i.l.length ≤ p.l.length + 3 → CSpec Tryz.prog n_integer_Add #[i8.v, q.v] V' fun v V'' => ∃ i12 : R2, v = i12.v ∧
        (((∃ i' j' : R2, (.tuple #[i.v, i12.v, .int .i64 0] : Value) = .tuple #[i'.v, j'.v, .int .i64 0] ∧ IntR V'' i' (-val p.l / val q.l) ∧ i'.l.length ≤ p.l.length + 3 ∧ IntR V'' j' (-val p.l % val q.l) ∧ j'.l.length ≤ q.l.length + 1) ∧
          (∃ i' j' : R2, (.tuple #[i.v, i12.v, .int .i64 0] : Value) = .tuple #[i'.v, j'.v, .int .i64 0] ∧ IntR V'' i' (-val p.l / val q.l) ∧ i'.l.length ≤ p.l.length + 3 ∧ IntR V'' j' (-val p.l % val q.l) ∧ j'.l.length ≤ q.l.length + 1)) ∧
          (∃ i' j' : R2, (.tuple #[i.v, i12.v, .int .i64 0] : Value) = .tuple #[i'.v, j'.v, .int .i64 0] ∧ IntR V'' i' (-val p.l / val q.l) ∧ i'.l.length ≤ p.l.length + 3 ∧ IntR V'' j' (-val p.l % val q.l) ∧ j'.l.length ≤ q.l.length + 1)) := by
      intro i V' hV' hi hil
      refine (Add_spec (r8'.mono hV') (kq'.mono hV') (by omega) (by omega)).mono ?_
      rintro _ V'' hV'' ⟨j, rfl, rj, bj⟩
      have G : ∃ i' j' : R2, (.tuple #[i.v, j.v, .int .i64 0] : Value) = .tuple #[i'.v, j'.v, .int .i64 0] ∧ IntR V'' i' (-val p.l / val q.l) ∧ i'.l.length ≤ p.l.length + 3 ∧ IntR V'' j' (-val p.l % val q.l) ∧ j'.l.length ≤ q.l.length + 1 := by
        refine ⟨i, j, rfl, hi.mono hV'', hil, ?_, by omega⟩
        rw [e2, show val q.l - val p.l % val q.l = -(val p.l % val q.l) + val q.l by omega]
        exact rj
      exact ⟨j, rfl, ⟨G, G⟩, G⟩
    have subk : ∀ (o : R2) (V' : VH), V5.le V' → IntR V' o 1 → o.l.length ≤ 2 → CSpec Tryz.prog n_integer_Sub #[i7.v, o.v] V' fun v V6 => ∃ i11 : R2, v = i11.v ∧ CSpec Tryz.prog n_integer_Add #[i8.v, q.v] V6 fun v V'' => ∃ i12 : R2, v = i12.v ∧
        (((∃ i' j' : R2, (.tuple #[i11.v, i12.v, .int .i64 0] : Value) = .tuple #[i'.v, j'.v, .int .i64 0] ∧ IntR V'' i' (-val p.l / val q.l) ∧ i'.l.length ≤ p.l.length + 3 ∧ IntR V'' j' (-val p.l % val q.l) ∧ j'.l.length ≤ q.l.length + 1) ∧
          (∃ i' j' : R2, (.tuple #[i11.v, i12.v, .int .i64 0] : Value) = .tuple #[i'.v, j'.v, .int .i64 0] ∧ IntR V'' i' (-val p.l / val q.l) ∧ i'.l.length ≤ p.l.length + 3 ∧ IntR V'' j' (-val p.l % val q.l) ∧ j'.l.length ≤ q.l.length + 1)) ∧
          (∃ i' j' : R2, (.tuple #[i11.v, i12.v, .int .i64 0] : Value) = .tuple #[i'.v, j'.v, .int .i64 0] ∧ IntR V'' i' (-val p.l / val q.l) ∧ i'.l.length ≤ p.l.length + 3 ∧ IntR V'' j' (-val p.l % val q.l) ∧ j'.l.length ≤ q.l.length + 1)) := by
      intro o V' hV' ho hol
      refine (Sub_spec (r7'.mono hV') ho (by omega) (by omega)).mono ?_
      rintro _ V'' hV'' ⟨j, rfl, rj, bj⟩
      refine ⟨j, rfl, addk j V'' (VH.le_trans hV' hV'') (by rw [e1]; exact rj) (by omega)⟩
    repeat' apply And.intro
    all_goals
      refine (From_spec (by decide) (by decide)).mono ?_
      rintro _ V6 hV6 ⟨o, rfl, ro, bo⟩
      refine ⟨o, rfl, ?_⟩
      have S := subk o V6 hV6 ro bo
      repeat' apply And.intro
      all_goals exact S
  · have hn : i8.n = false := by
      rw [kn] at f
      simpa using f
    have hnn := i8n' hn
    have G : ∃ i' j' : R2, (.tuple #[i7.v, i8.v, .int .i64 0] : Value) = .tuple #[i'.v, j'.v, .int .i64 0] ∧ IntR V5 i' (x / val q.l) ∧ i'.l.length ≤ p.l.length + 3 ∧ IntR V5 j' (x % val q.l) ∧ j'.l.length ≤ q.l.length + 1 := by
      refine ⟨i7, i8, rfl, ?_, by omega, ?_, by omega⟩
      · cases hp : p.n with
        | false =>
          rw [hp] at r7' h4
          simp at h4 r7'
          rw [h4]; exact r7'
        | true =>
          exfalso
          rw [hp] at hnn e
          simp only [if_true] at hnn e
          have : val p.l % val q.l = 0 := by omega
          rw [this] at e; simp at e
      · cases hp : p.n with
        | false =>
          rw [hp] at r8' h4
          simp at h4 r8'
          rw [h4]; exact r8'
        | true =>
          exfalso
          rw [hp] at hnn e
          simp only [if_true] at hnn e
          have : val p.l % val q.l = 0 := by omega
          rw [this] at e; simp at e
    exact ⟨⟨G, G⟩, G⟩
  · have hr : val p.l % val q.l = 0 := by
      have : (if p.n = true then -(val p.l % val q.l) else val p.l % val q.l).sign = 0 := by simpa using e
      rw [Int.sign_eq_zero_iff_zero] at this
      split at this <;> omega
    have G : ∃ i' j' : R2, (.tuple #[i7.v, i8.v, .int .i64 0] : Value) = .tuple #[i'.v, j'.v, .int .i64 0] ∧ IntR V5 i' (x / val q.l) ∧ i'.l.length ≤ p.l.length + 3 ∧ IntR V5 j' (x % val q.l) ∧ j'.l.length ≤ q.l.length + 1 := by
      obtain ⟨e1, e2⟩ := neg_div0 hy hr
      refine ⟨i7, i8, rfl, ?_, by omega, ?_, by omega⟩
      · cases hp : p.n with
        | false =>
          rw [hp] at r7' h4
          simp at h4 r7'
          rw [h4]; exact r7'
        | true =>
          rw [hp] at r7' h4
          simp at h4 r7'
          rw [h4, e1]; exact r7'
      · rw [hr] at r8'
        cases hp : p.n with
        | false =>
          rw [hp] at r8' h4
          simp at h4 r8'
          rw [h4, hr]; exact r8'
        | true =>
          rw [hp] at r8' h4
          simp at h4 r8'
          rw [h4, e2]; exact r8'
    exact ⟨⟨G, G⟩, G⟩
end Go.Proofs.YtpcigcogcgpldaaGreatDoor

set_option linter.unusedVariables false
set_option linter.unusedSimpArgs false
set_option maxRecDepth 100000
namespace Go.Proofs.YtpcigcogcgpldaaGreatDoor
open Go Go.Dx Dw
theorem gcd_step {a b : Int} (ha : 0 ≤ a) (hb : 0 < b) : Int.gcd b (a % b) = Int.gcd a b := by
  obtain ⟨m, rfl⟩ := Int.eq_ofNat_of_zero_le ha
  obtain ⟨n, rfl⟩ := Int.eq_ofNat_of_zero_le (by omega : 0 ≤ b)
  rw [← Int.natCast_emod, Int.gcd_natCast_natCast, Int.gcd_natCast_natCast, Nat.gcd_comm, ← Nat.gcd_rec, Nat.gcd_comm]
theorem IntR.natAbs {V : VH} {r : R2} {z : Int} (h : IntR V r z) : z.natAbs = (val r.l).natAbs := by
  obtain ⟨h1, h2, h3, h4, h5⟩ := h
  rw [h4]; split <;> simp
theorem Gcd_spec {p q : R2} {x y : Int} {V : VH} (h : IntR V p x) (k : IntR V q y) (hl : p.l.length < 549755813880) (hm : q.l.length < 549755813880) :
    CSpec Tryz.prog n_integer_Gcd #[p.v, q.v] V fun v V' => IntV V' v (Int.gcd x y) (max p.l.length q.l.length) := by
  have hg : Int.gcd x y = Int.gcd (val p.l) (val q.l) := by
    simp only [Int.gcd, h.natAbs, k.natAbs]
  rw [hg]
  obtain ⟨h1, h2, h3, h4, h5⟩ := h
  obtain ⟨k1, k2, k3, k4, k5⟩ := k
  refine E_integer_Gcd p q V _ fun _ _ _ => ⟨fun xs V' => ∃ A c l A' c' l', xs = [OV.sl A c l, OV.sl A' c' l'] ∧ RdV V' .u32 (OV.sl A c l) ∧ RdV V' .u32 (OV.sl A' c' l') ∧ Digs l ∧ Trim l ∧ Digs l' ∧ Trim l' ∧ l.length ≤ max p.l.length q.l.length ∧ l'.length ≤ max p.l.length q.l.length ∧ Int.gcd (val l) (val l') = Int.gcd (val p.l) (val q.l),
    fun xs => match xs with | [_, x] => (val x.l).toNat | _ => 0, ⟨p.A, p.c, p.l, q.A, q.c, q.l, rfl, h1, k1, h2, h3, k2, k3, by omega, by omega, rfl⟩, ?_⟩
  rintro V1 hV1 x4 x5 ⟨A, c, l, A', c', l', e, r1, r2, d1, t1, d2, t2, b1, b2, g⟩
  simp only [List.cons.injEq, and_true] at e
  obtain ⟨rfl, rfl⟩ := e
  refine ⟨rfl, fun f => ?_, fun f => ?_⟩
  · have f : (0 : Int) < (l'.length : Int) := of_decide_eq_true f
    have hpos : 0 < val l' := by
      have := t2.lo d2 (by rintro rfl; simp at f)
      have := pw_pos (l'.length - 1)
      omega
    refine (divide_spec (r1.mono (VH.le_refl _)) d1 t1 r2 d2 t2 (by omega) (by omega) (by omega)).mono ?_
    rintro _ V2 hV2 ⟨A5, c5, l5, A6, c6, l6, rfl, e1, e2, e3, e4, e5, e6, e7, e8, e9, e10⟩
    refine ⟨A5, c5, l5, A6, c6, l6, rfl, ⟨A', c', l', A6, c6, l6, rfl, r2.mono hV2, e6, d2, t2, e7, e8, b2, by omega, ?_⟩, ?_⟩
    · rw [e9, gcd_step (val_nonneg d1) hpos, g]
    · show (val l6).toNat < (val l').toNat
      rw [e9]
      have := Int.emod_lt_of_pos (val l) hpos
      have := Int.emod_nonneg (val l) (show val l' ≠ 0 by omega)
      omega
  · have f : ¬ (0 : Int) < (l'.length : Int) := of_decide_eq_false f
    have : l' = [] := List.length_eq_zero_iff.1 (by omega)
    subst this
    refine ⟨⟨false, A, l, c⟩, rfl, ⟨r1, d1, t1, ?_, fun h => by cases h⟩, b1⟩
    rw [← g]
    have := val_nonneg d1
    simp [val]; omega
end Go.Proofs.YtpcigcogcgpldaaGreatDoor
