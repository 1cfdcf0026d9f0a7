/- A text of this claim's own: SD.OfC, SD.RotQ. -/
import Derived.Test.YtpcigcogcgpldaaGreatDoorSdH
import Derived.Test.YtpcigcogcgpldaaGreatDoorSDGQua
set_option linter.unusedVariables false
set_option linter.unusedSimpArgs false
set_option linter.unusedVariables false
set_option linter.unusedSimpArgs false
set_option maxRecDepth 100000
namespace Go.Proofs.YtpcigcogcgpldaaGreatDoor
open Go Go.Dx Dw
theorem zeros_dval : ∀ l : List UInt8, l.all (· == 48) = true → dval l = 0
  | [], _ => rfl
  | b :: l, h => by
    simp only [List.all_cons, Bool.and_eq_true, beq_iff_eq] at h
    rw [dval_cons, zeros_dval l h.2, h.1]; simp
theorem txtZ_nat (n : Nat) : txtZ (n : Int) = decB n := by
  unfold txtZ; rw [if_neg (by omega)]; rfl
theorem zeros_dec {n : Nat} (h : 0 < n) : zerosT (decB n) = false := by
  cases e : zerosT (decB n) with
  | false => rfl
  | true =>
    have := zeros_dval _ e
    rw [decB_data, dval_dec] at this
    omega
/-- what is written is read again -/
theorem read_txt {q : Rat} {most : Int} (hs : ((ratTxt q).size : Int) ≤ most) (h6 : most ≤ 65536) : errQ (ratTxt q) most = 0 ∧ numQ (ratTxt q) = q := by
  obtain ⟨h1, h2, h3⟩ := cut_ratTxt q
  have t1 := topT_size (ratTxt q)
  have t2 := botT_size (ratTxt q)
  have hp := q.den_pos
  have e1 : errI (topT (ratTxt q)) = 0 := by rw [h2]; exact err_txt (by rw [← h2]; omega)
  have n1 : numI (topT (ratTxt q)) = q.num := by rw [h2]; exact num_txt _
  by_cases hd : q.den = 1
  · have hd' : divT (ratTxt q) = false := by rw [h1]; simp [hd]
    refine ⟨?_, ?_⟩
    · unfold errQ
      rw [if_neg (by omega), hd', h2, dg1_mag, ← h2, if_neg (by simp), if_neg (by simp), if_neg (by simpa using e1), if_neg (by simp)]
    · unfold numQ
      rw [hd', n1]
      simp only [Bool.false_eq_true, if_false]
      apply Rat.ext
      · rfl
      · rw [hd]; rfl
  · have hd' : divT (ratTxt q) = true := by rw [h1]; simp [hd]
    have hb := h3 hd
    have e2 : errI (botT (ratTxt q)) = 0 := by rw [hb, ← txtZ_nat]; exact err_txt (by rw [txtZ_nat, ← hb]; omega)
    have n2 : numI (botT (ratTxt q)) = q.den := by rw [hb, ← txtZ_nat]; exact num_txt _
    have hg : Int.gcd q.num (q.den : Int) = 1 := by
      have := q.reduced
      rw [Int.gcd, Int.natAbs_natCast]; exact this
    refine ⟨?_, ?_⟩
    · unfold errQ
      rw [if_neg (by omega), if_neg, if_neg, if_neg (by simpa using e1), if_neg]
      · rintro ⟨_, h | h | h⟩
        · exact h e2
        · rw [n2] at h; omega
        · rw [n1, n2] at h; exact h hg
      · rintro ⟨_, h⟩
        rw [hb, zeros_dec hp] at h; cases h
      · rintro (h | ⟨_, h⟩)
        · rw [h2, dg1_mag] at h; cases h
        · rw [hb, dg1_dec] at h; cases h
    · unfold numQ
      rw [hd', n1, n2]
      simp only [if_true]
      exact Rat.num_divInt_den q
theorem txt_small {q : Rat} (h1 : q.num.natAbs ≤ 200) (h2 : q.den ≤ 10) : ((ratTxt q).size : Int) ≤ 400 := by
  have s1 := txtZ_size q.num
  have s2 := dec_len q.num.natAbs
  have s3 := dec_len q.den
  unfold ratTxt
  split
  · omega
  · rw [ByteArray.size_append, ByteArray.size_append, size_list (decB _), decB_data]
    show (((txtZ q.num).size + 1 + _ : Nat) : Int) ≤ _
    omega
theorem small_quot {a b : Int} (ha : a.natAbs ≤ 200) (hb0 : 0 < b) (hb : b ≤ 10) : ((a : Rat) / (b : Rat)).num.natAbs ≤ 200 ∧ ((a : Rat) / (b : Rat)).den ≤ 10 := by
  rw [← Rat.divInt_eq_div]
  have hnum := Rat.num_divInt a b
  have hden := Rat.den_divInt a b
  rw [Int.sign_eq_one_of_pos hb0, Int.one_mul] at hnum
  rw [if_neg (by omega)] at hden
  rw [hnum, hden]
  refine ⟨Nat.le_trans (natAbs_ediv_le a (Int.gcd b a)) ha, ?_⟩
  have := Nat.div_le_self b.natAbs (Int.gcd b a)
  omega
/-- the motion of a placement -/
def nrm (w x y z : Int) : Int := w * w + x * x + y * y + z * z
def ofQ (w x y z : Int) (s : Q3) : QM :=
  ⟨(iv (w * w + x * x - y * y - z * z) (2 * (x * y - w * z)) (2 * (x * z + w * y))).scale (((1 : Int) : Rat) / ((nrm w x y z : Int) : Rat)),
   (iv (2 * (x * y + w * z)) (w * w - x * x + y * y - z * z) (2 * (y * z - w * x))).scale (((1 : Int) : Rat) / ((nrm w x y z : Int) : Rat)),
   (iv (2 * (x * z - w * y)) (2 * (y * z + w * x)) (w * w - x * x - y * y + z * z)).scale (((1 : Int) : Rat) / ((nrm w x y z : Int) : Rat)), s⟩
theorem mul12 {x y : Int} (hx : inT x) (hy : inT y) : -144 ≤ x * y ∧ x * y ≤ 144 := by
  have h : (x * y).natAbs ≤ 12 * 12 := by
    rw [Int.natAbs_mul]
    obtain ⟨h1, h2⟩ := hx
    obtain ⟨h3, h4⟩ := hy
    exact Nat.mul_le_mul (by omega) (by omega)
  omega
theorem chk_in {w x y z : Int} (h : chkT w x y z = 0) : (inT w ∧ inT x ∧ inT y ∧ inT z) ∧ ¬ (w = 0 ∧ x = 0 ∧ y = 0 ∧ z = 0) := by
  unfold chkT at h
  split at h
  · cases h
  rename_i h1
  split at h
  · cases h
  rename_i h2
  exact ⟨Decidable.of_not_not h2, h1⟩
theorem sq0 (x : Int) : 0 ≤ x * x ∧ (x ≠ 0 → 0 < x * x) := by
  have h : x * x = (x.natAbs * x.natAbs : Nat) := by rw [Int.natCast_mul, Int.natAbs_mul_self']
  refine ⟨by omega, fun h0 => ?_⟩
  have := Nat.mul_pos (show 0 < x.natAbs by omega) (show 0 < x.natAbs by omega)
  omega
theorem nrm_pos {w x y z : Int} (h : ¬ (w = 0 ∧ x = 0 ∧ y = 0 ∧ z = 0)) : 0 < nrm w x y z := by
  unfold nrm
  have a := sq0 w
  have b := sq0 x
  have c := sq0 y
  have d := sq0 z
  by_cases h1 : w = 0
  · by_cases h2 : x = 0
    · by_cases h3 : y = 0
      · have h4 : z ≠ 0 := fun e => h ⟨h1, h2, h3, e⟩
        have := d.2 h4; omega
      · have := c.2 h3; omega
    · have := b.2 h2; omega
  · have := a.2 h1; omega
theorem w64' {n : Int} (h0 : -9223372036854775808 ≤ n) (h1 : n < 9223372036854775808) : IntKind.wrap .i64 n = n := w64 h0 h1
set_option maxHeartbeats 2000000 in
theorem Of_spec {w x y z : Int} {a b c : ByteArray} {V : VH} (ha : a.size ≤ 9223372036854775806) (hb : b.size ≤ 9223372036854775806) (hc : c.size ≤ 9223372036854775806) (h : chkT w x y z = 0) (he : errV a b c = 0) :
    CSpec Tryz.prog n_motion_Of #[.agg #[.int .i64 w, .int .i64 x, .int .i64 y, .int .i64 z, .string a, .string b, .string c]] V fun v V' => ∃ r : R48, v = .tuple #[r.v, .int .i64 0] ∧ MoL V' r (ofQ w x y z (numV a b c)) 5 := by
  obtain ⟨⟨hw, hx, hy, hz⟩, h0⟩ := chk_in h
  have np := nrm_pos h0
  have ww := mul12 hw hw
  have wx := mul12 hw hx
  have wy := mul12 hw hy
  have wz := mul12 hw hz
  have xx := mul12 hx hx
  have xy := mul12 hx hy
  have xz := mul12 hx hz
  have yy := mul12 hy hy
  have yz := mul12 hy hz
  have zz := mul12 hz hz
  refine E_motion_Of w x y z a b c V _ fun _ _ => (Check_spec ha hb hc).mono ?_
  rintro _ V1 hV1 rfl
  rw [if_pos h, he]
  refine ⟨0, rfl, fun e => (by cases e), fun _ => (VParse ha hb hc).mono ?_⟩
  rintro _ V2 hV2 ⟨s, n, rfl, rfl, hs⟩
  have hs := hs he
  refine ⟨s.a, s.b, s.c, _, rfl, fun _ _ => (LFrom (by omega) (by omega)).mono ?_⟩
  rintro _ V3 hV3 ⟨o1, rfl, ho⟩
  refine ⟨o1, rfl, ?_⟩
  clear hw hx hy hz
  have hn : nrm w x y z = w * w + x * x + y * y + z * z := rfl
  generalize hww : w * w = ww' at *
  generalize hwx : w * x = wx' at *
  generalize hwy : w * y = wy' at *
  generalize hwz : w * z = wz' at *
  generalize hxx : x * x = xx' at *
  generalize hxy : x * y = xy' at *
  generalize hxz : x * z = xz' at *
  generalize hyy : y * y = yy' at *
  generalize hyz : y * z = yz' at *
  generalize hzz : z * z = zz' at *
  simp (disch := omega) only [w64']
  refine (LFrom (by omega) (by omega)).mono ?_
  rintro _ V4 hV4 ⟨o2, rfl, hd⟩
  refine ⟨o2, rfl, (LDiv (ho.mono hV4) hd (by omega)).mono ?_⟩
  rintro _ V5 hV5 ⟨p, rfl, hp⟩
  refine ⟨p, _, rfl, fun _ _ _ => (VOf ⟨by omega, by omega⟩ ⟨by omega, by omega⟩ ⟨by omega, by omega⟩).mono ?_⟩
  rintro _ V6 hV6 ⟨u1, rfl, hu1⟩
  refine ⟨u1.a, u1.b, u1.c, rfl, (VScale (hu1.up (show 0 ≤ 1 by omega)) (hp.mono hV6) (by omega)).mono ?_⟩
  rintro _ V7 hV7 ⟨a1, rfl, ha1⟩
  refine ⟨a1.a, a1.b, a1.c, rfl, fun _ => (VOf ⟨by omega, by omega⟩ ⟨by omega, by omega⟩ ⟨by omega, by omega⟩).mono ?_⟩
  rintro _ V8 hV8 ⟨u2, rfl, hu2⟩
  refine ⟨u2.a, u2.b, u2.c, rfl, (VScale (hu2.up (show 0 ≤ 1 by omega)) (((hp.mono hV6).mono hV7).mono hV8) (by omega)).mono ?_⟩
  rintro _ V9 hV9 ⟨a2, rfl, ha2⟩
  refine ⟨a2.a, a2.b, a2.c, rfl, fun _ => (VOf ⟨by omega, by omega⟩ ⟨by omega, by omega⟩ ⟨by omega, by omega⟩).mono ?_⟩
  rintro _ V10 hV10 ⟨u3, rfl, hu3⟩
  refine ⟨u3.a, u3.b, u3.c, rfl, (VScale (hu3.up (show 0 ≤ 1 by omega)) (((((hp.mono hV6).mono hV7).mono hV8).mono hV9).mono hV10) (by omega)).mono ?_⟩
  rintro _ V11 hV11 ⟨a3, rfl, ha3⟩
  refine ⟨a3.a, a3.b, a3.c, rfl, ⟨a1, a2, a3, s⟩, rfl, ?_⟩
  have hs := ((((((((hs.mono hV3).mono hV4).mono hV5).mono hV6).mono hV7).mono hV8).mono hV9).mono hV10).mono hV11
  have ha1 := (((ha1.mono hV8).mono hV9).mono hV10).mono hV11
  have ha2 := (ha2.mono hV10).mono hV11
  unfold ofQ
  rw [hn, hww, hwx, hwy, hwz, hxx, hxy, hxz, hyy, hyz, hzz]
  exact ⟨ha1.up (by omega), ha2.up (by omega), ha3.up (by omega), hs⟩
theorem Check0 {w x y z : Int} {V : VH} : CSpec Tryz.prog n_motion_Check #[.agg #[.int .i64 w, .int .i64 x, .int .i64 y, .int .i64 z, .string (⟨#[48]⟩ : ByteArray), .string (⟨#[48]⟩ : ByteArray), .string (⟨#[48]⟩ : ByteArray)]] V fun v V' => v = .int .i64 (chkT w x y z) := by
  refine (Check_spec (by decide) (by decide) (by decide)).mono ?_
  rintro _ V1 hV1 rfl
  have e : errV (⟨#[48]⟩ : ByteArray) (⟨#[48]⟩ : ByteArray) (⟨#[48]⟩ : ByteArray) = 0 := by decide +kernel
  rw [e]
  split
  · rename_i h; rw [h]
  · rfl
set_option maxHeartbeats 4000000 in
theorem Quarters_spec {V : VH} : CSpec Tryz.prog n_motion_Quarters #[] V fun v V' => ∃ (m c : Nat) (tl : List Value) (T : TypeId), v = .slice (some ⟨m, 0, none⟩) 24 c ∧ 24 ≤ c ∧ V'.f m = some (.cells (qs24 ++ tl).toArray T) := by
  refine E_motion_Quarters V _ ?_
  intros
  refine Check0.mono ?_
  rintro _ V1 _ rfl
  refine ⟨_, rfl, by decide +kernel, ?_⟩
  intros
  refine Check0.mono ?_
  rintro _ V2 _ rfl
  refine ⟨_, rfl, by decide +kernel, ?_⟩
  intros
  refine Check0.mono ?_
  rintro _ V3 _ rfl
  refine ⟨_, rfl, by decide +kernel, ?_⟩
  intros
  refine Check0.mono ?_
  rintro _ V4 _ rfl
  refine ⟨_, rfl, by decide +kernel, ?_⟩
  intros
  refine Check0.mono ?_
  rintro _ V5 _ rfl
  refine ⟨_, rfl, by decide +kernel, ?_⟩
  intros
  refine Check0.mono ?_
  rintro _ V6 _ rfl
  refine ⟨_, rfl, by decide +kernel, ?_⟩
  intros
  refine Check0.mono ?_
  rintro _ V7 _ rfl
  refine ⟨_, rfl, by decide +kernel, ?_⟩
  intros
  refine Check0.mono ?_
  rintro _ V8 _ rfl
  refine ⟨_, rfl, by decide +kernel, ?_⟩
  intros
  refine Check0.mono ?_
  rintro _ V9 _ rfl
  refine ⟨_, rfl, by decide +kernel, ?_⟩
  intros
  refine Check0.mono ?_
  rintro _ V10 _ rfl
  refine ⟨_, rfl, by decide +kernel, ?_⟩
  intros
  refine Check0.mono ?_
  rintro _ V11 _ rfl
  refine ⟨_, rfl, by decide +kernel, ?_⟩
  intros
  refine Check0.mono ?_
  rintro _ V12 _ rfl
  refine ⟨_, rfl, by decide +kernel, ?_⟩
  intros
  refine Check0.mono ?_
  rintro _ V13 _ rfl
  refine ⟨_, rfl, by decide +kernel, ?_⟩
  intros
  refine Check0.mono ?_
  rintro _ V14 _ rfl
  refine ⟨_, rfl, by decide +kernel, ?_⟩
  intros
  refine Check0.mono ?_
  rintro _ V15 _ rfl
  refine ⟨_, rfl, by decide +kernel, ?_⟩
  intros
  refine Check0.mono ?_
  rintro _ V16 _ rfl
  refine ⟨_, rfl, by decide +kernel, ?_⟩
  intros
  refine Check0.mono ?_
  rintro _ V17 _ rfl
  refine ⟨_, rfl, by decide +kernel, ?_⟩
  intros
  refine Check0.mono ?_
  rintro _ V18 _ rfl
  refine ⟨_, rfl, by decide +kernel, ?_⟩
  intros
  refine Check0.mono ?_
  rintro _ V19 _ rfl
  refine ⟨_, rfl, by decide +kernel, ?_⟩
  intros
  refine Check0.mono ?_
  rintro _ V20 _ rfl
  refine ⟨_, rfl, by decide +kernel, ?_⟩
  intros
  refine Check0.mono ?_
  rintro _ V21 _ rfl
  refine ⟨_, rfl, by decide +kernel, ?_⟩
  intros
  refine Check0.mono ?_
  rintro _ V22 _ rfl
  refine ⟨_, rfl, by decide +kernel, ?_⟩
  intros
  refine Check0.mono ?_
  rintro _ V23 _ rfl
  refine ⟨_, rfl, by decide +kernel, ?_⟩
  intros
  refine Check0.mono ?_
  rintro _ V24 _ rfl
  refine ⟨_, rfl, by decide +kernel, ?_⟩
  intros
  refine Check0.mono ?_
  rintro _ V25 _ rfl
  refine ⟨_, rfl, by decide +kernel, ?_⟩
  intros
  refine Check0.mono ?_
  rintro _ V26 _ rfl
  refine ⟨_, rfl, by decide +kernel, ?_⟩
  intros
  refine Check0.mono ?_
  rintro _ V27 _ rfl
  refine ⟨_, rfl, by decide +kernel, ?_⟩
  intros
  refine ⟨beq_self_eq_true _, beq_self_eq_true _, decide_eq_true (by assumption), by decide +kernel, by decide +kernel, ?_⟩
  intros
  refine Check0.mono ?_
  rintro _ V28 _ rfl
  refine ⟨_, rfl, by decide +kernel, ?_⟩
  intros
  refine ⟨beq_self_eq_true _, beq_self_eq_true _, decide_eq_true (by assumption), by decide +kernel, by decide +kernel, ?_⟩
  intros
  refine Check0.mono ?_
  rintro _ V29 _ rfl
  refine ⟨_, rfl, by decide +kernel, ?_⟩
  intros
  refine ⟨beq_self_eq_true _, beq_self_eq_true _, decide_eq_true (by assumption), by decide +kernel, by decide +kernel, ?_⟩
  intros
  refine Check0.mono ?_
  rintro _ V30 _ rfl
  refine ⟨_, rfl, by decide +kernel, ?_⟩
  intros
  refine ⟨beq_self_eq_true _, beq_self_eq_true _, decide_eq_true (by assumption), by decide +kernel, by decide +kernel, ?_⟩
  intros
  refine Check0.mono ?_
  rintro _ V31 _ rfl
  refine ⟨_, rfl, by decide +kernel, ?_⟩
  intros
  refine ⟨beq_self_eq_true _, beq_self_eq_true _, decide_eq_true (by assumption), by decide +kernel, by decide +kernel, ?_⟩
  intros
  refine Check0.mono ?_
  rintro _ V32 _ rfl
  refine ⟨_, rfl, by decide +kernel, ?_⟩
  intros
  refine ⟨beq_self_eq_true _, beq_self_eq_true _, decide_eq_true (by assumption), by decide +kernel, by decide +kernel, ?_⟩
  intros
  refine Check0.mono ?_
  rintro _ V33 _ rfl
  refine ⟨_, rfl, by decide +kernel, ?_⟩
  intros
  refine ⟨beq_self_eq_true _, beq_self_eq_true _, decide_eq_true (by assumption), by decide +kernel, by decide +kernel, ?_⟩
  intros
  refine Check0.mono ?_
  rintro _ V34 _ rfl
  refine ⟨_, rfl, by decide +kernel, ?_⟩
  intros
  refine ⟨beq_self_eq_true _, beq_self_eq_true _, decide_eq_true (by assumption), by decide +kernel, by decide +kernel, ?_⟩
  intros
  refine Check0.mono ?_
  rintro _ V35 _ rfl
  refine ⟨_, rfl, by decide +kernel, ?_⟩
  intros
  refine ⟨beq_self_eq_true _, beq_self_eq_true _, decide_eq_true (by assumption), by decide +kernel, by decide +kernel, ?_⟩
  intros
  refine Check0.mono ?_
  rintro _ V36 _ rfl
  refine ⟨_, rfl, by decide +kernel, ?_⟩
  intros
  refine ⟨beq_self_eq_true _, beq_self_eq_true _, decide_eq_true (by assumption), by decide +kernel, by decide +kernel, ?_⟩
  intros
  refine Check0.mono ?_
  rintro _ V37 _ rfl
  refine ⟨_, rfl, by decide +kernel, ?_⟩
  intros
  refine ⟨beq_self_eq_true _, beq_self_eq_true _, decide_eq_true (by assumption), by decide +kernel, by decide +kernel, ?_⟩
  intros
  refine Check0.mono ?_
  rintro _ V38 _ rfl
  refine ⟨_, rfl, by decide +kernel, ?_⟩
  intros
  refine ⟨beq_self_eq_true _, beq_self_eq_true _, decide_eq_true (by assumption), by decide +kernel, by decide +kernel, ?_⟩
  intros
  refine Check0.mono ?_
  rintro _ V39 _ rfl
  refine ⟨_, rfl, by decide +kernel, ?_⟩
  intros
  refine ⟨beq_self_eq_true _, beq_self_eq_true _, decide_eq_true (by assumption), by decide +kernel, by decide +kernel, ?_⟩
  intros
  refine Check0.mono ?_
  rintro _ V40 _ rfl
  refine ⟨_, rfl, by decide +kernel, ?_⟩
  intros
  refine ⟨beq_self_eq_true _, beq_self_eq_true _, decide_eq_true (by assumption), by decide +kernel, by decide +kernel, ?_⟩
  intros
  refine Check0.mono ?_
  rintro _ V41 _ rfl
  refine ⟨_, rfl, by decide +kernel, ?_⟩
  intros
  refine ⟨beq_self_eq_true _, beq_self_eq_true _, decide_eq_true (by assumption), by decide +kernel, by decide +kernel, ?_⟩
  intros
  refine Check0.mono ?_
  rintro _ V42 _ rfl
  refine ⟨_, rfl, by decide +kernel, ?_⟩
  intros
  refine ⟨beq_self_eq_true _, beq_self_eq_true _, decide_eq_true (by assumption), by decide +kernel, by decide +kernel, ?_⟩
  intros
  refine Check0.mono ?_
  rintro _ V43 _ rfl
  refine ⟨_, rfl, by decide +kernel, ?_⟩
  intros
  refine ⟨beq_self_eq_true _, beq_self_eq_true _, decide_eq_true (by assumption), by decide +kernel, by decide +kernel, ?_⟩
  intros
  refine Check0.mono ?_
  rintro _ V44 _ rfl
  refine ⟨_, rfl, by decide +kernel, ?_⟩
  intros
  refine ⟨beq_self_eq_true _, beq_self_eq_true _, decide_eq_true (by assumption), by decide +kernel, by decide +kernel, ?_⟩
  intros
  refine Check0.mono ?_
  rintro _ V45 _ rfl
  refine ⟨_, rfl, by decide +kernel, ?_⟩
  intros
  refine ⟨beq_self_eq_true _, beq_self_eq_true _, decide_eq_true (by assumption), by decide +kernel, by decide +kernel, ?_⟩
  intros
  refine Check0.mono ?_
  rintro _ V46 _ rfl
  refine ⟨_, rfl, by decide +kernel, ?_⟩
  intros
  refine ⟨beq_self_eq_true _, beq_self_eq_true _, decide_eq_true (by assumption), by decide +kernel, by decide +kernel, ?_⟩
  intros
  refine Check0.mono ?_
  rintro _ V47 _ rfl
  refine ⟨_, rfl, by decide +kernel, ?_⟩
  intros
  refine ⟨beq_self_eq_true _, beq_self_eq_true _, decide_eq_true (by assumption), by decide +kernel, by decide +kernel, ?_⟩
  intros
  refine Check0.mono ?_
  rintro _ V48 _ rfl
  refine ⟨_, rfl, by decide +kernel, ?_⟩
  intros
  refine ⟨beq_self_eq_true _, beq_self_eq_true _, decide_eq_true (by assumption), by decide +kernel, by decide +kernel, ?_⟩
  intros
  refine Check0.mono ?_
  rintro _ V49 _ rfl
  refine ⟨_, rfl, by decide +kernel, ?_⟩
  intros
  refine ⟨beq_self_eq_true _, beq_self_eq_true _, decide_eq_true (by assumption), by decide +kernel, by decide +kernel, ?_⟩
  intro m tl _ _
  refine ⟨m, _, tl, _, rfl, ?_, VH.put_at _ _ _⟩
  have e : qs24.length = 96 := by decide +kernel
  unfold gtot
  rw [e]
  omega
/-- the 28 turns -/
def row28 : List Value := ([] ++ qs24) ++ [(.int .i64 (2 : Int)), (.int .i64 (1 : Int)), (.int .i64 (0 : Int)), (.int .i64 (0 : Int)), (.int .i64 (1 : Int)), (.int .i64 (1 : Int)), (.int .i64 (1 : Int)), (.int .i64 (0 : Int)), (.int .i64 (1 : Int)), (.int .i64 (0 : Int)), (.int .i64 (2 : Int)), (.int .i64 (0 : Int)), (.int .i64 (3 : Int)), (.int .i64 (1 : Int)), (.int .i64 (1 : Int)), (.int .i64 (1 : Int))]
theorem AtG.four {row : List Value} {o : Nat} {a b c d : Value} (h0 : row[o]? = some a) (h1 : row[o + 1]? = some b) (h2 : row[o + 2]? = some c) (h3 : row[o + 3]? = some d) : AtG row o [a, b, c, d] := fun j u hj => by
  match j, hj with
  | 0, hj => simp at hj; rw [← hj]; exact h0
  | 1, hj => simp at hj; rw [← hj]; exact h1
  | 2, hj => simp at hj; rw [← hj]; exact h2
  | 3, hj => simp at hj; rw [← hj]; exact h3
  | j + 4, hj => simp at hj
theorem row_at (k : Nat) (hk : k < 28) : ∃ a b c d : Int, AtG row28 (4 * k) [.int .i64 a, .int .i64 b, .int .i64 c, .int .i64 d] ∧ chkT a b c d = 0 := by
  match k, hk with
  | 0, _ => exact ⟨0, 0, 0, 1, AtG.four rfl rfl rfl rfl, by decide +kernel⟩
  | 1, _ => exact ⟨0, 0, 1, -1, AtG.four rfl rfl rfl rfl, by decide +kernel⟩
  | 2, _ => exact ⟨0, 0, 1, 0, AtG.four rfl rfl rfl rfl, by decide +kernel⟩
  | 3, _ => exact ⟨0, 0, 1, 1, AtG.four rfl rfl rfl rfl, by decide +kernel⟩
  | 4, _ => exact ⟨0, 1, -1, 0, AtG.four rfl rfl rfl rfl, by decide +kernel⟩
  | 5, _ => exact ⟨0, 1, 0, -1, AtG.four rfl rfl rfl rfl, by decide +kernel⟩
  | 6, _ => exact ⟨0, 1, 0, 0, AtG.four rfl rfl rfl rfl, by decide +kernel⟩
  | 7, _ => exact ⟨0, 1, 0, 1, AtG.four rfl rfl rfl rfl, by decide +kernel⟩
  | 8, _ => exact ⟨0, 1, 1, 0, AtG.four rfl rfl rfl rfl, by decide +kernel⟩
  | 9, _ => exact ⟨1, -1, -1, -1, AtG.four rfl rfl rfl rfl, by decide +kernel⟩
  | 10, _ => exact ⟨1, -1, -1, 1, AtG.four rfl rfl rfl rfl, by decide +kernel⟩
  | 11, _ => exact ⟨1, -1, 0, 0, AtG.four rfl rfl rfl rfl, by decide +kernel⟩
  | 12, _ => exact ⟨1, -1, 1, -1, AtG.four rfl rfl rfl rfl, by decide +kernel⟩
  | 13, _ => exact ⟨1, -1, 1, 1, AtG.four rfl rfl rfl rfl, by decide +kernel⟩
  | 14, _ => exact ⟨1, 0, -1, 0, AtG.four rfl rfl rfl rfl, by decide +kernel⟩
  | 15, _ => exact ⟨1, 0, 0, -1, AtG.four rfl rfl rfl rfl, by decide +kernel⟩
  | 16, _ => exact ⟨1, 0, 0, 0, AtG.four rfl rfl rfl rfl, by decide +kernel⟩
  | 17, _ => exact ⟨1, 0, 0, 1, AtG.four rfl rfl rfl rfl, by decide +kernel⟩
  | 18, _ => exact ⟨1, 0, 1, 0, AtG.four rfl rfl rfl rfl, by decide +kernel⟩
  | 19, _ => exact ⟨1, 1, -1, -1, AtG.four rfl rfl rfl rfl, by decide +kernel⟩
  | 20, _ => exact ⟨1, 1, -1, 1, AtG.four rfl rfl rfl rfl, by decide +kernel⟩
  | 21, _ => exact ⟨1, 1, 0, 0, AtG.four rfl rfl rfl rfl, by decide +kernel⟩
  | 22, _ => exact ⟨1, 1, 1, -1, AtG.four rfl rfl rfl rfl, by decide +kernel⟩
  | 23, _ => exact ⟨1, 1, 1, 1, AtG.four rfl rfl rfl rfl, by decide +kernel⟩
  | 24, _ => exact ⟨2, 1, 0, 0, AtG.four rfl rfl rfl rfl, by decide +kernel⟩
  | 25, _ => exact ⟨1, 1, 1, 0, AtG.four rfl rfl rfl rfl, by decide +kernel⟩
  | 26, _ => exact ⟨1, 0, 2, 0, AtG.four rfl rfl rfl rfl, by decide +kernel⟩
  | 27, _ => exact ⟨3, 1, 1, 1, AtG.four rfl rfl rfl rfl, by decide +kernel⟩
  | k + 28, h => omega
/-- a rotation, and a shift -/
def Rot (m : QM) : Prop := ∃ (w x y z : Int) (s : Q3), nrm w x y z ≠ 0 ∧ m = ofQ w x y z s
structure B5 where
  a : Int
  b : Int
  c : Int
  d : Int
  e : Int
def U8 (n : Int) : Prop := 0 ≤ n ∧ n < 256
def B5.v (m : B5) : Value := .agg #[.int .u8 m.a, .int .u8 m.b, .int .u8 m.c, .int .u8 m.d, .int .u8 m.e]
def B5.ok (m : B5) : Prop := U8 m.a ∧ U8 m.b ∧ U8 m.c ∧ U8 m.d ∧ U8 m.e
theorem quot_num {V : VH} {n e : Int} (hT : TabV V) (hn : U8 n) (he : U8 e) (K : ByteArray → VH → Prop)
    (hk : ∀ (V' : VH) (s : ByteArray), V.le V' → errQ s 400 = 0 → s.size ≤ 400 → K s V') :
    CSpec Tryz.prog n_dowellaw09_quotient #[(.int .i64 (IntKind.wrap .i64 ((IntKind.wrap .i64 n) - (100 : Int)))), (.int .i64 (IntKind.wrap .i64 ((1 : Int) + (IntKind.wrap .i64 (Int.tmod e (2 : Int))))))] V fun v3 V4 =>
     ∃ r10 : R4, v3 = (R4.v r10) ∧
     CSpec Tryz.prog n_rational_Rat_Number #[(R4.v r10)] V4 fun v4 V5 =>
     ∃ s11 : ByteArray, v4 = (.string s11) ∧ K s11 V5 := by
  obtain ⟨h1, h2⟩ := hn
  obtain ⟨h3, h4⟩ := he
  rw [Int.tmod_eq_emod_of_nonneg h3, w64 (n := n) (by omega) (by omega), w64 (n := n - 100) (by omega) (by omega), w64 (n := e % 2) (by omega) (by omega), w64 (n := 1 + e % 2) (by omega) (by omega)]
  refine (Lquotient ⟨by omega, by omega⟩ ⟨by omega, by omega⟩ (by omega)).mono ?_
  rintro _ V1 hV1 ⟨r, rfl, hr⟩
  refine ⟨r, rfl, (LNumberG (hT.mono hV1) hr (by omega)).mono ?_⟩
  rintro _ V2 hV2 rfl
  have hq := small_quot (a := n - 100) (b := 1 + e % 2) (by omega) (by omega) (by omega)
  have hs := txt_small hq.1 hq.2
  exact ⟨_, rfl, hk _ _ (VH.le_trans hV1 hV2) (read_txt hs (by omega)).1 (by omega)⟩
set_option maxHeartbeats 2000000 in
theorem moved_spec {m : B5} {V : VH} (hT : TabV V) (h : m.ok) : CSpec Tryz.prog n_dowellaw09_moved #[m.v] V fun v V' => ∃ (r : R48) (q : QM), v = .tuple #[r.v, .bool true] ∧ MoL V' r q 5 ∧ Rot q := by
  obtain ⟨h1, h2, h3, h4, h5⟩ := h
  refine E_dowellaw09_moved m.a m.b m.c m.d m.e V _ fun _ _ => Quarters_spec.mono ?_
  rintro _ V1 hV1 ⟨g, c, tl, T, rfl, hc, hg⟩
  have hT := hT.mono hV1
  refine ⟨OV.slc g 24 c, rfl, rfl, fun e => (by cases e), fun _ => fun _ => ⟨rfl, rfl, qs24, ?_, ?_⟩⟩
  · refine ⟨_, 24, c, rfl, by decide +kernel, hc, ?_, fun _ => ⟨g, 0, T, _, _, rfl, hg, fun j y hj => ?_⟩⟩
    · intro y hy
      have : qs24.all (fun y => y.oneCell') = true := by decide +kernel
      exact List.all_eq_true.1 this y hy
    · rw [Nat.zero_add, List.getElem?_toArray, List.getElem?_append_left (List.getElem?_eq_some_iff.1 hj).1]
      exact hj
  intro _ tl1 hg1 _
  refine ⟨beq_self_eq_true _, beq_self_eq_true _, decide_eq_true hg1, by decide +kernel, by decide +kernel, fun _ tl2 hg2 => ?_⟩
  have e28 : glen 4 row28 = 28 := by decide +kernel
  have ha : IntKind.wrap .i64 m.a = m.a := w64 (by have := h1.1; omega) (by have := h1.2; omega)
  have hm : Int.tmod m.a 28 = ((m.a.toNat % 28 : Nat) : Int) := by
    rw [Int.tmod_eq_emod_of_nonneg h1.1]; have := h1.1; omega
  have hk := Nat.mod_lt m.a.toNat (show 0 < 28 by omega)
  obtain ⟨a, b, c', d, hat, hchk⟩ := row_at _ hk
  change (decide ((0 : Int) ≤ glen 4 row28)) = true ∧ (!(glen 4 row28 == (0 : Int))) = true ∧ (decide ((0 : Int) ≤ Int.tmod (IntKind.wrap .i64 m.a) (glen 4 row28))) = true ∧ (decide (Int.tmod (IntKind.wrap .i64 m.a) (glen 4 row28) < glen 4 row28)) = true ∧ _
  rw [ha, e28, hm]
  refine ⟨by decide, by decide, decide_eq_true (by omega), decide_eq_true (by omega), a, b, c', d, ?_, fun _ => ?_⟩
  · have e : Int.toNat ((Int.tmod m.a (glen 4 row28)) * 4) = 4 * (m.a.toNat % 28) := by rw [e28, hm]; omega
    show AtG row28 (Int.toNat ((Int.tmod m.a (glen 4 row28)) * 4)) _
    rw [e]; exact hat
  refine quot_num hT h2 h5 _ fun V2 s1 hV2 q1 z1 => ?_
  refine quot_num (hT.mono hV2) h3 h5 _ fun V3 s2 hV3 q2 z2 => ?_
  refine quot_num ((hT.mono hV2).mono hV3) h4 h5 _ fun V4 s3 hV4 q3 z3 => ?_
  have he : errV s1 s2 s3 = 0 := by unfold errV; rw [q1, q2, q3]; rfl
  refine (Of_spec (by omega) (by omega) (by omega) hchk he).mono ?_
  rintro _ V5 hV5 ⟨r, rfl, hr⟩
  obtain ⟨_, h0⟩ := chk_in hchk
  have np := nrm_pos h0
  exact ⟨r.a.a, r.a.b, r.a.c, r.b.a, r.b.b, r.b.c, r.c.a, r.c.b, r.c.c, r.s.a, r.s.b, r.s.c, 0, rfl, fun _ => ⟨r, _, rfl, hr, a, b, c', d, _, by omega, rfl⟩⟩
theorem Moved_spec {m : B5} {V : VH} (hT : TabV V) (h : m.ok) : CSpec Tryz.prog n_dowellaw09_Moved #[m.v] V fun v V' => ∃ (r : R48) (q : QM), v = .tuple #[r.v, .bool true] ∧ MoL V' r q 5 ∧ Rot q := by
  refine E_dowellaw09_Moved m.a m.b m.c m.d m.e V _ fun _ _ => (moved_spec hT h).mono ?_
  rintro _ V1 hV1 ⟨r, q, rfl, h1, h2⟩
  exact ⟨r.a.a, r.a.b, r.a.c, r.b.a, r.b.b, r.b.c, r.c.a, r.c.b, r.c.c, r.s.a, r.s.b, r.s.c, true, rfl, r, q, rfl, h1, h2⟩
end Go.Proofs.YtpcigcogcgpldaaGreatDoor

set_option linter.unusedVariables false
set_option linter.unusedSimpArgs false
set_option maxRecDepth 100000
namespace Go.Proofs.YtpcigcogcgpldaaGreatDoor
open Go Go.Dx Dw
theorem sc2 {p N a b c d e : Rat} (hp : p * N = 1) (h : b * c - d * e = N * a) : (p * b) * (p * c) - (p * d) * (p * e) = p * a := by
  have e1 : (p * b) * (p * c) - (p * d) * (p * e) = p * p * (b * c - d * e) := by grind
  have e2 : p * p * (N * a) = p * ((p * N) * a) := by grind
  rw [e1, h, e2, hp]; grind
theorem sc3 {p N a b c d e f k : Rat} (hp : p * N = 1) (h : a * b + c * d + e * f = N * N * k) : (p * a) * (p * b) + (p * c) * (p * d) + (p * e) * (p * f) = k := by
  have e1 : (p * a) * (p * b) + (p * c) * (p * d) + (p * e) * (p * f) = p * p * (a * b + c * d + e * f) := by grind
  have e2 : p * p * (N * N * k) = (p * N) * ((p * N) * k) := by grind
  rw [e1, h, e2, hp]; grind
structure Orth (m : QM) : Prop where
  c1 : m.b.cross m.c = m.a
  c2 : m.c.cross m.a = m.b
  c3 : m.a.cross m.b = m.c
  xx : m.a.x * m.a.x + m.b.x * m.b.x + m.c.x * m.c.x = 1
  yy : m.a.y * m.a.y + m.b.y * m.b.y + m.c.y * m.c.y = 1
  zz : m.a.z * m.a.z + m.b.z * m.b.z + m.c.z * m.c.z = 1
  xy : m.a.x * m.a.y + m.b.x * m.b.y + m.c.x * m.c.y = 0
  xz : m.a.x * m.a.z + m.b.x * m.b.z + m.c.x * m.c.z = 0
  yz : m.a.y * m.a.z + m.b.y * m.b.z + m.c.y * m.c.z = 0
theorem Orth.of {w x y z : Int} {s : Q3} (h : nrm w x y z ≠ 0) : Orth (ofQ w x y z s) := by
  have hp : ((1 : Int) : Rat) / ((nrm w x y z : Int) : Rat) * ((w : Rat) * w + x * x + y * y + z * z) = 1 := by
    have e : ((nrm w x y z : Int) : Rat) = (w : Rat) * w + x * x + y * y + z * z := by
      unfold nrm; simp only [Rat.intCast_add, Rat.intCast_mul]
    have h0 : ((nrm w x y z : Int) : Rat) ≠ 0 := by
      intro e0; apply h; exact Rat.intCast_inj.1 e0
    rw [← e]
    exact Rat.div_mul_cancel h0
  unfold ofQ iv Q3.scale
  simp only [Rat.intCast_add, Rat.intCast_mul, Rat.intCast_sub, Rat.intCast_ofNat]
  generalize ((1 : Int) : Rat) / ((nrm w x y z : Int) : Rat) = p at hp ⊢
  generalize (w : Rat) = W at hp ⊢
  generalize (x : Rat) = X at hp ⊢
  generalize (y : Rat) = Y at hp ⊢
  generalize (z : Rat) = Z at hp ⊢
  constructor
  · simp only [Q3.cross, Q3.mk.injEq]
    exact ⟨sc2 hp (by grind), sc2 hp (by grind), sc2 hp (by grind)⟩
  · simp only [Q3.cross, Q3.mk.injEq]
    exact ⟨sc2 hp (by grind), sc2 hp (by grind), sc2 hp (by grind)⟩
  · simp only [Q3.cross, Q3.mk.injEq]
    exact ⟨sc2 hp (by grind), sc2 hp (by grind), sc2 hp (by grind)⟩
  all_goals exact sc3 hp (by grind)
theorem Rot.orth {m : QM} (h : Rot m) : Orth m := by
  obtain ⟨w, x, y, z, s, h0, rfl⟩ := h
  exact Orth.of h0
theorem Rot.tr {m : QM} (h : Rot m) (s : Q3) : Rot (m.tr s) := by
  obtain ⟨w, x, y, z, s0, h0, rfl⟩ := h
  refine ⟨w, -x, -y, -z, s, ?_, ?_⟩
  · have e : nrm w (-x) (-y) (-z) = nrm w x y z := by unfold nrm; grind
    rw [e]; exact h0
  · have e : nrm w (-x) (-y) (-z) = nrm w x y z := by unfold nrm; grind
    unfold QM.tr ofQ iv Q3.scale
    rw [e]
    simp only [QM.mk.injEq, Q3.mk.injEq, and_true]
    refine ⟨⟨?_, ?_, ?_⟩, ⟨?_, ?_, ?_⟩, ?_, ?_, ?_⟩ <;> congr 2 <;> grind
theorem turn_add (m : QM) (u w : Q3) : m.turn (u.add w) = (m.turn u).add (m.turn w) := by
  simp only [QM.turn, Q3.add, Q3.dot, Q3.mk.injEq]
  refine ⟨?_, ?_, ?_⟩ <;> grind
theorem Orth.cross {m : QM} (h : Orth m) (u w : Q3) : (m.turn u).cross (m.turn w) = m.turn (u.cross w) := by
  have c1 := h.c1
  have c2 := h.c2
  have c3 := h.c3
  obtain ⟨⟨ax, ay, az⟩, ⟨bx, by', bz⟩, ⟨cx, cy, cz⟩, s⟩ := m
  simp only [Q3.cross, Q3.mk.injEq] at c1 c2 c3
  obtain ⟨c11, c12, c13⟩ := c1
  obtain ⟨c21, c22, c23⟩ := c2
  obtain ⟨c31, c32, c33⟩ := c3
  obtain ⟨u1, u2, u3⟩ := u
  obtain ⟨w1, w2, w3⟩ := w
  simp only [QM.turn, Q3.cross, Q3.dot, Q3.mk.injEq]
  refine ⟨?_, ?_, ?_⟩
  · have : (0 + bx * u1 + by' * u2 + bz * u3) * (0 + cx * w1 + cy * w2 + cz * w3) - (0 + bx * w1 + by' * w2 + bz * w3) * (0 + cx * u1 + cy * u2 + cz * u3) = (by' * cz - bz * cy) * (u2 * w3 - u3 * w2) + (bz * cx - bx * cz) * (u3 * w1 - u1 * w3) + (bx * cy - by' * cx) * (u1 * w2 - u2 * w1) := by grind
    rw [c11, c12, c13] at this
    grind
  · have : (0 + cx * u1 + cy * u2 + cz * u3) * (0 + ax * w1 + ay * w2 + az * w3) - (0 + cx * w1 + cy * w2 + cz * w3) * (0 + ax * u1 + ay * u2 + az * u3) = (cy * az - cz * ay) * (u2 * w3 - u3 * w2) + (cz * ax - cx * az) * (u3 * w1 - u1 * w3) + (cx * ay - cy * ax) * (u1 * w2 - u2 * w1) := by grind
    rw [c21, c22, c23] at this
    grind
  · have : (0 + ax * u1 + ay * u2 + az * u3) * (0 + bx * w1 + by' * w2 + bz * w3) - (0 + ax * w1 + ay * w2 + az * w3) * (0 + bx * u1 + by' * u2 + bz * u3) = (ay * bz - az * by') * (u2 * w3 - u3 * w2) + (az * bx - ax * bz) * (u3 * w1 - u1 * w3) + (ax * by' - ay * bx) * (u1 * w2 - u2 * w1) := by grind
    rw [c31, c32, c33] at this
    grind
theorem Orth.dot {m : QM} (h : Orth m) (u w : Q3) : (m.turn u).dot (m.turn w) = u.dot w := by
  have xx := h.xx
  have yy := h.yy
  have zz := h.zz
  have xy := h.xy
  have xz := h.xz
  have yz := h.yz
  obtain ⟨⟨ax, ay, az⟩, ⟨bx, by', bz⟩, ⟨cx, cy, cz⟩, s⟩ := m
  obtain ⟨u1, u2, u3⟩ := u
  obtain ⟨w1, w2, w3⟩ := w
  simp only [QM.turn, Q3.dot] at *
  have : 0 + (0 + ax * u1 + ay * u2 + az * u3) * (0 + ax * w1 + ay * w2 + az * w3) + (0 + bx * u1 + by' * u2 + bz * u3) * (0 + bx * w1 + by' * w2 + bz * w3) + (0 + cx * u1 + cy * u2 + cz * u3) * (0 + cx * w1 + cy * w2 + cz * w3) =
    (ax * ax + bx * bx + cx * cx) * (u1 * w1) + (ay * ay + by' * by' + cy * cy) * (u2 * w2) + (az * az + bz * bz + cz * cz) * (u3 * w3) + (ax * ay + bx * by' + cx * cy) * (u1 * w2 + u2 * w1) + (ax * az + bx * bz + cx * cz) * (u1 * w3 + u3 * w1) + (ay * az + by' * bz + cy * cz) * (u2 * w3 + u3 * w2) := by grind
  rw [this, xx, yy, zz, xy, xz, yz]
  grind
theorem Orth.back {m : QM} (h : Orth m) (s u : Q3) : (m.tr s).turn (m.turn u) = u := by
  have xx := h.xx
  have yy := h.yy
  have zz := h.zz
  have xy := h.xy
  have xz := h.xz
  have yz := h.yz
  obtain ⟨⟨ax, ay, az⟩, ⟨bx, by', bz⟩, ⟨cx, cy, cz⟩, s⟩ := m
  obtain ⟨u1, u2, u3⟩ := u
  simp only [QM.turn, QM.tr, Q3.dot, Q3.mk.injEq] at *
  refine ⟨?_, ?_, ?_⟩
  · have : 0 + ax * (0 + ax * u1 + ay * u2 + az * u3) + bx * (0 + bx * u1 + by' * u2 + bz * u3) + cx * (0 + cx * u1 + cy * u2 + cz * u3) = (ax * ax + bx * bx + cx * cx) * u1 + (ax * ay + bx * by' + cx * cy) * u2 + (ax * az + bx * bz + cx * cz) * u3 := by grind
    rw [this, xx, xy, xz]; grind
  · have : 0 + ay * (0 + ax * u1 + ay * u2 + az * u3) + by' * (0 + bx * u1 + by' * u2 + bz * u3) + cy * (0 + cx * u1 + cy * u2 + cz * u3) = (ax * ay + bx * by' + cx * cy) * u1 + (ay * ay + by' * by' + cy * cy) * u2 + (ay * az + by' * bz + cy * cz) * u3 := by grind
    rw [this, yy, xy, yz]; grind
  · have : 0 + az * (0 + ax * u1 + ay * u2 + az * u3) + bz * (0 + bx * u1 + by' * u2 + bz * u3) + cz * (0 + cx * u1 + cy * u2 + cz * u3) = (ax * az + bx * bz + cx * cz) * u1 + (ay * az + by' * bz + cy * cz) * u2 + (az * az + bz * bz + cz * cz) * u3 := by grind
    rw [this, zz, xz, yz]; grind
end Go.Proofs.YtpcigcogcgpldaaGreatDoor
