/- A text of this claim's own: SD.IntK, SD.IntM, SD.IntL. -/
import Derived.Test.YtpcigcogcgpldaaGreatDoorSdB
import Derived.Test.YtpcigcogcgpldaaGreatDoorDxP
set_option linter.unusedVariables false
set_option linter.unusedSimpArgs false
set_option linter.unusedVariables false
set_option linter.unusedSimpArgs false
set_option maxRecDepth 100000
namespace Go.Proofs.YtpcigcogcgpldaaGreatDoor
open Go Go.Dx Dw

theorem win_getD {T W : List Int} {o i : Nat} (h : T.length = o) : (T ++ W).getD (o + i) 0 = W.getD i 0 := by
  subst h; simp [List.getD_eq_getElem?_getD, List.getElem?_append_right]
theorem win_set {T W : List Int} {o i : Nat} {d : Int} (h : T.length = o) : (T ++ W).set (o + i) d = T ++ W.set i d := by
  subst h; rw [List.set_append_right _ _ (by omega)]; simp
/-- one digit of the multiply-and-subtract loop -/
theorem sub_step {w qv ut c b p q x y s d t c' b' : Int} (h : w + q * qv = ut + (c + b) * p) (hs : s = c + q * y) (hd : s = d + 4294967296 * c') (ht : t = x - b - d) (r : Int) (hr : r = t + b' * 4294967296) :
    (w + p * r) + q * (qv + p * y) = (ut + p * x) + (c' + b') * (4294967296 * p) := by
  subst hr; subst ht
  have e : q * y = d + 4294967296 * c' - c := by omega
  have e2 : q * (qv + p * y) = q * qv + p * (q * y) := by grind
  rw [e2, e]; grind
theorem top_lt {W v : List Int} (dW : Digs W) (dv : Digs v) {n : Nat} (hn : v.length = n) (hn2 : 2 ≤ n) (hW : n + 1 ≤ W.length) (hlt : val (W.take (n + 1)) < 4294967296 * val v) :
    W.getD n 0 * 4294967296 + W.getD (n - 1) 0 ≤ v.getD (n - 1) 0 * 4294967296 + 4294967295 := by
  have e1 := val_take_succ W n
  have e2 := val_take_succ W (n - 1)
  have e3 := val_take_succ v (n - 1)
  rw [show n - 1 + 1 = n by omega] at e2 e3
  rw [List.take_of_length_le (l := v) (by omega)] at e3
  have h1 := val_nonneg (dW.take (n - 1))
  have h2 := val_lt (dv.take (n - 1))
  have h3 : (v.take (n - 1)).length = n - 1 := by simp; omega
  rw [h3] at h2
  have h4 : pw n = 4294967296 * pw (n - 1) := by
    obtain ⟨k, rfl⟩ : ∃ k, n = k + 1 := ⟨n - 1, by omega⟩
    rfl
  have hp := pw_pos (n - 1)
  apply Decidable.byContradiction
  intro hc
  generalize W.getD n 0 = a at *
  generalize W.getD (n - 1) 0 = b at *
  generalize v.getD (n - 1) 0 = x at *
  have h5 : pw (n - 1) * ((x + 1) * 4294967296) ≤ pw (n - 1) * (a * 4294967296 + b) := mul_le_l (by omega) (by omega)
  have h6 : pw (n - 1) * (a * 4294967296 + b) = pw n * a + pw (n - 1) * b := by rw [h4]; grind
  have h7 : pw (n - 1) * ((x + 1) * 4294967296) = 4294967296 * (pw (n - 1) * x) + 4294967296 * pw (n - 1) := by grind
  omega
end Go.Proofs.YtpcigcogcgpldaaGreatDoor

set_option linter.unusedVariables false
namespace Go.Proofs.YtpcigcogcgpldaaGreatDoor
open Go Go.Dx Dw
theorem split3 (W : List Int) {n : Nat} (hn : 2 ≤ n) : val (W.take (n + 1)) = val (W.take (n - 2)) + pw (n - 2) * ((W.getD n 0 * 4294967296 + W.getD (n - 1) 0) * 4294967296 + W.getD (n - 2) 0) := by
  obtain ⟨k, rfl⟩ : ∃ k, n = k + 2 := ⟨n - 2, by omega⟩
  rw [val_take_succ W (k + 2), val_take_succ W (k + 1), val_take_succ W k]
  simp only [show k + 2 - 1 = k + 1 by omega, show k + 2 - 2 = k by omega, pw]
  grind
theorem split2 (v : List Int) {n : Nat} (hv : v.length = n) (hn : 2 ≤ n) : val v = val (v.take (n - 2)) + pw (n - 2) * (v.getD (n - 1) 0 * 4294967296 + v.getD (n - 2) 0) := by
  obtain ⟨k, rfl⟩ : ∃ k, n = k + 2 := ⟨n - 2, by omega⟩
  have e : val v = val (v.take (k + 2)) := by rw [List.take_of_length_le (by omega)]
  rw [e, val_take_succ v (k + 1), val_take_succ v k]
  simp only [show k + 2 - 1 = k + 1 by omega, show k + 2 - 2 = k by omega, pw]
  grind
/-- what the trial quotient is worth -/
theorem trial_ok {W v : List Int} {n : Nat} {q : Int} (dW : Digs W) (dv : Digs v) (hv : v.length = n) (hn : 2 ≤ n) (hW : n + 1 ≤ W.length) (htop : 2147483648 ≤ v.getD (n - 1) 0) (hlt : val (W.take (n + 1)) < 4294967296 * val v) (hq0 : 0 ≤ q) (hqb : q < 4294967296)
    (h1 : 4294967296 ≤ q + 1 ∨ (W.getD n 0 * 4294967296 + W.getD (n - 1) 0) * 4294967296 + W.getD (n - 2) 0 < (q + 1) * (v.getD (n - 1) 0 * 4294967296 + v.getD (n - 2) 0))
    (h2 : q * (v.getD (n - 1) 0 * 4294967296 + v.getD (n - 2) 0) ≤ (W.getD n 0 * 4294967296 + W.getD (n - 1) 0) * 4294967296 + W.getD (n - 2) 0) :
    (q - 1) * val v ≤ val (W.take (n + 1)) ∧ val (W.take (n + 1)) < (q + 1) * val v := by
  have lu1 := val_lt (dW.take (n - 2))
  have lu0 := val_nonneg (dW.take (n - 2))
  have lv1 := val_lt (dv.take (n - 2))
  have lv0 := val_nonneg (dv.take (n - 2))
  rw [show (W.take (n - 2)).length = n - 2 by simp; omega] at lu1
  rw [show (v.take (n - 2)).length = n - 2 by simp; omega] at lv1
  have hp := pw_pos (n - 2)
  have a0 := dW.get n; have a1 := dW.get (n - 1); have a2 := dW.get (n - 2); have b1 := dv.get (n - 1); have b2 := dv.get (n - 2)
  rw [split3 W hn, split2 v hv hn] at hlt
  rw [split3 W hn, split2 v hv hn]
  exact ⟨qhat_le hp hq0 hqb lv0 lv1 lu0 (by omega) h2 (by omega), qhat_ge hp hq0 lv0 lu1 hlt h1 (by omega)⟩
end Go.Proofs.YtpcigcogcgpldaaGreatDoor

set_option linter.unusedVariables false
set_option linter.unusedSimpArgs false
set_option maxRecDepth 100000
namespace Go.Proofs.YtpcigcogcgpldaaGreatDoor
open Go Go.Dx Dw
set_option maxHeartbeats 2000000 in
theorem digit_spec {A1 : Option Addr} {c1 o m : Nat} {v T W : List Int} {c : Int} {V : VH} (hv : RdV V .u32 (OV.sl A1 c1 v)) (dv : Digs v) (hl : v.length < 549755813888) (hn : 2 ≤ v.length) (htop : 2147483648 ≤ v.getD (v.length - 1) 0)
    (hT : T.length = o) (dW : Digs W) (hW : v.length + 1 ≤ W.length) (hlen : (T ++ W).length < 1099511627776) (hlt : val (W.take (v.length + 1)) < 4294967296 * val v) :
    CSpecB Tryz.prog n_integer_digit #[.slice (some ⟨m, o, none⟩) (v.length + 1) c.toNat, .slice A1 v.length c1] V m ty_u32 .u32 (T ++ W) fun r V' L' => ∃ W', L' = T ++ W' ∧ W'.length = W.length ∧ Digs W' ∧ W'.drop (v.length + 1) = W.drop (v.length + 1) ∧ r = .int .u32 (val (W.take (v.length + 1)) / val v) ∧ val (W'.take (v.length + 1)) = val (W.take (v.length + 1)) % val v := by
  have hlen' : (T ++ W).length = o + W.length := by simp [hT]
  have g := hv.hasB (by omega)
  have tn : ((v.length : Int) + 1).toNat = v.length + 1 := by omega
  have to : ((o : Int)).toNat = o := by omega
  have ton : ((o : Int) + (v.length : Int)).toNat = o + v.length := by omega
  have ton1 : ((o : Int) + ((v.length : Int) - 1)).toNat = o + (v.length - 1) := by omega
  have ton2 : ((o : Int) + ((v.length : Int) - 2)).toNat = o + (v.length - 2) := by omega
  have tn1 : ((v.length : Int) - 1).toNat = v.length - 1 := by omega
  have tn2 : ((v.length : Int) - 2).toNat = v.length - 2 := by omega
  have dv1 := dv.get (v.length - 1)
  have dv2 := dv.get (v.length - 2)
  have du0 := dW.get v.length
  have du1 := dW.get (v.length - 1)
  have du2 := dW.get (v.length - 2)
  have hE := E_integer_digit0bor m (T ++ W) o ((v.length : Int) + 1) c A1 c1 v V
  rw [tn, to] at hE
  refine hE _ ?_
  clear hE
  simp only [w64 (show -9223372036854775808 ≤ (v.length : Int) - 1 by omega) (by omega), w64 (show -9223372036854775808 ≤ (v.length : Int) - 2 by omega) (by omega), ton, ton1, ton2, tn1, tn2, win_getD hT]
  rw [wu64 (n := v.getD (v.length - 1) 0) (by omega) (by omega), wu64 (n := W.getD v.length 0) (by omega) (by omega), wu64 (n := W.getD (v.length - 1) 0) (by omega) (by omega), wu64 (n := W.getD v.length 0 * 4294967296) (by omega) (by omega), or_hi_lo du0.1 du0.2 du1.1 du1.2]
  have hne : (!(v.getD (v.length - 1) 0 == (0 : Int))) = true := by rw [Bool.not_eq_true', beq_eq_false_iff_ne]; omega
  have hh := top_lt dW dv rfl hn hW hlt
  have hh0 : 0 ≤ W.getD v.length 0 * 4294967296 + W.getD (v.length - 1) 0 := by omega
  generalize hhi : W.getD v.length 0 * 4294967296 + W.getD (v.length - 1) 0 = high at hh hh0 ⊢
  rw [Int.tdiv_eq_ediv_of_nonneg hh0, Int.tmod_eq_emod_of_nonneg hh0]
  have hd0 := Int.emod_add_mul_ediv high (v.getD (v.length - 1) 0)
  have hd1 := Int.emod_nonneg high (show v.getD (v.length - 1) 0 ≠ 0 by omega)
  have hd2 := Int.emod_lt_of_pos high (show 0 < v.getD (v.length - 1) 0 by omega)
  have hd3 : 0 ≤ high / v.getD (v.length - 1) 0 := Int.ediv_nonneg hh0 (by omega)
  have hd4 : high / v.getD (v.length - 1) 0 ≤ high := Int.ediv_le_self _ hh0
  have hst := trial_start (v2 := v.getD (v.length - 2) 0) (u2 := W.getD (v.length - 2) 0) (show 0 < v.getD (v.length - 1) 0 by omega) dv2.1 du2.2 hh0
  have d1 : decide ((0 : Int) ≤ (o : Int)) = true := decide_eq_true (by omega)
  rw [wu64 hd3 (by omega)]
  refine ⟨rfl, d1, decide_eq_true (by omega), decide_eq_true (by omega), decide_eq_true (by omega), decide_eq_true (by omega), d1, decide_eq_true (by omega), decide_eq_true (by omega), decide_eq_true (by omega), decide_eq_true (by omega), g, decide_eq_true (by omega), decide_eq_true (by omega), hv, decide_eq_true (by omega), decide_eq_true (by omega), hne, g, decide_eq_true (by omega), decide_eq_true (by omega), hv, decide_eq_true (by omega), decide_eq_true (by omega), hne,
    fun xs V' => ∃ q rest : Int, q * v.getD (v.length - 1) 0 + rest = high ∧ 0 ≤ q ∧ q < 8589934592 ∧ 0 ≤ rest ∧ rest < 8589934592 ∧ (4294967296 ≤ q + 1 ∨ high * 4294967296 + W.getD (v.length - 2) 0 < (q + 1) * (v.getD (v.length - 1) 0 * 4294967296 + v.getD (v.length - 2) 0)) ∧ xs = [OV.int .u64 q, OV.int .u64 rest, OV.lst (T ++ W)],
    fun xs => match xs with | [x, _, _] => (intV x.v).toNat | _ => 0, ⟨_, _, by rw [Int.mul_comm]; omega, hd3, Int.ediv_lt_of_lt_mul (by omega) (by omega), hd1, by omega, .inr hst, rfl⟩, ?_⟩
  rintro V1 hV1 n1 n2 l3 ⟨q, rest, hq, hq0, hqb, hr0, hr1, hqt, e⟩
  simp only [List.cons.injEq, OV.int_inj, OV.lst_inj, and_true] at e
  obtain ⟨rfl, rfl, rfl⟩ := e
  have v1 := hv.mono hV1
  refine ⟨fun h1 => ⟨fun h2 => ?_, fun h2 => ?_⟩, fun h1 => ?_⟩
  · have h1 : n2 < 4294967296 := of_decide_eq_true h1
    have h2 : 4294967296 ≤ n1 := of_decide_eq_true h2
    have ew : IntKind.wrap .u64 (n1 - 1) = n1 - 1 := wu64 (by omega) (by omega)
    have ew2 : IntKind.wrap .u64 (n2 + v.getD (v.length - 1) 0) = n2 + v.getD (v.length - 1) 0 := wu64 (by omega) (by omega)
    rw [ew, ew2]
    refine ⟨v1.hasB (by omega), decide_eq_true (by omega), decide_eq_true (by omega), v1, decide_eq_true (by omega), decide_eq_true (by omega), ⟨_, _, by rw [Int.sub_mul]; omega, by omega, by omega, by omega, by omega, trial_step hq (.inl h2), rfl⟩, by simp only [OV.int, intV]; omega⟩
  · have h1 : n2 < 4294967296 := of_decide_eq_true h1
    have h2 : ¬ 4294967296 ≤ n1 := of_decide_eq_false h2
    simp only [ton2, win_getD hT]
    have hb := mul_bound ⟨hq0, show n1 < 4294967296 by omega⟩ dv2
    rw [wu64 (n := n2 * 4294967296) (by omega) (by omega), wu64 (n := W.getD (v.length - 2) 0) (by omega) (by omega), or_hi_lo hr0 h1 du2.1 du2.2, wu64 (n := v.getD (v.length - 2) 0) (by omega) (by omega), wu64 (n := n1 * v.getD (v.length - 2) 0) (by omega) (by omega)]
    refine ⟨v1.hasB (by omega), decide_eq_true (by omega), decide_eq_true (by omega), v1, decide_eq_true (by omega), decide_eq_true (by omega), d1, decide_eq_true (by omega), decide_eq_true (by omega), decide_eq_true (by omega), decide_eq_true (by omega), fun h3 => ?_, fun h3 => ?_⟩
    · have h3 : n2 * 4294967296 + W.getD (v.length - 2) 0 < n1 * v.getD (v.length - 2) 0 := of_decide_eq_true h3
      have hpos : 0 < n1 := by
        apply Decidable.byContradiction; intro hc
        have : n1 = 0 := by omega
        rw [this, Int.zero_mul] at h3; omega
      have ew : IntKind.wrap .u64 (n1 - 1) = n1 - 1 := wu64 (by omega) (by omega)
      have ew2 : IntKind.wrap .u64 (n2 + v.getD (v.length - 1) 0) = n2 + v.getD (v.length - 1) 0 := wu64 (by omega) (by omega)
      rw [ew, ew2]
      refine ⟨v1.hasB (by omega), decide_eq_true (by omega), decide_eq_true (by omega), v1, decide_eq_true (by omega), decide_eq_true (by omega), ⟨_, _, by rw [Int.sub_mul]; omega, by omega, by omega, by omega, by omega, trial_step hq (.inr h3), rfl⟩, by simp only [OV.int, intV]; omega⟩
    · have h3 : ¬ n2 * 4294967296 + W.getD (v.length - 2) 0 < n1 * v.getD (v.length - 2) 0 := of_decide_eq_false h3
      have hex := trial_exit (u2 := W.getD (v.length - 2) 0) hq hq0 hr0 hh htop dv2 du2.1 (.inr ⟨by omega, by omega⟩)
      refine ⟨rfl, fun xs V' => ∃ (c b : Int) (i : Nat) (W' : List Int), i ≤ v.length ∧ 0 ≤ c ∧ c < 4294967296 ∧ 0 ≤ b ∧ b ≤ 1 ∧ Digs W' ∧ W'.length = W.length ∧ W'.drop i = W.drop i ∧ val (W'.take i) + n1 * val (v.take i) = val (W.take i) + (c + b) * pw i ∧ xs = [OV.int .u64 c, OV.int .i64 b, OV.int .i64 i, OV.lst (T ++ W')],
        fun xs => match xs with | [_, _, x, _] => (v.length - intV x.v).toNat | _ => 0, ⟨0, 0, 0, W, by omega, by omega, by omega, by omega, by omega, dW, rfl, rfl, by simp [val], rfl⟩, ?_⟩
      rintro V2 hV2 n5 n6 n7 l8 ⟨c, b, i, W', hi, hc0, hc1, hb0, hb1, dW', hWl, hdr, hinv, e⟩
      simp only [List.cons.injEq, OV.int_inj, OV.lst_inj, and_true] at e
      obtain ⟨rfl, rfl, rfl, rfl⟩ := e
      have v2 := v1.mono hV2
      have hlenW : (T ++ W').length = o + W'.length := by simp [hT]
      have toi : ((o : Int) + (i : Int)).toNat = o + i := by omega
      have ti : ((i : Int)).toNat = i := by omega
      have dvi := dv.get i
      have dwi := dW'.get i
      refine ⟨fun k1 => ?_, fun k1 => ?_⟩
      · have k1 : (i : Int) < v.length := of_decide_eq_true k1
        have gv := v2.hasB (by omega)
        have hb := mul_bound ⟨hq0, hex.1⟩ dvi
        simp only [toi, ti, win_getD hT, win_set hT]
        rw [wu64 (n := v.getD i 0) (by omega) (by omega), wu64 (n := n1 * v.getD i 0) (by omega) (by omega)]
        generalize hp : n1 * v.getD i 0 = p at hb ⊢
        rw [wu64 (n := n5 + p) (by omega) (by omega), wu32 (n5 + p), fdivB]
        rw [w64 (n := W'.getD i 0) (by omega) (by omega), w64 (n := W'.getD i 0 - n6) (by omega) (by omega), w64 (n := (n5 + p) % 4294967296) (by omega) (by omega), w64 (n := W'.getD i 0 - n6 - (n5 + p) % 4294967296) (by omega) (by omega), w64 (n := (i : Int) + 1) (by omega) (by omega), wu32]
        have hgd : W'.getD i 0 = W.getD i 0 := getD_of_drop hdr
        have step : ∀ b' r, r = (W'.getD i 0 - n6 - (n5 + p) % 4294967296) + b' * 4294967296 → 0 ≤ r → r < 4294967296 → 0 ≤ b' → b' ≤ 1 → ∃ (c b : Int) (j : Nat) (X : List Int), j ≤ v.length ∧ 0 ≤ c ∧ c < 4294967296 ∧ 0 ≤ b ∧ b ≤ 1 ∧ Digs X ∧ X.length = W.length ∧ X.drop j = W.drop j ∧ val (X.take j) + n1 * val (v.take j) = val (W.take j) + (c + b) * pw j ∧ [OV.int .u64 ((n5 + p) / 4294967296), OV.int .i64 b', OV.int .i64 ((i : Int) + 1), OV.lst (T ++ W'.set i r)] = [OV.int .u64 c, OV.int .i64 b, OV.int .i64 j, OV.lst (T ++ X)] := by
          intro b' r hr r0 r1 hb0' hb1'
          refine ⟨(n5 + p) / 4294967296, b', i + 1, W'.set i r, by omega, by omega, by omega, hb0', hb1', dW'.set i ⟨r0, r1⟩, by simpa using hWl, ?_, ?_, by simp⟩
          · rw [drop_set_ge]; exact drop_succ_of hdr
          · rw [take_set_succ (by omega), val_append, val_take_succ W, val_take_succ v]
            have hli : (W'.take i).length = i := by simp; omega
            rw [hli]
            have := sub_step (x := W.getD i 0) hinv (show n5 + p = n5 + n1 * v.getD i 0 by rw [hp]) (show n5 + p = (n5 + p) % 4294967296 + 4294967296 * ((n5 + p) / 4294967296) by omega) (by rw [← hgd]) r hr
            simp only [val, pw]
            simpa using this
        refine ⟨gv, decide_eq_true (by omega), decide_eq_true k1, v2, decide_eq_true (by omega), decide_eq_true k1, d1, decide_eq_true (by omega), decide_eq_true (by omega), decide_eq_true (by omega), decide_eq_true (by omega), d1, decide_eq_true (by omega), decide_eq_true (by omega), decide_eq_true (by omega), decide_eq_true (by omega), fun k2 => ?_, fun k2 => ?_⟩
        · have k2 := of_decide_eq_true k2
          exact ⟨step 1 _ (by omega) (by omega) (by omega) (by omega) (by omega), by simp only [OV.int, intV]; omega⟩
        · have k2 := of_decide_eq_false k2
          exact ⟨step 0 _ (by omega) (by omega) (by omega) (by omega) (by omega), by simp only [OV.int, intV]; omega⟩
      · have k1 : ¬ (i : Int) < v.length := of_decide_eq_false k1
        have hin : i = v.length := by omega
        subst hin
        have hgd : W'.getD v.length 0 = W.getD v.length 0 := getD_of_drop hdr
        rw [List.take_of_length_le (l := v) (Nat.le_refl _)] at hinv
        have hok := trial_ok (q := n1) dW dv rfl hn hW htop hlt hq0 hex.1 (by rw [hhi]; exact hqt) (by rw [hhi]; exact hex.2)
        have hwn := val_take_succ W v.length
        have hv0 := val_nonneg dv
        have hvp : 0 < val v := by
          have := val_nonneg (dW.take (v.length + 1))
          omega
        simp only [toi, ton, win_getD hT, win_set hT]
        rw [w64 (n := W'.getD v.length 0) (by omega) (by omega), w64 (n := W'.getD v.length 0 - n6) (by omega) (by omega), w64 (n := n5) (by omega) (by omega), w64 (n := W'.getD v.length 0 - n6 - n5) (by omega) (by omega), wu32, wu32 n1]
        refine ⟨d1, decide_eq_true (by omega), decide_eq_true (by omega), decide_eq_true (by omega), decide_eq_true (by omega), d1, decide_eq_true (by omega), decide_eq_true (by omega), decide_eq_true (by omega), decide_eq_true (by omega), fun k2 => ?_, fun k2 => ?_⟩
        · have k2 : 0 ≤ W'.getD v.length 0 - n6 - n5 := of_decide_eq_true k2
          have hr0 : (W'.getD v.length 0 - n6 - n5) % 4294967296 = W'.getD v.length 0 - n6 - n5 := by omega
          rw [hr0]
          have hli : (W'.take v.length).length = v.length := by simp; omega
          have hval : val ((W'.set v.length (W'.getD v.length 0 - n6 - n5)).take (v.length + 1)) = val (W.take (v.length + 1)) - n1 * val v := by
            rw [take_set_succ (by omega), val_append, hli, hwn, hgd]
            simp only [val]
            grind
          have dset : Digs (W'.set v.length (W'.getD v.length 0 - n6 - n5)) := dW'.set _ (by omega)
          have hnn := val_nonneg (dset.take (v.length + 1))
          rw [hval] at hnn
          have hub := hok.2
          rw [Int.add_mul, Int.one_mul] at hub
          have hdiv : val (W.take (v.length + 1)) / val v = n1 := by
            rw [Int.ediv_eq_iff_of_pos hvp]
            constructor
            · omega
            · omega
          have hmod : val (W.take (v.length + 1)) % val v = val (W.take (v.length + 1)) - n1 * val v := by
            have := Int.emod_add_mul_ediv (val (W.take (v.length + 1))) (val v)
            rw [hdiv, Int.mul_comm (val v)] at this; omega
          refine ⟨_, rfl, by simpa using hWl, dset, ?_, ?_, ?_⟩
          · rw [drop_set_ge]; exact drop_succ_of hdr
          · rw [hdiv, Int.emod_eq_of_lt hq0 hex.1]
          · rw [hval, hmod]
        · have k2 : ¬ 0 ≤ W'.getD v.length 0 - n6 - n5 := of_decide_eq_false k2
          refine ⟨rfl, fun xs V' => ∃ (c' : Int) (j : Nat) (X : List Int), j ≤ v.length ∧ 0 ≤ c' ∧ c' ≤ 1 ∧ Digs X ∧ X.length = W.length ∧ X.drop j = (W'.set v.length ((W'.getD v.length 0 - n6 - n5) % 4294967296)).drop j ∧ val (X.take j) + c' * pw j = val (W'.take j) + val (v.take j) ∧ xs = [OV.int .u64 c', OV.int .i64 j, OV.lst (T ++ X)],
            fun xs => match xs with | [_, x, _] => (v.length - intV x.v).toNat | _ => 0, ⟨0, 0, W'.set v.length ((W'.getD v.length 0 - n6 - n5) % 4294967296), by omega, by omega, by omega, dW'.set _ (by omega), by simpa using hWl, rfl, by simp [val], rfl⟩, ?_⟩
          rintro V3 hV3 n10 n11 l12 ⟨c', j, X, hj, hc'0, hc'1, dX, hXl, hXd, hXv, e⟩
          simp only [List.cons.injEq, OV.int_inj, OV.lst_inj, and_true] at e
          obtain ⟨rfl, rfl, rfl⟩ := e
          have v3 := v2.mono hV3
          have hlenX : (T ++ X).length = o + X.length := by simp [hT]
          have toj : ((o : Int) + (j : Int)).toNat = o + j := by omega
          have tj : ((j : Int)).toNat = j := by omega
          have dvj := dv.get j
          have dxj := dX.get j
          refine ⟨fun k3 => ?_, fun k3 => ?_⟩
          · have k3 : (j : Int) < v.length := of_decide_eq_true k3
            have gv := v3.hasB (by omega)
            have hgx : X.getD j 0 = W'.getD j 0 := by rw [getD_of_drop hXd, set_getD_ne (by omega)]
            simp only [toj, tj, win_getD hT, win_set hT]
            rw [wu64 (n := X.getD j 0) (by omega) (by omega), wu64 (n := v.getD j 0) (by omega) (by omega), wu64 (n := X.getD j 0 + v.getD j 0) (by omega) (by omega), wu64 (n := n10 + (X.getD j 0 + v.getD j 0)) (by omega) (by omega), wu32, fdivB, w64 (n := (j : Int) + 1) (by omega) (by omega)]
            refine ⟨gv, decide_eq_true (by omega), decide_eq_true k3, v3, decide_eq_true (by omega), decide_eq_true k3, d1, decide_eq_true (by omega), decide_eq_true (by omega), decide_eq_true (by omega), decide_eq_true (by omega), d1, decide_eq_true (by omega), decide_eq_true (by omega), decide_eq_true (by omega), decide_eq_true (by omega), ⟨(n10 + (X.getD j 0 + v.getD j 0)) / 4294967296, j + 1, X.set j ((n10 + (X.getD j 0 + v.getD j 0)) % 4294967296), by omega, by omega, by omega, dX.set _ (by omega), by simpa using hXl, ?_, ?_, by simp⟩, by simp only [OV.int, intV]; omega⟩
            · rw [drop_set_ge]; exact drop_succ_of hXd
            · have hlj : (X.take j).length = j := by simp; omega
              rw [take_set_succ (by omega), val_append, hlj, val_take_succ W', val_take_succ v]
              have := carry_step (x := W'.getD j 0) (y := v.getD j 0) hXv (show n10 + (X.getD j 0 + v.getD j 0) = n10 + W'.getD j 0 + v.getD j 0 by rw [hgx]; omega)
              simp only [val, pw]
              simpa using this
          · have k3 : ¬ (j : Int) < v.length := of_decide_eq_false k3
            have hjn : j = v.length := by omega
            subst hjn
            have hgx : X.getD v.length 0 = (W'.getD v.length 0 - n6 - n5) % 4294967296 := by rw [getD_of_drop hXd, set_getD_eq (by omega)]
            have hlj : (X.take v.length).length = v.length := by simp; omega
            rw [List.take_of_length_le (l := v) (Nat.le_refl _)] at hXv
            have a1 := val_lt (dW'.take v.length)
            rw [show (W'.take v.length).length = v.length by simp; omega] at a1
            have a2 := val_nonneg (dX.take v.length)
            have a3 := val_lt (dX.take v.length)
            rw [hlj] at a3
            have hab := addback (t := W'.getD v.length 0 - n6 - n5) (r := (W'.getD v.length 0 - n6 - n5) % 4294967296) hinv (by rw [hgd]) (by omega) (by omega) (by omega) a1 a2 a3 hXv hc'0 hc'1 hwn hok.1
            have hq1 : 0 < n1 := by
              apply Decidable.byContradiction; intro hc
              have h0 : n1 = 0 := by omega
              have := val_nonneg (dW.take (v.length + 1))
              rw [h0, Int.zero_mul] at hab; omega
            have hsub : (n1 - 1) * val v = n1 * val v - val v := by rw [Int.sub_mul, Int.one_mul]
            have hdiv : val (W.take (v.length + 1)) / val v = n1 - 1 := by
              rw [Int.ediv_eq_iff_of_pos hvp]
              constructor
              · omega
              · omega
            have hmod : val (W.take (v.length + 1)) % val v = val (W.take (v.length + 1)) - (n1 - 1) * val v := by
              have := Int.emod_add_mul_ediv (val (W.take (v.length + 1))) (val v)
              rw [hdiv, Int.mul_comm (val v)] at this; omega
            simp only [ton, win_getD hT, win_set hT]
            rw [wu64 (n := n1 - 1) (by omega) (by omega), wu32, wu32, hgx]
            rw [wu32]
            rw [show n10 % 4294967296 = n10 by omega]
            refine ⟨d1, decide_eq_true (by omega), decide_eq_true (by omega), decide_eq_true (by omega), decide_eq_true (by omega), d1, decide_eq_true (by omega), decide_eq_true (by omega), decide_eq_true (by omega), decide_eq_true (by omega), X.set v.length (((W'.getD v.length 0 - n6 - n5) % 4294967296 + n10) % 4294967296), rfl, by simpa using hXl, dX.set _ (by omega), ?_, ?_, ?_⟩
            · rw [drop_set_ge, drop_succ_of hXd, drop_set_ge]; exact drop_succ_of hdr
            · rw [hdiv, Int.emod_eq_of_lt (by omega) (by omega)]
            · rw [take_set_succ (by omega), val_append, hlj, hmod, ← hab.1]
              simp [val]
  · have h1 : ¬ n2 < 4294967296 := of_decide_eq_false h1
    have hex := trial_exit (u2 := W.getD (v.length - 2) 0) hq hq0 hr0 hh htop dv2 du2.1 (.inl (by omega))
    refine ⟨rfl, fun xs V' => ∃ (c b : Int) (i : Nat) (W' : List Int), i ≤ v.length ∧ 0 ≤ c ∧ c < 4294967296 ∧ 0 ≤ b ∧ b ≤ 1 ∧ Digs W' ∧ W'.length = W.length ∧ W'.drop i = W.drop i ∧ val (W'.take i) + n1 * val (v.take i) = val (W.take i) + (c + b) * pw i ∧ xs = [OV.int .u64 c, OV.int .i64 b, OV.int .i64 i, OV.lst (T ++ W')],
      fun xs => match xs with | [_, _, x, _] => (v.length - intV x.v).toNat | _ => 0, ⟨0, 0, 0, W, by omega, by omega, by omega, by omega, by omega, dW, rfl, rfl, by simp [val], rfl⟩, ?_⟩
    rintro V2 hV2 n5 n6 n7 l8 ⟨c, b, i, W', hi, hc0, hc1, hb0, hb1, dW', hWl, hdr, hinv, e⟩
    simp only [List.cons.injEq, OV.int_inj, OV.lst_inj, and_true] at e
    obtain ⟨rfl, rfl, rfl, rfl⟩ := e
    have v2 := v1.mono hV2
    have hlenW : (T ++ W').length = o + W'.length := by simp [hT]
    have toi : ((o : Int) + (i : Int)).toNat = o + i := by omega
    have ti : ((i : Int)).toNat = i := by omega
    have dvi := dv.get i
    have dwi := dW'.get i
    refine ⟨fun k1 => ?_, fun k1 => ?_⟩
    · have k1 : (i : Int) < v.length := of_decide_eq_true k1
      have gv := v2.hasB (by omega)
      have hb := mul_bound ⟨hq0, hex.1⟩ dvi
      simp only [toi, ti, win_getD hT, win_set hT]
      rw [wu64 (n := v.getD i 0) (by omega) (by omega), wu64 (n := n1 * v.getD i 0) (by omega) (by omega)]
      generalize hp : n1 * v.getD i 0 = p at hb ⊢
      rw [wu64 (n := n5 + p) (by omega) (by omega), wu32 (n5 + p), fdivB]
      rw [w64 (n := W'.getD i 0) (by omega) (by omega), w64 (n := W'.getD i 0 - n6) (by omega) (by omega), w64 (n := (n5 + p) % 4294967296) (by omega) (by omega), w64 (n := W'.getD i 0 - n6 - (n5 + p) % 4294967296) (by omega) (by omega), w64 (n := (i : Int) + 1) (by omega) (by omega), wu32]
      have hgd : W'.getD i 0 = W.getD i 0 := getD_of_drop hdr
      have step : ∀ b' r, r = (W'.getD i 0 - n6 - (n5 + p) % 4294967296) + b' * 4294967296 → 0 ≤ r → r < 4294967296 → 0 ≤ b' → b' ≤ 1 → ∃ (c b : Int) (j : Nat) (X : List Int), j ≤ v.length ∧ 0 ≤ c ∧ c < 4294967296 ∧ 0 ≤ b ∧ b ≤ 1 ∧ Digs X ∧ X.length = W.length ∧ X.drop j = W.drop j ∧ val (X.take j) + n1 * val (v.take j) = val (W.take j) + (c + b) * pw j ∧ [OV.int .u64 ((n5 + p) / 4294967296), OV.int .i64 b', OV.int .i64 ((i : Int) + 1), OV.lst (T ++ W'.set i r)] = [OV.int .u64 c, OV.int .i64 b, OV.int .i64 j, OV.lst (T ++ X)] := by
        intro b' r hr r0 r1 hb0' hb1'
        refine ⟨(n5 + p) / 4294967296, b', i + 1, W'.set i r, by omega, by omega, by omega, hb0', hb1', dW'.set i ⟨r0, r1⟩, by simpa using hWl, ?_, ?_, by simp⟩
        · rw [drop_set_ge]; exact drop_succ_of hdr
        · rw [take_set_succ (by omega), val_append, val_take_succ W, val_take_succ v]
          have hli : (W'.take i).length = i := by simp; omega
          rw [hli]
          have := sub_step (x := W.getD i 0) hinv (show n5 + p = n5 + n1 * v.getD i 0 by rw [hp]) (show n5 + p = (n5 + p) % 4294967296 + 4294967296 * ((n5 + p) / 4294967296) by omega) (by rw [← hgd]) r hr
          simp only [val, pw]
          simpa using this
      refine ⟨gv, decide_eq_true (by omega), decide_eq_true k1, v2, decide_eq_true (by omega), decide_eq_true k1, d1, decide_eq_true (by omega), decide_eq_true (by omega), decide_eq_true (by omega), decide_eq_true (by omega), d1, decide_eq_true (by omega), decide_eq_true (by omega), decide_eq_true (by omega), decide_eq_true (by omega), fun k2 => ?_, fun k2 => ?_⟩
      · have k2 := of_decide_eq_true k2
        exact ⟨step 1 _ (by omega) (by omega) (by omega) (by omega) (by omega), by simp only [OV.int, intV]; omega⟩
      · have k2 := of_decide_eq_false k2
        exact ⟨step 0 _ (by omega) (by omega) (by omega) (by omega) (by omega), by simp only [OV.int, intV]; omega⟩
    · have k1 : ¬ (i : Int) < v.length := of_decide_eq_false k1
      have hin : i = v.length := by omega
      subst hin
      have hgd : W'.getD v.length 0 = W.getD v.length 0 := getD_of_drop hdr
      rw [List.take_of_length_le (l := v) (Nat.le_refl _)] at hinv
      have hok := trial_ok (q := n1) dW dv rfl hn hW htop hlt hq0 hex.1 (by rw [hhi]; exact hqt) (by rw [hhi]; exact hex.2)
      have hwn := val_take_succ W v.length
      have hv0 := val_nonneg dv
      have hvp : 0 < val v := by
        have := val_nonneg (dW.take (v.length + 1))
        omega
      simp only [toi, ton, win_getD hT, win_set hT]
      rw [w64 (n := W'.getD v.length 0) (by omega) (by omega), w64 (n := W'.getD v.length 0 - n6) (by omega) (by omega), w64 (n := n5) (by omega) (by omega), w64 (n := W'.getD v.length 0 - n6 - n5) (by omega) (by omega), wu32, wu32 n1]
      refine ⟨d1, decide_eq_true (by omega), decide_eq_true (by omega), decide_eq_true (by omega), decide_eq_true (by omega), d1, decide_eq_true (by omega), decide_eq_true (by omega), decide_eq_true (by omega), decide_eq_true (by omega), fun k2 => ?_, fun k2 => ?_⟩
      · have k2 : 0 ≤ W'.getD v.length 0 - n6 - n5 := of_decide_eq_true k2
        have hr0 : (W'.getD v.length 0 - n6 - n5) % 4294967296 = W'.getD v.length 0 - n6 - n5 := by omega
        rw [hr0]
        have hli : (W'.take v.length).length = v.length := by simp; omega
        have hval : val ((W'.set v.length (W'.getD v.length 0 - n6 - n5)).take (v.length + 1)) = val (W.take (v.length + 1)) - n1 * val v := by
          rw [take_set_succ (by omega), val_append, hli, hwn, hgd]
          simp only [val]
          grind
        have dset : Digs (W'.set v.length (W'.getD v.length 0 - n6 - n5)) := dW'.set _ (by omega)
        have hnn := val_nonneg (dset.take (v.length + 1))
        rw [hval] at hnn
        have hub := hok.2
        rw [Int.add_mul, Int.one_mul] at hub
        have hdiv : val (W.take (v.length + 1)) / val v = n1 := by
          rw [Int.ediv_eq_iff_of_pos hvp]
          constructor
          · omega
          · omega
        have hmod : val (W.take (v.length + 1)) % val v = val (W.take (v.length + 1)) - n1 * val v := by
          have := Int.emod_add_mul_ediv (val (W.take (v.length + 1))) (val v)
          rw [hdiv, Int.mul_comm (val v)] at this; omega
        refine ⟨_, rfl, by simpa using hWl, dset, ?_, ?_, ?_⟩
        · rw [drop_set_ge]; exact drop_succ_of hdr
        · rw [hdiv, Int.emod_eq_of_lt hq0 hex.1]
        · rw [hval, hmod]
      · have k2 : ¬ 0 ≤ W'.getD v.length 0 - n6 - n5 := of_decide_eq_false k2
        refine ⟨rfl, fun xs V' => ∃ (c' : Int) (j : Nat) (X : List Int), j ≤ v.length ∧ 0 ≤ c' ∧ c' ≤ 1 ∧ Digs X ∧ X.length = W.length ∧ X.drop j = (W'.set v.length ((W'.getD v.length 0 - n6 - n5) % 4294967296)).drop j ∧ val (X.take j) + c' * pw j = val (W'.take j) + val (v.take j) ∧ xs = [OV.int .u64 c', OV.int .i64 j, OV.lst (T ++ X)],
          fun xs => match xs with | [_, x, _] => (v.length - intV x.v).toNat | _ => 0, ⟨0, 0, W'.set v.length ((W'.getD v.length 0 - n6 - n5) % 4294967296), by omega, by omega, by omega, dW'.set _ (by omega), by simpa using hWl, rfl, by simp [val], rfl⟩, ?_⟩
        rintro V3 hV3 n10 n11 l12 ⟨c', j, X, hj, hc'0, hc'1, dX, hXl, hXd, hXv, e⟩
        simp only [List.cons.injEq, OV.int_inj, OV.lst_inj, and_true] at e
        obtain ⟨rfl, rfl, rfl⟩ := e
        have v3 := v2.mono hV3
        have hlenX : (T ++ X).length = o + X.length := by simp [hT]
        have toj : ((o : Int) + (j : Int)).toNat = o + j := by omega
        have tj : ((j : Int)).toNat = j := by omega
        have dvj := dv.get j
        have dxj := dX.get j
        refine ⟨fun k3 => ?_, fun k3 => ?_⟩
        · have k3 : (j : Int) < v.length := of_decide_eq_true k3
          have gv := v3.hasB (by omega)
          have hgx : X.getD j 0 = W'.getD j 0 := by rw [getD_of_drop hXd, set_getD_ne (by omega)]
          simp only [toj, tj, win_getD hT, win_set hT]
          rw [wu64 (n := X.getD j 0) (by omega) (by omega), wu64 (n := v.getD j 0) (by omega) (by omega), wu64 (n := X.getD j 0 + v.getD j 0) (by omega) (by omega), wu64 (n := n10 + (X.getD j 0 + v.getD j 0)) (by omega) (by omega), wu32, fdivB, w64 (n := (j : Int) + 1) (by omega) (by omega)]
          refine ⟨gv, decide_eq_true (by omega), decide_eq_true k3, v3, decide_eq_true (by omega), decide_eq_true k3, d1, decide_eq_true (by omega), decide_eq_true (by omega), decide_eq_true (by omega), decide_eq_true (by omega), d1, decide_eq_true (by omega), decide_eq_true (by omega), decide_eq_true (by omega), decide_eq_true (by omega), ⟨(n10 + (X.getD j 0 + v.getD j 0)) / 4294967296, j + 1, X.set j ((n10 + (X.getD j 0 + v.getD j 0)) % 4294967296), by omega, by omega, by omega, dX.set _ (by omega), by simpa using hXl, ?_, ?_, by simp⟩, by simp only [OV.int, intV]; omega⟩
          · rw [drop_set_ge]; exact drop_succ_of hXd
          · have hlj : (X.take j).length = j := by simp; omega
            rw [take_set_succ (by omega), val_append, hlj, val_take_succ W', val_take_succ v]
            have := carry_step (x := W'.getD j 0) (y := v.getD j 0) hXv (show n10 + (X.getD j 0 + v.getD j 0) = n10 + W'.getD j 0 + v.getD j 0 by rw [hgx]; omega)
            simp only [val, pw]
            simpa using this
        · have k3 : ¬ (j : Int) < v.length := of_decide_eq_false k3
          have hjn : j = v.length := by omega
          subst hjn
          have hgx : X.getD v.length 0 = (W'.getD v.length 0 - n6 - n5) % 4294967296 := by rw [getD_of_drop hXd, set_getD_eq (by omega)]
          have hlj : (X.take v.length).length = v.length := by simp; omega
          rw [List.take_of_length_le (l := v) (Nat.le_refl _)] at hXv
          have a1 := val_lt (dW'.take v.length)
          rw [show (W'.take v.length).length = v.length by simp; omega] at a1
          have a2 := val_nonneg (dX.take v.length)
          have a3 := val_lt (dX.take v.length)
          rw [hlj] at a3
          have hab := addback (t := W'.getD v.length 0 - n6 - n5) (r := (W'.getD v.length 0 - n6 - n5) % 4294967296) hinv (by rw [hgd]) (by omega) (by omega) (by omega) a1 a2 a3 hXv hc'0 hc'1 hwn hok.1
          have hq1 : 0 < n1 := by
            apply Decidable.byContradiction; intro hc
            have h0 : n1 = 0 := by omega
            have := val_nonneg (dW.take (v.length + 1))
            rw [h0, Int.zero_mul] at hab; omega
          have hsub : (n1 - 1) * val v = n1 * val v - val v := by rw [Int.sub_mul, Int.one_mul]
          have hdiv : val (W.take (v.length + 1)) / val v = n1 - 1 := by
            rw [Int.ediv_eq_iff_of_pos hvp]
            constructor
            · omega
            · omega
          have hmod : val (W.take (v.length + 1)) % val v = val (W.take (v.length + 1)) - (n1 - 1) * val v := by
            have := Int.emod_add_mul_ediv (val (W.take (v.length + 1))) (val v)
            rw [hdiv, Int.mul_comm (val v)] at this; omega
          simp only [ton, win_getD hT, win_set hT]
          rw [wu64 (n := n1 - 1) (by omega) (by omega), wu32, wu32, hgx]
          rw [wu32]
          rw [show n10 % 4294967296 = n10 by omega]
          refine ⟨d1, decide_eq_true (by omega), decide_eq_true (by omega), decide_eq_true (by omega), decide_eq_true (by omega), d1, decide_eq_true (by omega), decide_eq_true (by omega), decide_eq_true (by omega), decide_eq_true (by omega), X.set v.length (((W'.getD v.length 0 - n6 - n5) % 4294967296 + n10) % 4294967296), rfl, by simpa using hXl, dX.set _ (by omega), ?_, ?_, ?_⟩
          · rw [drop_set_ge, drop_succ_of hXd, drop_set_ge]; exact drop_succ_of hdr
          · rw [hdiv, Int.emod_eq_of_lt (by omega) (by omega)]
          · rw [take_set_succ (by omega), val_append, hlj, hmod, ← hab.1]
            simp [val]
end Go.Proofs.YtpcigcogcgpldaaGreatDoor
