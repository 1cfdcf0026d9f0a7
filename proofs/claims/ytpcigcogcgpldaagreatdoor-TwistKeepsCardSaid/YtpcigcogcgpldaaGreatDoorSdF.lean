/- A text of this claim's own: SD.StrC, SD.ParseC. -/
import Derived.Test.YtpcigcogcgpldaaGreatDoorSDClone
import Derived.Test.YtpcigcogcgpldaaGreatDoorSDLay
import Derived.Test.YtpcigcogcgpldaaGreatDoorSDGParse
import Derived.Test.YtpcigcogcgpldaaGreatDoorDxT
import Derived.Test.YtpcigcogcgpldaaGreatDoorSdD
set_option linter.unusedVariables false
set_option linter.unusedSimpArgs false
set_option linter.unusedVariables false
set_option linter.unusedSimpArgs false
set_option maxRecDepth 100000
namespace Go.Proofs.YtpcigcogcgpldaaGreatDoor
open Go Go.Dx Dw Go.Shelf Go.RowKit
/-- a contract of the shelf, that leaves old memory as it was -/
theorem CSpec.ofBelow {f : Nat} {args : Array Value} {V : VH} {v : Value} (h : ∀ w, Calls Tryz.prog f args w fun e w' => e = .returned v ∧ Below w.heap.size w w') : CSpec Tryz.prog f args V fun r _ => r = v :=
  ⟨fun w hw => (h w).mono fun e w' ⟨he, hb⟩ => ⟨v, V, he, hb, VH.le_refl _, inW_below hw hb, fun k hk => .inl hk, rfl⟩⟩
theorem size_list (s : ByteArray) : s.size = s.data.toList.length := Lib.size_eq s
theorem ext_data {s t : ByteArray} (h : s.data.toList = t.data.toList) : s = t := by
  cases s; cases t; simp only [ByteArray.mk.injEq]; exact Array.ext' h
theorem toL (s : ByteArray) : s.toList = s.data.toList := toList_data s
/-- does a text begin with a minus sign? what comes behind it -/
def negT (s : ByteArray) : Bool := s.data.toList.head? == some 45
def magT (s : ByteArray) : ByteArray := if negT s then s.extract 1 s.size else s
theorem magT_data (s : ByteArray) : (magT s).data.toList = if s.data.toList.head? = some 45 then s.data.toList.tail else s.data.toList := by
  unfold magT negT
  by_cases h : s.data.toList.head? = some 45
  · simp only [h, beq_self_eq_true, if_true]
    rw [Lib.extract_data]
    rw [size_list, List.take_of_length_le (by simp)]
    simp
  · have : (s.data.toList.head? == some 45) = false := by simpa using h
    simp only [this, Bool.false_eq_true, if_false, h]
def minus1 : ByteArray := ⟨#[45]⟩
theorem HasPrefix_spec {s : ByteArray} {V : VH} : CSpec Tryz.prog n_internal_stringslite_HasPrefix #[.string s, .string (⟨#[45]⟩ : ByteArray)] V fun v V' => v = .bool (negT s) := by
  refine E_internal_stringslite_HasPrefix s _ V _ ⟨fun h => ?_, fun h => ?_⟩
  · have h : (1 : Int) ≤ s.size := of_decide_eq_true h
    refine ⟨rfl, decide_eq_true h, ?_⟩
    congr 1
    rw [toL, toL]
    show ((s.extract 0 1).data.toList == [45]) = _
    rw [Lib.extract_data]
    unfold negT
    rw [size_list] at h
    cases hl : s.data.toList with
    | nil => rw [hl] at h; simp at h
    | cons b l => simp
  · have h : ¬ (1 : Int) ≤ s.size := of_decide_eq_false h
    congr 1
    have : s.data.toList = [] := List.eq_nil_of_length_eq_zero (by rw [← size_list]; omega)
    simp [negT, this]
theorem CutPrefix_spec {s : ByteArray} {V : VH} : CSpec Tryz.prog n_strings_CutPrefix #[.string s, .string (⟨#[45]⟩ : ByteArray)] V fun v V' => v = .tuple #[.string (magT s), .bool (negT s)] := by
  refine E_strings_CutPrefix s _ V _ ((E_internal_stringslite_CutPrefix s _ V (fun v V' => v = .tuple #[.string (magT s), .bool (negT s)]) (HasPrefix_spec.mono ?_)).mono ?_)
  · rintro _ V1 hV rfl
    refine ⟨_, rfl, fun h => ?_, fun h => ?_⟩
    · have h : negT s = false := by simpa using h
      rw [h]; simp [magT, h]
    · have h : negT s = true := by simpa using h
      have hs : 1 ≤ s.size := by
        rw [size_list]
        unfold negT at h
        cases hl : s.data.toList with
        | nil => rw [hl] at h; cases h
        | cons b l => simp
      have h1 : (1 : Int) ≤ s.size := by omega
      refine ⟨rfl, decide_eq_true h1, decide_eq_true (Int.le_refl _), ?_⟩
      rw [h]; simp only [magT, h, if_true]; rfl
  · rintro _ V1 hV rfl
    exact ⟨_, _, rfl, rfl⟩
theorem TrimPrefix_spec {s : ByteArray} {V : VH} : CSpec Tryz.prog n_strings_TrimPrefix #[.string s, .string (⟨#[45]⟩ : ByteArray)] V fun v V' => v = .string (magT s) := by
  refine E_strings_TrimPrefix s _ V _ ((E_internal_stringslite_TrimPrefix s _ V (fun v V' => v = .string (magT s)) (HasPrefix_spec.mono ?_)).mono ?_)
  · rintro _ V1 hV rfl
    refine ⟨_, rfl, fun h => ?_, fun h => ?_⟩
    · have hs : 1 ≤ s.size := by
        rw [size_list]
        unfold negT at h
        cases hl : s.data.toList with
        | nil => rw [hl] at h; cases h
        | cons b l => simp
      have h1 : (1 : Int) ≤ s.size := by omega
      refine ⟨rfl, decide_eq_true h1, decide_eq_true (Int.le_refl _), ?_⟩
      simp only [magT, h, if_true]; rfl
    · simp [magT, h]
  · rintro _ V1 hV rfl
    exact ⟨_, rfl, rfl⟩
/-- does a text consist of digits alone? -/
def dgT (s : ByteArray) : Bool := allDg s.data.toList
theorem ContainsFunc_spec {s : ByteArray} {V : VH} : CSpec Tryz.prog n_strings_ContainsFunc #[.string s, .func (.func n_integer_Parse_1) #[] #[]] V fun v V' => v = .bool (!dgT s) := by
  refine CSpec.ofBelow fun w => ?_
  have hp : PredGrows Tryz.prog n_integer_Parse_1 #[] nonDg w := by
    intro W x hx hb
    have h := E_integer_Parse_1 (x : Int) ⟨fun _ => none⟩ (fun v V' => v = .bool (nonDg x)) ⟨fun h => ?_, fun h => ?_⟩
    · refine (h.out W (fun k o hk => by cases hk)).mono ?_
      rintro e w' ⟨v, V', rfl, hb, _, _, _, rfl⟩
      exact ⟨rfl, hb⟩
    · have h : (x : Int) < 48 := of_decide_eq_true h
      simp only [nonDg]; congr 1; simp; omega
    · have h : ¬ (x : Int) < 48 := of_decide_eq_false h
      simp only [nonDg]; congr 1
      have : decide (x < 48) = false := decide_eq_false (by omega)
      rw [this, Bool.false_or]
      by_cases h2 : 57 < x
      · rw [decide_eq_true (by omega), decide_eq_true h2]
      · rw [decide_eq_false (by omega), decide_eq_false h2]
  have := Any.strings_ContainsFunc_grows Tryz.laysGw17 n_integer_Parse_1 #[] (enters_of Tryz.func175 (by kernel_rfl) rfl) nonDg s w hp
  rw [contains_digits] at this
  exact this
theorem ParseUint_spec {s : ByteArray} {V : VH} (h : dgT s = true) (h1 : 1 ≤ s.size) (h9 : s.size ≤ 9) : CSpec Tryz.prog n_strconv_ParseUint #[.string s, .int .i64 10, .int .i64 32] V fun v V' => v = .tuple #[.int .u64 (dval s.data.toList), .nilIface] := by
  refine CSpec.ofBelow fun w => ?_
  refine (Any.strconv_ParseUint_10_at32_ok Tryz.laysPu14 s (by omega) _ (parseUintB_dval h (by intro e; rw [size_list, e] at h1; simp at h1) (by rw [← size_list]; exact h9)) w).mono ?_
  rintro e w' ⟨rfl, hw | hw⟩
  · rw [hw]; exact ⟨rfl, Below.refl _ _⟩
  · rw [hw]; exact ⟨rfl, Lib.bytesWorld_below _ _ _⟩
theorem IndexByte_spec {s : ByteArray} {V : VH} : CSpec Tryz.prog n_internal_stringslite_IndexByte #[.string s, .int .u8 47] V fun v V' => v = .int .i64 (Lib.indexByte s.data.toList 47) := by
  refine CSpec.ofBelow fun w => ?_
  refine (Any.stringslite_IndexByte Tryz.lays217 s 47 w).mono ?_
  rintro e w' ⟨rfl, rfl⟩
  exact ⟨rfl, Below.refl _ _⟩
theorem Trim_spec {s cut : ByteArray} {V : VH} (hs : s.size ≤ 9223372036854775807) (hc : cut.size < 4294967281) (ha : ∀ (j : Nat) b, cut.data.toList[j]? = some b → b.toNat < 128) :
    CSpec Tryz.prog n_strings_Trim #[.string s, .string cut] V fun v V' => v = .string ⟨(Lib.trimS s.data.toList cut.data.toList).toArray⟩ :=
  CSpec.ofBelow fun w => Any.strings_Trim_laid Tryz.lays160 (by kernel_rfl) s cut w hs hc ha
theorem dw_nil {α : Type} (p : α → Bool) : ∀ l : List α, l.dropWhile p = [] ↔ l.all p = true
  | [] => by simp
  | a :: l => by
    rw [List.dropWhile_cons, List.all_cons]
    by_cases h : p a = true
    · rw [if_pos h, h, Bool.true_and]; exact dw_nil p l
    · rw [if_neg h]; simp [h]
theorem dw_all {α : Type} (p : α → Bool) : ∀ l : List α, (l.dropWhile p).all p = true ↔ l.dropWhile p = []
  | [] => by simp
  | a :: l => by
    rw [List.dropWhile_cons]
    by_cases h : p a = true
    · rw [if_pos h]; exact dw_all p l
    · rw [if_neg h]; simp [h]
theorem trimS_nil (l cs : List UInt8) : Lib.trimS l cs = [] ↔ l.all (cs.contains ·) = true := by
  unfold Lib.trimS Lib.trimLeftS Lib.trimRightS
  rw [dw_nil, List.all_reverse, dw_all, dw_nil, List.all_reverse]
theorem digs_contains (b : UInt8) : ([48, 49, 50, 51, 52, 53, 54, 55, 56, 57] : List UInt8).contains b = isDg b := by
  have h : ∀ b : UInt8, ([48, 49, 50, 51, 52, 53, 54, 55, 56, 57] : List UInt8).contains b = isDg b := by
    intro b
    have key : ∀ n : Fin 256, ([48, 49, 50, 51, 52, 53, 54, 55, 56, 57] : List UInt8).contains (UInt8.ofNat n.val) = isDg (UInt8.ofNat n.val) := by decide
    have := key ⟨b.toNat, b.toNat_lt⟩
    simpa using this
  exact h b
theorem digits_spec {s : ByteArray} {V : VH} (hs : s.size ≤ 9223372036854775807) : CSpec Tryz.prog n_rational_digits #[.string s] V fun v V' => v = .bool (decide (s.data.toList ≠ []) && dgT s) := by
  refine E_rational_digits s V _ ⟨fun h => ?_, fun h => ?_⟩
  · have h : s.data.toList ≠ [] := by
      intro e; rw [toL, toL, e] at h; simp at h
    refine (Trim_spec (cut := ⟨#[48, 49, 50, 51, 52, 53, 54, 55, 56, 57]⟩) hs (by decide) (fun j b hb => ?_)).mono ?_
    · have hm := List.mem_of_getElem? hb
      have : b = 48 ∨ b = 49 ∨ b = 50 ∨ b = 51 ∨ b = 52 ∨ b = 53 ∨ b = 54 ∨ b = 55 ∨ b = 56 ∨ b = 57 := by simpa using hm
      rcases this with rfl | rfl | rfl | rfl | rfl | rfl | rfl | rfl | rfl | rfl <;> decide
    · rintro _ V1 hV rfl
      refine ⟨_, rfl, ?_⟩
      congr 1
      rw [toL, toL]
      show ((Lib.trimS s.data.toList [48, 49, 50, 51, 52, 53, 54, 55, 56, 57]) == []) = _
      have e : (s.data.toList.all (([48, 49, 50, 51, 52, 53, 54, 55, 56, 57] : List UInt8).contains ·)) = dgT s := by
        unfold dgT allDg; congr 1; funext b; exact digs_contains b
      have := trimS_nil s.data.toList [48, 49, 50, 51, 52, 53, 54, 55, 56, 57]
      rw [e] at this
      rw [decide_eq_true h, Bool.true_and]
      cases hd : dgT s with
      | true => rw [this.2 hd]; rfl
      | false =>
        have : Lib.trimS s.data.toList [48, 49, 50, 51, 52, 53, 54, 55, 56, 57] ≠ [] := fun e => by rw [this.1 e] at hd; cases hd
        simpa using this
  · have h : s.data.toList = [] := by rw [toL, toL] at h; simpa using h
    congr 1
    simp [h]
end Go.Proofs.YtpcigcogcgpldaaGreatDoor

set_option linter.unusedVariables false
set_option linter.unusedSimpArgs false
set_option maxRecDepth 100000
namespace Go.Proofs.YtpcigcogcgpldaaGreatDoor
open Go Go.Dx Dw
theorem scale_spec {A0 : Option Addr} {c0 : Nat} {a : List Int} {by' pl : Int} {V : VH} (ha : RdV V .u32 (OV.sl A0 c0 a)) (da : Digs a) (hl : a.length < 1099511627776) (hb0 : 0 ≤ by') (hb1 : by' < 4294967296) (hp0 : 0 ≤ pl) (hp1 : pl < 4294967296) :
    CSpec Tryz.prog n_integer_scale #[.slice A0 a.length c0, .int .u32 by', .int .u32 pl] V fun v V' => TrimR V' v (val a * by' + pl) (a.length + 1) := by
  refine E_integer_scale A0 c0 a by' pl V _ ?_
  rw [w64 (show -9223372036854775808 ≤ (a.length : Int) + 1 by omega) (by omega)]
  have hn1 : ((a.length : Int) + 1).toNat = a.length + 1 := by omega
  simp only [hn1]
  refine ⟨rfl, decide_eq_true (by omega), decide_eq_true (by omega), fun m => ⟨rfl, fun xs V' => ∃ (cy : Int) (i : Nat) (o : List Int), i ≤ a.length ∧ 0 ≤ cy ∧ cy < 4294967296 ∧ Digs o ∧ o.length = a.length + 1 ∧ val (o.take i) + cy * pw i = val (a.take i) * by' + pl ∧ xs = [OV.int .u64 cy, OV.int .i64 i, OV.lst o],
    fun xs => match xs with | [_, x, _] => (a.length - intV x.v).toNat | _ => 0, ⟨pl, 0, List.replicate (a.length + 1) 0, by omega, hp0, hp1, Digs.replicate _, by simp, by simp [val, pw], by rw [wu64 hp0 (by omega)]; rfl⟩, ?_⟩⟩
  rintro V1 hV n1 n2 o1 ⟨cy, i, o, hi, hc0, hc1, ho, hol, hv, e⟩
  simp only [List.cons.injEq, OV.int_inj, OV.lst_inj, and_true] at e
  obtain ⟨rfl, rfl, rfl⟩ := e
  have q1 := ha.mono hV
  have d1 := da.get i
  have ti : ((i : Int)).toNat = i := by omega
  simp only [ti]
  refine ⟨fun h => ?_, fun h => ?_⟩
  · have h : (i : Int) < a.length := of_decide_eq_true h
    refine ⟨q1.hasB (by omega), decide_eq_true (by omega), decide_eq_true h, q1, decide_eq_true (by omega), decide_eq_true h, decide_eq_true (by omega), decide_eq_true (by omega), decide_eq_true (by omega), decide_eq_true (by omega), ?_⟩
    generalize hx : a.getD i 0 = x at d1 ⊢
    have hm0 : 0 ≤ x * by' := Int.mul_nonneg d1.1 hb0
    have hm1 : x * by' ≤ 4294967295 * 4294967295 := Int.mul_le_mul (by omega) (by omega) hb0 (by omega)
    rw [wu64 (n := x) (by omega) (by omega), wu64 (n := by') (by omega) (by omega), wu64 (n := x * by') hm0 (by omega), wu64 (n := n1 + x * by') (by omega) (by omega), wu32, fdivB, w64 (by omega) (by omega)]
    refine ⟨⟨(n1 + x * by') / 4294967296, i + 1, o1.set i ((n1 + x * by') % 4294967296), by omega, by omega, by omega, ho.set i (by omega), by simpa using hol, ?_, by simp⟩, ?_⟩
    · rw [take_set_succ (by omega), val_append, val_take_succ, hx]
      have hli : (o1.take i).length = i := by simp; omega
      rw [hli]
      have e1 : (n1 + x * by') % 4294967296 + 4294967296 * ((n1 + x * by') / 4294967296) = n1 + x * by' := Int.emod_add_mul_ediv _ _
      generalize (n1 + x * by') % 4294967296 = r at e1 ⊢
      generalize (n1 + x * by') / 4294967296 = q at e1 ⊢
      simp only [val, pw]
      have e2 : (val (a.take i) + pw i * x) * by' = val (a.take i) * by' + pw i * (x * by') := by grind
      rw [e2]
      generalize x * by' = y at e1 ⊢
      generalize val (a.take i) * by' = u at hv ⊢
      generalize val (o1.take i) = o at hv ⊢
      generalize pw i = p at hv ⊢
      clear e2 hm0 hm1 d1 hx
      grind
    · simp only [OV.int, intV]; omega
  · have h : ¬ (i : Int) < a.length := of_decide_eq_false h
    have : i = a.length := by omega
    subst this
    have ta : ((a.length : Int)).toNat = a.length := by omega
    simp only [ta]
    refine ⟨rfl, decide_eq_true (by omega), decide_eq_true (by omega), decide_eq_true (by omega), decide_eq_true (by omega), fun hm => ?_⟩
    rw [wu32, Int.emod_eq_of_lt hc0 hc1]
    have hset : (o1.set a.length n1).length = a.length + 1 := by simpa using hol
    have hD := ho.set a.length (d := n1) ⟨hc0, hc1⟩
    have p := trim_spec (V := V1.put m (.cells ((o1.set a.length n1).map (Value.int .u32)).toArray ty_u32)) (A := some ⟨m, 0, none⟩) (c := (o1.set a.length n1).length) (l := o1.set a.length n1) RdV.put' hD (by omega)
    rw [hset] at p
    refine p.mono ?_
    rintro v2 V2 hV2 ⟨A, c, l, e1, p1, p2, p3, p4, p5⟩
    refine ⟨A, c, l, e1, A, c, l, rfl, p1, p2, p3, ?_, p5⟩
    rw [p4]
    have h5 : o1.set a.length n1 = o1.take a.length ++ [n1] := by
      rw [← take_set_succ (d := n1) (by omega), List.take_of_length_le (by simp; omega)]
    have hli : (o1.take a.length).length = a.length := by simp; omega
    rw [h5, val_append, hli]
    rw [List.take_of_length_le (l := a) (Nat.le_refl _)] at hv
    simp only [val]
    generalize hg : pw a.length = p at hv ⊢
    grind
theorem dgT_drop {s : ByteArray} (h : dgT s = true) (i j : Nat) : dgT (s.extract i j) = true := by
  unfold dgT allDg at *
  rw [Lib.extract_data, List.all_eq_true]
  rw [List.all_eq_true] at h
  intro x hx
  exact h x (List.mem_of_mem_drop (List.mem_of_mem_take hx))
theorem extract_size {s : ByteArray} {i j : Nat} (h : j ≤ s.size) : (s.extract i j).size = j - i := by
  rw [ByteArray.size_extract]; omega
/-- groups of nine digits -/
theorem parse_tail (s1 : ByteArray) (b2 : Bool) (V2 : VH) (R : Value → VH → Prop) (hd : dgT s1 = true) (hs : s1.size ≤ 65536)
    (hR : ∀ (V' : VH) (i : R2), V2.le V' → IntR V' i (if b2 = true then -(dval s1.data.toList : Int) else (dval s1.data.toList : Int)) → i.l.length ≤ s1.size → R (.tuple #[i.v, .int .i64 0]) V') :
    ∃ (I14 : List OV → VH → Prop) (μ14 : List OV → Nat), I14 [(constOV (.slice none 0 0)), (OV.str s1)] V2 ∧
        ∀ V8 : VH, V2.le V8 → ∀ x15 : OV, ∀ s16 : ByteArray, (I14 [x15, (OV.str s16)] V8 →
         (((decide ((0 : Int) < ((s16).size : Int))) = true → ∃ (I17 : List OV → VH → Prop) (μ17 : List OV → Nat), I17 [(OV.int .u32 (1 : Int)), (OV.int .i64 (0 : Int))] V8 ∧
          ∀ V9 : VH, V8.le V9 → ∀ n18 : Int, ∀ n19 : Int, (I17 [(OV.int .u32 n18), (OV.int .i64 n19)] V9 →
           (((decide (n19 < (IntKind.wrap .i64 ((Int.tmod (IntKind.wrap .i64 (((s16).size : Int) - (1 : Int))) (9 : Int)) + (1 : Int))))) = true → (I17 [(OV.int .u32 (IntKind.wrap .u32 (n18 * (10 : Int)))), (OV.int .i64 (IntKind.wrap .i64 (n19 + (1 : Int))))] V9 ∧ μ17 [(OV.int .u32 (IntKind.wrap .u32 (n18 * (10 : Int)))), (OV.int .i64 (IntKind.wrap .i64 (n19 + (1 : Int))))] < μ17 [(OV.int .u32 n18), (OV.int .i64 n19)])) ∧
           ((decide (n19 < (IntKind.wrap .i64 ((Int.tmod (IntKind.wrap .i64 (((s16).size : Int) - (1 : Int))) (9 : Int)) + (1 : Int))))) = false → (decide ((0 : Int) ≤ (IntKind.wrap .i64 ((Int.tmod (IntKind.wrap .i64 (((s16).size : Int) - (1 : Int))) (9 : Int)) + (1 : Int))))) = true ∧
            (decide ((IntKind.wrap .i64 ((Int.tmod (IntKind.wrap .i64 (((s16).size : Int) - (1 : Int))) (9 : Int)) + (1 : Int))) ≤ ((s16).size : Int))) = true ∧
            CSpec Tryz.prog n_strconv_ParseUint #[(.string ((s16).extract (Int.toNat (0 : Int)) (Int.toNat (IntKind.wrap .i64 ((Int.tmod (IntKind.wrap .i64 (((s16).size : Int) - (1 : Int))) (9 : Int)) + (1 : Int)))))), (.int .i64 (10 : Int)), (.int .i64 (32 : Int))] V9 fun v9 V10 =>
            ∃ n20 : Int, ∃ x21 : OV, v9 = (.tuple #[(.int .u64 n20), x21.v]) ∧
            CSpec Tryz.prog n_integer_scale #[x15.v, (.int .u32 n18), (.int .u32 (IntKind.wrap .u32 n20))] V10 fun v10 V11 =>
            ∃ (A22 : Option Addr) (c22 : Nat) (l22 : List Int), v10 = (.slice A22 l22.length c22) ∧
            (decide ((0 : Int) ≤ (IntKind.wrap .i64 ((Int.tmod (IntKind.wrap .i64 (((s16).size : Int) - (1 : Int))) (9 : Int)) + (1 : Int))))) = true ∧
            (decide ((IntKind.wrap .i64 ((Int.tmod (IntKind.wrap .i64 (((s16).size : Int) - (1 : Int))) (9 : Int)) + (1 : Int))) ≤ ((s16).size : Int))) = true ∧
            (decide (((s16).size : Int) ≤ ((s16).size : Int))) = true ∧
            (I14 [(OV.sl A22 c22 l22), (OV.str ((s16).extract (Int.toNat (IntKind.wrap .i64 ((Int.tmod (IntKind.wrap .i64 (((s16).size : Int) - (1 : Int))) (9 : Int)) + (1 : Int)))) (Int.toNat ((s16).size : Int))))] V11 ∧ μ14 [(OV.sl A22 c22 l22), (OV.str ((s16).extract (Int.toNat (IntKind.wrap .i64 ((Int.tmod (IntKind.wrap .i64 (((s16).size : Int) - (1 : Int))) (9 : Int)) + (1 : Int)))) (Int.toNat ((s16).size : Int))))] < μ14 [x15, (OV.str s16)]))))) ∧
         ((decide ((0 : Int) < ((s16).size : Int))) = false → CSpec Tryz.prog n_integer_signed #[(.bool b2), x15.v] V8 fun v11 V12 =>
          ∃ i23 : R2, v11 = (R2.v i23) ∧
          R (.tuple #[(R2.v i23), (.int .i64 (0 : Int))]) V12))) := by
  refine ⟨fun xs V' => ∃ A c l t, xs = [OV.sl A c l, OV.str t] ∧ RdV V' .u32 (OV.sl A c l) ∧ Digs l ∧ dgT t = true ∧ t.size ≤ s1.size ∧ val l * ((10 ^ t.size : Nat) : Int) + (dval t.data.toList : Int) = (dval s1.data.toList : Int) ∧ l.length + t.size ≤ s1.size,
    fun xs => match xs with | [_, x] => (strV x.v).size | _ => 0, ⟨none, 0, [], s1, rfl, RdV.nil _ _ _ _, Digs.nil, hd, Nat.le_refl _, by simp [val], by simp⟩, ?_⟩
  rintro V8 hV8 x15 t ⟨A, c, l, t', e, r1, r2, r3, r4, r5, r6⟩
  simp only [List.cons.injEq, and_true] at e
  obtain ⟨rfl, e⟩ := e
  have e : t = t' := by have := congrArg (fun x => strV x.v) e; simpa [OV.str, strV] using this
  subst e
  refine ⟨fun h => ?_, fun h => ?_⟩
  · have h : (0 : Int) < t.size := of_decide_eq_true h
    obtain ⟨n, hn, hn1, hn9, hnt⟩ : ∃ n : Nat, IntKind.wrap .i64 ((Int.tmod (IntKind.wrap .i64 ((t.size : Int) - 1)) 9) + 1) = n ∧ 1 ≤ n ∧ n ≤ 9 ∧ n ≤ t.size := by
      refine ⟨(t.size - 1) % 9 + 1, ?_, by omega, by omega, by omega⟩
      rw [w64 (n := (t.size : Int) - 1) (by omega) (by omega), Int.tmod_eq_emod_of_nonneg (by omega), w64 (by omega) (by omega)]
      omega
    simp only [hn, Int.toNat_natCast, Int.toNat_zero]
    refine ⟨fun xs V' => ∃ j : Nat, j ≤ n ∧ xs = [OV.int .u32 ((10 ^ j : Nat) : Int), OV.int .i64 j], fun xs => match xs with | [_, x] => (n - intV x.v).toNat | _ => 0, ⟨0, by omega, by simp⟩, ?_⟩
    rintro V9 hV9 n18 n19 ⟨j, hj, e⟩
    simp only [List.cons.injEq, OV.int_inj, and_true] at e
    obtain ⟨rfl, rfl⟩ := e
    have hpj : 10 ^ j ≤ 10 ^ 9 := Nat.pow_le_pow_right (by decide) (by omega)
    refine ⟨fun h2 => ?_, fun h2 => ?_⟩
    · have h2 : (j : Int) < n := of_decide_eq_true h2
      have hpj8 : 10 ^ j ≤ 10 ^ 8 := Nat.pow_le_pow_right (by decide) (by omega)
      rw [wu32, w64 (by omega) (by omega)]
      refine ⟨⟨j + 1, by omega, ?_⟩, by simp only [OV.int, intV]; omega⟩
      simp only [List.cons.injEq, OV.int_inj, and_true]
      refine ⟨?_, by omega⟩
      rw [Nat.pow_succ]
      generalize 10 ^ j = p at hpj8 ⊢
      omega
    · have h2 : ¬ (j : Int) < n := of_decide_eq_false h2
      have : j = n := by omega
      subst this
      have hsz : (t.extract 0 j).size = j := by rw [extract_size hnt]; omega
      have hdg := dgT_drop r3 0 j
      have hlt : dval (t.extract 0 j).data.toList < 10 ^ 9 := Nat.lt_of_lt_of_le (dval_lt hdg) (by rw [← size_list, hsz]; exact hpj)
      refine ⟨decide_eq_true (by omega), decide_eq_true (by omega), (ParseUint_spec hdg (by omega) (by omega)).mono ?_⟩
      rintro _ V10 hV10 rfl
      have hr := ((r1.mono hV9).mono hV10)
      refine ⟨_, OV.of .nilIface rfl, rfl, ?_⟩
      rw [wu32, Int.emod_eq_of_lt (by omega) (by omega)]
      have hsp := scale_spec (by' := ((10 ^ j : Nat) : Int)) (pl := (dval (t.extract 0 j).data.toList : Int)) hr r2 (by omega) (Int.natCast_nonneg _) (by have : ((10 ^ j : Nat) : Int) ≤ ((10 ^ 9 : Nat) : Int) := Int.ofNat_le.2 hpj; have e : ((10 ^ 9 : Nat) : Int) = 1000000000 := rfl; omega) (by omega) (by omega)
      refine hsp.mono ?_
      rintro _ V11 hV11 ⟨A2, c2, l2, rfl, q1, q2, q3, q4, q5⟩
      have hsz2 : (t.extract j t.size).size = t.size - j := extract_size (Nat.le_refl _)
      refine ⟨A2, c2, l2, rfl, decide_eq_true (by omega), decide_eq_true (by omega), decide_eq_true (Int.le_refl _), ⟨A2, c2, l2, t.extract j t.size, rfl, q1, q2, dgT_drop r3 _ _, by omega, ?_, by omega⟩, ?_⟩
      · rw [q4, hsz2, ← r5]
        have e1 : t.data.toList = (t.extract 0 j).data.toList ++ (t.extract j t.size).data.toList := by
          rw [Lib.extract_data, Lib.extract_data, size_list]
          have : (t.data.toList.drop j).take (t.data.toList.length - j) = t.data.toList.drop j := List.take_of_length_le (by simp)
          rw [this, Nat.sub_zero, List.drop_zero, List.take_append_drop]
        have e2 : dval t.data.toList = dval (t.extract 0 j).data.toList * 10 ^ (t.size - j) + dval (t.extract j t.size).data.toList := by
          conv => lhs; rw [e1]
          rw [dval_append, ← size_list, hsz2]
        have e3 : 10 ^ t.size = 10 ^ j * 10 ^ (t.size - j) := by rw [← Nat.pow_add]; congr 1; omega
        rw [e2, e3]
        generalize 10 ^ j = p
        generalize 10 ^ (t.size - j) = p2
        push_cast
        grind
      · simp only [OV.str, strV, hsz2]; omega
  · have h : ¬ (0 : Int) < t.size := of_decide_eq_false h
    have ht0 : t.size = 0 := by omega
    have ht : t.data.toList = [] := List.eq_nil_of_length_eq_zero (by rw [← size_list]; exact ht0)
    rw [ht0, ht] at r5
    have hv : val l = (dval s1.data.toList : Int) := by simpa [dval] using r5
    refine (signed_spec (b := b2) r1 r2 (by omega)).mono ?_
    rintro _ V12 hV12 ⟨i, rfl, hi, hil⟩
    rw [hv] at hi
    exact ⟨i, rfl, hR V12 i (VH.le_trans hV8 hV12) hi (by omega)⟩
/-- what integer.Parse makes of a text -/
def numI (s : ByteArray) : Int := if negT s = true then -(dval (magT s).data.toList : Int) else (dval (magT s).data.toList : Int)
def errI (s : ByteArray) : Int :=
  if 65536 < s.size then 5 else if (magT s).data.toList = [] ∨ dgT (magT s) = false then 14 else if (magT s).data.toList.head? = some 48 ∧ (1 < (magT s).size ∨ negT s = true) then 3 else 0
def zero2 : R2 := ⟨false, none, [], 0⟩
theorem magT_size (s : ByteArray) : (magT s).size ≤ s.size := by
  rw [size_list, size_list, magT_data]; split <;> simp
def ParseR (s : ByteArray) (v : Value) (V' : VH) : Prop :=
  (errI s ≠ 0 ∧ v = .tuple #[zero2.v, .int .i64 (errI s)]) ∨ (errI s = 0 ∧ ∃ i : R2, v = .tuple #[i.v, .int .i64 0] ∧ IntR V' i (numI s) ∧ i.l.length ≤ s.size)
theorem Parse_spec {s : ByteArray} {V : VH} : CSpec Tryz.prog n_integer_Parse #[.string s] V (ParseR s) := by
  have hms := magT_size s
  refine E_integer_Parse s V _ fun _ => ⟨fun h => ?_, fun h => ?_⟩
  · have h : (65536 : Int) < s.size := of_decide_eq_true h
    have e : errI s = 5 := by unfold errI; rw [if_pos (by omega)]
    exact .inl ⟨by rw [e]; decide, by rw [e]; rfl⟩
  · have h : ¬ (65536 : Int) < s.size := of_decide_eq_false h
    have hle : ¬ 65536 < s.size := by omega
    refine CutPrefix_spec.mono ?_
    rintro _ V1 hV1 rfl
    refine ⟨_, _, rfl, fun h2 => ?_, fun h2 => ?_⟩
    · have h2 : (magT s).data.toList = [] := by rw [toL, toL] at h2; simpa using h2
      have e : errI s = 14 := by unfold errI; rw [if_neg hle, if_pos (.inl h2)]
      exact .inl ⟨by rw [e]; decide, by rw [e]; rfl⟩
    · have h2 : (magT s).data.toList ≠ [] := by intro e; rw [toL, toL, e] at h2; simp at h2
      refine ContainsFunc_spec.mono ?_
      rintro _ V2 hV2 rfl
      refine ⟨_, rfl, fun h3 => ?_, fun h3 => ?_⟩
      · have h3 : dgT (magT s) = false := by simpa using h3
        have e : errI s = 14 := by unfold errI; rw [if_neg hle, if_pos (.inr h3)]
        exact .inl ⟨by rw [e]; decide, by rw [e]; rfl⟩
      · have h3 : dgT (magT s) = true := by simpa using h3
        have hno : ¬ ((magT s).data.toList = [] ∨ dgT (magT s) = false) := by rw [h3]; simp [h2]
        have hpos : 0 < (magT s).size := by rw [size_list]; exact List.length_pos_iff.2 h2
        have hfin : (¬ ((magT s).data.toList.head? = some 48 ∧ (1 < (magT s).size ∨ negT s = true))) → ∀ (V' : VH) (i : R2), V2.le V' → IntR V' i (if negT s = true then -(dval (magT s).data.toList : Int) else (dval (magT s).data.toList : Int)) → i.l.length ≤ (magT s).size →
            ParseR s (.tuple #[i.v, .int .i64 0]) V' := by
          intro hn V' i _ hi hil
          have e : errI s = 0 := by unfold errI; rw [if_neg hle, if_neg hno, if_neg hn]
          exact .inr ⟨e, i, rfl, hi, by omega⟩
        have hbt : btV (magT s) 0 = 48 ↔ (magT s).data.toList.head? = some 48 := by
          unfold btV
          have : (magT s)[(0 : Int).toNat]? = (magT s).data.toList.head? := by
            show (magT s)[0]? = _
            rw [List.head?_eq_getElem?]
            simp [hpos]
            have hl : 0 < (magT s).data.toList.length := by rw [← size_list]; exact hpos
            rfl
          rw [this]
          cases hh : (magT s).data.toList.head? with
          | none => exact absurd (List.head?_eq_none_iff.1 hh) h2
          | some b =>
            simp only [Option.some.injEq]
            constructor
            · intro e; apply UInt8.toNat_inj.1; have e : (b.toNat : Int) = 48 := e; show b.toNat = 48; omega
            · rintro rfl; rfl
        refine ⟨decide_eq_true (by omega), fun h4 => ?_, fun h4 => ?_⟩
        · have h4 := hbt.1 (eq_of_beq h4)
          refine ⟨fun h5 => ?_, fun h5 => ⟨fun h6 => ?_, fun h6 => ?_⟩⟩
          · have h5 : (1 : Int) < (magT s).size := of_decide_eq_true h5
            have e : errI s = 3 := by unfold errI; rw [if_neg hle, if_neg hno, if_pos ⟨h4, .inl (by omega)⟩]
            exact .inl ⟨by rw [e]; decide, by rw [e]; rfl⟩
          · have e : errI s = 3 := by unfold errI; rw [if_neg hle, if_neg hno, if_pos ⟨h4, .inr h6⟩]
            exact .inl ⟨by rw [e]; decide, by rw [e]; rfl⟩
          · have h5 : ¬ (1 : Int) < (magT s).size := of_decide_eq_false h5
            exact parse_tail _ _ _ (ParseR s) h3 (by omega) (hfin fun hc => by rcases hc.2 with hc | hc; omega; rw [h6] at hc; cases hc)
        · have h4 : ¬ (magT s).data.toList.head? = some 48 := fun e => by rw [hbt.2 e] at h4; cases h4
          exact parse_tail _ _ _ (ParseR s) h3 (by omega) (hfin fun hc => h4 hc.1)
end Go.Proofs.YtpcigcogcgpldaaGreatDoor
