/- A text of this claim's own: SD.TextM. -/
import Derived.Test.YtpcigcogcgpldaaGreatDoorSdF
import Derived.Test.YtpcigcogcgpldaaGreatDoorSdE
import Derived.Test.YtpcigcogcgpldaaGreatDoorSDGText
import Derived.Test.YtpcigcogcgpldaaGreatDoorSdB
import Derived.Test.YtpcigcogcgpldaaGreatDoorDxT
import Derived.Shelf.Strconv.Itoa3
set_option linter.unusedVariables false
set_option linter.unusedSimpArgs false
set_option linter.unusedVariables false
set_option linter.unusedSimpArgs false
set_option maxRecDepth 100000
namespace Go.Proofs.YtpcigcogcgpldaaGreatDoor
open Go Go.Dx Dw Go.Shelf Go.RowKit
/-- the table of the powers of ten -/
abbrev g_pow10 : Nat := Tryz.laysM171_ren.g 17
def TabV (V : VH) : Prop := ∃ T fr, V.f g_pow10 = some (.cells (Lib.pow10Tab.map (Value.int .u64)).toArray T fr)
theorem TabV.mono {V V' : VH} (h : TabV V) (hl : V.le V') : TabV V' := by
  obtain ⟨T, fr, h⟩ := h
  exact ⟨T, fr, hl _ _ h⟩
theorem tab_named : Tryz.prog.globalNamed "internal/strconv.uint64pow10" = some g_pow10 := by kernel_rfl
theorem TabV.tab {V : VH} {w : World} (h : TabV V) (hw : V.inW w) : Lib.TabIs Tryz.prog w "internal/strconv.uint64pow10" .u64 Lib.pow10Tab := by
  obtain ⟨T, fr, h⟩ := h
  unfold Lib.TabIs World.var?
  rw [tab_named]
  simp only [Option.bind_some]
  rw [hw _ _ h]
/-- the numeral of a number -/
def decB (n : Nat) : ByteArray := ⟨(Lib.decDigits n).toArray⟩
theorem decB_data (n : Nat) : (decB n).data.toList = Lib.decDigits n := rfl
theorem Itoa_spec {n : Int} {V : VH} (hT : TabV V) (h0 : 0 ≤ n) (h1 : n < 9223372036854775808) : CSpec Tryz.prog n_strconv_Itoa #[.int .i64 n] V fun v V' => v = .string (decB n.toNat) := by
  constructor
  intro w hw
  refine (Any.strconv_Itoa Tryz.laysM171 n (by omega) (by omega) w (hT.tab hw)).mono ?_
  rintro e w' ⟨rfl, k, os, rfl⟩
  have hb : Below w.heap.size w (Sort.grow (w.drewN k) os) := by
    refine ⟨rfl, rfl, rfl, ?_, fun j hj => ?_⟩
    · show w.heap.size ≤ (w.heap ++ os).size
      simp
    · show (w.heap ++ os)[j]? = w.heap[j]?
      rw [Array.getElem?_append_left hj]
  have e : Lib.itoa n = Lib.decDigits n.toNat := by unfold Lib.itoa; rw [if_neg (by omega)]
  exact ⟨_, V, rfl, hb, VH.le_refl _, inW_below hw hb, fun k hk => .inl hk, by rw [e]; rfl⟩
theorem Repeat_spec {c : Nat} {V : VH} (hc : c ≤ 140737488355328) : CSpec Tryz.prog n_strings_Repeat #[.string (⟨#[48]⟩ : ByteArray), .int .i64 (c : Int)] V fun v V' => v = .string ⟨(Lib.repeatL [48] c).toArray⟩ :=
  CSpec.ofBelow fun w => Any.strings_Repeat Tryz.lays105 Tryz.Builder_Extra_105 ⟨#[48]⟩ c w (by omega) (by show 1 * c ≤ _; omega)
/-- texts, as cells -/
def strCs (l : List ByteArray) : List Value := l.map Value.string
/-- the bytes of texts, one behind the other -/
def catT (l : List ByteArray) : List UInt8 := (l.map fun s => s.data.toList).flatten
theorem intercalate_nil {α : Type} (l : List (List α)) : ([] : List α).intercalate l = l.flatten := by
  induction l with
  | nil => rfl
  | cons a l ih => cases l with
    | nil => simp [List.intercalate]
    | cons b l => simp [List.intercalate, List.intersperse] at ih ⊢; exact ih
theorem Join_spec {m n c : Nat} {l : List ByteArray} {tl : List Value} {T : TypeId} {V : VH} (hm : V.f m = some (.cells (strCs l ++ tl).toArray T)) (hn : n = l.length) (hc : l.length ≤ c) (hl : l.length ≤ 140737488355328) (hlen : (catT l).length ≤ 140737488355328) :
    CSpec Tryz.prog n_strings_Join #[.slice (some ⟨m, 0, none⟩) n c, .string (⟨#[]⟩ : ByteArray)] V fun v V' => v = .string ⟨(catT l).toArray⟩ := by
  subst hn
  have hj : Lib.join (l.map (·.data.toList)) [] = catT l := intercalate_nil _
  constructor
  intro w hw
  have hh := hw _ _ hm
  refine (Any.strings_Join Tryz.lays156 Tryz.Builder_Extra_156 m 0 c l ⟨#[]⟩ w (fun j x hx => ?_) (Array.getElem?_eq_some_iff.1 hh).1 hl hc (by show (Lib.join _ []).length ≤ _; rw [hj]; exact hlen)).mono ?_
  · rw [cell_of_row w m _ _ T _ hh]
    have hlt := (List.getElem?_eq_some_iff.1 hx).1
    simp only [List.getElem?_toArray, Nat.zero_add]
    rw [List.getElem?_append_left (by simpa [strCs] using hlt)]
    simp [strCs, hx]
  · rintro e w' ⟨rfl, hb⟩
    have e2 : Lib.join (l.map (·.data.toList)) (⟨#[]⟩ : ByteArray).data.toList = catT l := hj
    rw [e2]
    exact ⟨_, V, rfl, hb, VH.le_refl _, inW_below hw hb, fun k hk => .inl hk, rfl⟩
theorem strsOf_list (l : List ByteArray) (tl : List Value) : Lib.strsOf (fun i => l.getD i ByteArray.empty) l.length = l.map (·.data.toList) := by
  unfold Lib.strsOf
  apply List.ext_getElem
  · simp
  · intro i h1 h2
    simp at h1 h2 ⊢
    simp [h1]
theorem Reverse_spec {m n c : Nat} {l : List ByteArray} {tl : List Value} {T : TypeId} {V : VH} (hn : n = l.length) (hl : l.length ≤ 140737488355328) :
    CSpecG Tryz.prog n_slices_Reverse_string_string #[.slice (some ⟨m, 0, none⟩) n c] V m T (strCs l ++ tl) fun v V' L => v = .tuple #[] ∧ L = strCs l.reverse ++ tl := by
  subst hn
  constructor
  intro w hw hv hh
  have hlt := (Array.getElem?_eq_some_iff.1 hh).1
  refine (Any.slices_Reverse_string_cells Tryz.laysNm217 m 0 l.length c (fun i => l.getD i ByteArray.empty) w (by omega) (fun i hi => ?_) (fun j hj => ?_)).mono ?_
  · rw [cell_of_row w m _ _ T _ hh]
    simp only [List.getElem?_toArray, Nat.zero_add]
    rw [List.getElem?_append_left (by simpa [strCs] using hi)]
    simp [strCs, hi]
  · unfold World.frozen?
    rw [hh]; simp
  · rintro e w' ⟨rfl, q, rfl⟩
    have hlen : ((Lib.strsOf (fun i => l.getD i ByteArray.empty) l.length).reverse.map encStr) = strCs l.reverse := by
      rw [strsOf_list l tl, ← List.map_reverse, List.map_map, strCs]
      apply List.map_congr_left
      intro s _
      show Value.string ⟨s.data.toList.toArray⟩ = _
      rw [Array.toArray_toList]
    rw [hlen]
    have hh2 : (w.drewN q).heap[m]? = some (.cells (strCs l ++ tl).toArray T (0, 0)) := hh
    have hrow := setCells_row m T (strCs l.reverse) 0 (w.drewN q) _ hh2 (by simp [strCs])
    have hother : ∀ k, k < w.heap.size → k ≠ m → ((w.drewN q).setCells m 0 (strCs l.reverse)).heap[k]? = w.heap[k]? := fun k hk hne => World.heap_setCells_other (w.drewN q) m 0 _ hk hne
    have hkb := World.keptBut_setCells m (may := fun _ => True) (strCs l.reverse) 0 (w.drewN q) (fun _ _ => trivial)
    have hsz : ((w.drewN q).setCells m 0 (strCs l.reverse)).heap.size = w.heap.size := by
      have : ∀ (vs : List Value) (o : Nat) (w : World), (w.setCells m o vs).heap.size = w.heap.size := by
        intro vs
        induction vs with
        | nil => intro o w; rfl
        | cons v vs ih => intro o w; rw [World.setCells, ih]; simp [World.setCell]
      exact this _ _ _
    have htape : ∀ (vs : List Value) (o : Nat) (w : World), (w.setCells m o vs).tape = w.tape := by
      intro vs
      induction vs with
      | nil => intro o w; rfl
      | cons v vs ih => intro o w; rw [World.setCells, ih]; rfl
    refine ⟨_, V, _, rfl, ⟨World.os_setCells _ _ _ _, htape _ _ _, World.output_setCells _ _ _ _, by rw [hsz]; exact Nat.le_refl _, fun k hk hne => hother k hk (fun e => hne (by rw [e]))⟩, VH.le_refl _, ?_, fun k hk => .inl hk, ?_, rfl, rfl⟩
    · intro k o hk
      have hne : k ≠ m := by rintro rfl; rw [hv] at hk; cases hk
      have := hw k o hk
      rw [hother k (Array.getElem?_eq_some_iff.1 this).1 hne]; exact this
    · rw [hrow]
      congr 2
      simp [strCs]
/-- the text of an integer -/
def txtZ (z : Int) : ByteArray := if z < 0 then (⟨#[45]⟩ : ByteArray) ++ decB z.natAbs else decB z.natAbs
theorem catT_append (a b : List ByteArray) : catT (a ++ b) = catT a ++ catT b := by simp [catT]
theorem glen1 (cs : List Value) : glen 1 cs = (cs.length : Int) := by simp [glen]
theorem strCs_len (l : List ByteArray) : (strCs l).length = l.length := by simp [strCs]
theorem dec_len (n : Nat) : (Lib.decDigits n).length ≤ n + 1 := by
  induction n using Nat.strongRecOn with
  | ind n ih =>
    by_cases h : n < 10
    · rw [decDigits_lt h]; simp
    · rw [decDigits_ge h]
      have := ih (n / 10) (by omega)
      simp; omega
set_option maxHeartbeats 1000000 in
theorem Text_spec {p : R2} {z : Int} {V : VH} (hT : TabV V) (h : IntR V p z) (hz : (Lib.decDigits z.natAbs).length ≤ 1099511627776) (hl : p.l.length < 1099511627776) : CSpec Tryz.prog n_integer_Int_Text #[p.v] V fun v V' => v = .string (txtZ z) := by
  have hza := h.natAbs
  obtain ⟨h1, h2, h3, h4, h5⟩ := h
  have hv := val_nonneg h2
  have hN : (val p.l).natAbs = z.natAbs := hza.symm
  refine E_integer_Int_Text p V _ fun _ => ⟨rfl, fun e => ?_, fun e => ?_⟩
  · have e : (p.l.length : Int) = 0 := eq_of_beq e
    have e : p.l = [] := List.length_eq_zero_iff.1 (by omega)
    have : z = 0 := by rw [h4, e]; simp [val]
    rw [this]; congr 1
    unfold txtZ decB
    rw [if_neg (by decide), decDigits_lt (by decide)]; rfl
  · have e : p.l ≠ [] := by rintro e2; rw [e2] at e; simp at e
    have hp0 := val_pos h2 h3 e
    -- the digits so far
    refine ⟨fun xs V' => ∃ A c l gs, xs = [OV.sl A c l, OV.gs (strCs gs)] ∧ RdV V' .u32 (OV.sl A c l) ∧ Digs l ∧ Trim l ∧ l.length ≤ p.l.length ∧ (gs = [] → l ≠ []) ∧ Lib.decDigits z.natAbs = (if l = [] then [] else Lib.decDigits (val l).natAbs) ++ catT gs.reverse ∧ gs.length ≤ (catT gs.reverse).length,
      fun xs => match xs with | [x, _] => (val x.l).natAbs | _ => 0, ⟨p.A, p.c, p.l, [], rfl, h1, h2, h3, Nat.le_refl _, fun _ => e, ?_, by simp⟩, ?_⟩
    · rw [if_neg e, hN]; simp [catT]
    intro V1 hV1 x2
    have hT1 := hT.mono hV1
    -- a round: short, Itoa
    have round : ∀ (A : Option Addr) (c : Nat) (l : List Int) (V' : VH), TabV V' → RdV V' .u32 (OV.sl A c l) → Digs l → Trim l → l.length ≤ p.l.length → l ≠ [] →
        0 < val l ∧ ∃ r : Nat, val l % 1000000000 = r ∧ r < 1000000000 ∧ r = (val l).natAbs % 1000000000 := by
      intro A c l V' _ _ q2 q3 _ q5
      have := val_pos q2 q3 q5
      refine ⟨this, (val l % 1000000000).toNat, by omega, by omega, by omega⟩
    -- what a round adds
    have adds : ∀ (l l4 : List Int) (gs : List ByteArray) (s : ByteArray), Digs l → Trim l → l ≠ [] → Digs l4 → Trim l4 → val l4 = val l / 1000000000 →
        Lib.decDigits z.natAbs = (if l = [] then [] else Lib.decDigits (val l).natAbs) ++ catT gs.reverse → gs.length ≤ (catT gs.reverse).length →
        (l4 ≠ [] → s = ⟨(Lib.repeatL [48] (9 - (Lib.decDigits ((val l).natAbs % 1000000000)).length)).toArray⟩ ++ decB ((val l).natAbs % 1000000000)) → (l4 = [] → s = decB ((val l).natAbs % 1000000000)) →
        Lib.decDigits z.natAbs = (if l4 = [] then [] else Lib.decDigits (val l4).natAbs) ++ catT (gs ++ [s]).reverse ∧ (gs ++ [s]).length ≤ (catT (gs ++ [s]).reverse).length := by
      intro l l4 gs s d1 t1 n1 d4 t4 hv4 hdec hgl s1 s2
      have hvl := val_pos d1 t1 n1
      have hrev : (gs ++ [s]).reverse = s :: gs.reverse := by simp
      have hcat : catT (s :: gs.reverse) = s.data.toList ++ catT gs.reverse := by simp [catT]
      rw [if_neg n1] at hdec
      rw [hrev, hcat]
      have hq : (val l4).natAbs = (val l).natAbs / 1000000000 := by omega
      by_cases e4 : l4 = []
      · have hv0 : val l4 = 0 := by rw [e4]; rfl
        have hlt : (val l).natAbs < 1000000000 := by omega
        have hs := s2 e4
        rw [Nat.mod_eq_of_lt hlt] at hs
        rw [if_pos e4, hs, hdec, decB_data]
        refine ⟨by simp, ?_⟩
        have := List.length_pos_iff.2 (dec_ne (val l).natAbs)
        simp; omega
      · have hp4 := val_pos d4 t4 e4
        have hge : 1000000000 ≤ (val l).natAbs := by omega
        obtain ⟨g1, g2⟩ := dec_group hge
        have hs := s1 e4
        have hsd : s.data.toList = Lib.repeatL [48] (9 - (Lib.decDigits ((val l).natAbs % 1000000000)).length) ++ Lib.decDigits ((val l).natAbs % 1000000000) := by
          rw [hs]; simp [decB_data]
        rw [if_neg e4, hsd, hdec, g1, hq]
        refine ⟨by simp [List.append_assoc], ?_⟩
        have := List.length_pos_iff.2 (dec_ne ((val l).natAbs % 1000000000))
        simp; omega
    have hsmall : ∀ (l : List Int) (gs : List ByteArray), Lib.decDigits z.natAbs = (if l = [] then [] else Lib.decDigits (val l).natAbs) ++ catT gs.reverse → gs.length ≤ (catT gs.reverse).length → gs.length ≤ 1099511627776 ∧ (catT gs.reverse).length ≤ 1099511627776 := by
      intro l gs hd hg
      have := congrArg List.length hd
      rw [List.length_append] at this
      omega
    refine ⟨fun _ hI => ?_, fun m3 cs3 tl3 hgk hI => ?_⟩
    · obtain ⟨A, c, l, gs, e1, r1, r2, r3, r4, r5, r6, r7⟩ := hI
      simp only [List.cons.injEq, and_true] at e1
      obtain ⟨rfl, e1⟩ := e1
      have hgs : gs = [] := by
        have := congrArg OV.cs e1
        simp only [OV.gs] at this
        cases gs with
        | nil => rfl
        | cons _ _ => simp [strCs] at this
      subst hgs
      have hne := r5 rfl
      have hlen : 0 < l.length := List.length_pos_iff.2 hne
      refine ⟨rfl, fun _ => ?_, fun hc => absurd (show (0 : Int) < (l.length : Int) by omega) (of_decide_eq_false hc)⟩
      obtain ⟨hvl, r, hr1, hr2, hr3⟩ := round A c l V1 hT1 r1 r2 r3 r4 hne
      refine (short_spec (A0 := A) (c0 := c) (a := l) r1 r2 (by omega) (by omega) (by omega)).mono ?_
      rintro _ V2 hV2 ⟨A1, c1, l4, rfl, q1, q2, q3, q4, q5⟩
      refine ⟨A1, c1, l4, _, rfl, ?_⟩
      rw [hr1, w64 (by omega) (by omega)]
      refine (Itoa_spec (hT1.mono hV2) (by omega) (by omega)).mono ?_
      rintro _ V3 hV3 rfl
      rw [Int.toNat_natCast]
      have hdl : (Lib.decDigits r).length ≤ 9 := (padr_dec 8 r (by omega)).1
      have hsz : (decB r).size = (Lib.decDigits r).length := by rw [size_list, decB_data]
      have lt4 : l4 ≠ [] → (val l4).natAbs < (val l).natAbs := fun _ => by rw [q4]; omega
      have lt4' : (val l4).natAbs < (val l).natAbs := by rw [q4]; omega
      refine ⟨_, rfl, rfl, fun h4 => ?_, fun h4 => ?_⟩
      · have h4 : (0 : Int) < l4.length := of_decide_eq_true h4
        have hn4 : l4 ≠ [] := by rintro rfl; simp at h4
        rw [hsz, show IntKind.wrap .i64 ((9 : Int) - ((Lib.decDigits r).length : Int)) = ((9 - (Lib.decDigits r).length : Nat) : Int) by rw [w64 (by omega) (by omega)]; omega]
        refine (Repeat_spec (by omega)).mono ?_
        rintro _ V4 hV4 rfl
        refine ⟨_, rfl, decide_eq_true ?_, fun _ m4 tl4 hk => ?_⟩
        · rw [size_list]; simp only [repeat48, List.length_replicate]; omega
        · have ha := adds l l4 [] _ r2 r3 hne q2 q3 q4 r6 r7 (fun _ => rfl) (fun e => absurd e hn4)
          rw [← hr3] at ha
          refine ⟨beq_self_eq_true _, beq_self_eq_true _, decide_eq_true hk, ⟨A1, c1, l4, [] ++ [_], rfl, (q1.mono hV3).mono hV4, q2, q3, by omega, fun hc => by simp at hc, ha.1, ha.2⟩, lt4'⟩
      · have h4 : ¬ (0 : Int) < l4.length := of_decide_eq_false h4
        have hn4 : l4 = [] := List.length_eq_zero_iff.1 (by omega)
        intro _ m4 tl4 hk
        have ha := adds l l4 [] _ r2 r3 hne q2 q3 q4 r6 r7 (fun e => absurd hn4 e) (fun _ => rfl)
        rw [← hr3] at ha
        refine ⟨beq_self_eq_true _, beq_self_eq_true _, decide_eq_true hk, ⟨A1, c1, l4, [] ++ [_], rfl, q1.mono hV3, q2, q3, by omega, fun hc => by simp at hc, ha.1, ha.2⟩, lt4'⟩
    · obtain ⟨A, c, l, gs, e1, r1, r2, r3, r4, r5, r6, r7⟩ := hI
      simp only [List.cons.injEq, and_true] at e1
      obtain ⟨rfl, e1⟩ := e1
      have e1 : cs3 = strCs gs := congrArg OV.cs e1
      subst e1
      obtain ⟨hg1, hg2⟩ := hsmall l gs r6 r7
      have hgl : glen 1 (strCs gs) = (gs.length : Int) := by rw [glen1, strCs_len]
      have c1' : decide ((0 : Int) < glen 1 (strCs gs) + 1) = true := decide_eq_true (by rw [hgl]; omega)
      refine ⟨rfl, fun hc => ?_, fun hc => ?_⟩
      · have hc : (0 : Int) < (l.length : Int) := of_decide_eq_true hc
        have hne : l ≠ [] := by rintro rfl; simp at hc
        have c2' : decide (glen 1 (strCs gs) + 1 ≤ (1099511627776 : Int)) = true := by
          refine decide_eq_true ?_
          have := congrArg List.length r6
          rw [List.length_append, if_neg hne] at this
          have := List.length_pos_iff.2 (dec_ne (val l).natAbs)
          rw [hgl]; omega
        obtain ⟨hvl, r, hr1, hr2, hr3⟩ := round A c l V1 hT1 r1 r2 r3 r4 hne
        refine (short_spec (A0 := A) (c0 := c) (a := l) r1 r2 (by omega) (by omega) (by omega)).mono ?_
        rintro _ V2 hV2 ⟨A1, c1, l4, rfl, q1, q2, q3, q4, q5⟩
        refine ⟨A1, c1, l4, _, rfl, ?_⟩
        rw [hr1, w64 (by omega) (by omega)]
        refine (Itoa_spec (hT1.mono hV2) (by omega) (by omega)).mono ?_
        rintro _ V3 hV3 rfl
        rw [Int.toNat_natCast]
        have hdl : (Lib.decDigits r).length ≤ 9 := (padr_dec 8 r (by omega)).1
        have hsz : (decB r).size = (Lib.decDigits r).length := by rw [size_list, decB_data]
        have lt4' : (val l4).natAbs < (val l).natAbs := by rw [q4]; omega
        have app : ∀ s : ByteArray, strCs gs ++ [Value.string s] = strCs (gs ++ [s]) := fun s => by simp [strCs]
        refine ⟨_, rfl, rfl, fun h4 => ?_, fun h4 => ?_⟩
        · have h4 : (0 : Int) < l4.length := of_decide_eq_true h4
          have hn4 : l4 ≠ [] := by rintro rfl; simp at h4
          rw [hsz, show IntKind.wrap .i64 ((9 : Int) - ((Lib.decDigits r).length : Int)) = ((9 - (Lib.decDigits r).length : Nat) : Int) by rw [w64 (by omega) (by omega)]; omega]
          refine (Repeat_spec (by omega)).mono ?_
          rintro _ V4 hV4 rfl
          refine ⟨_, rfl, decide_eq_true ?_, fun _ => ⟨beq_self_eq_true _, beq_self_eq_true _, decide_eq_true hgk, c1', c2', fun m4 tl4 hk => ?_⟩⟩
          · rw [size_list]; simp only [repeat48, List.length_replicate]; omega
          · have ha := adds l l4 gs _ r2 r3 hne q2 q3 q4 r6 r7 (fun _ => rfl) (fun e => absurd e hn4)
            rw [← hr3] at ha
            refine ⟨beq_self_eq_true _, beq_self_eq_true _, decide_eq_true hk, ⟨A1, c1, l4, gs ++ [_], by rw [app], (q1.mono hV3).mono hV4, q2, q3, by omega, fun hc => by simp at hc, ha.1, ha.2⟩, lt4'⟩
        · have h4 : ¬ (0 : Int) < l4.length := of_decide_eq_false h4
          have hn4 : l4 = [] := List.length_eq_zero_iff.1 (by omega)
          refine fun _ => ⟨beq_self_eq_true _, beq_self_eq_true _, decide_eq_true hgk, c1', c2', fun m4 tl4 hk => ?_⟩
          have ha := adds l l4 gs _ r2 r3 hne q2 q3 q4 r6 r7 (fun e => absurd hn4 e) (fun _ => rfl)
          rw [← hr3] at ha
          refine ⟨beq_self_eq_true _, beq_self_eq_true _, decide_eq_true hk, ⟨A1, c1, l4, gs ++ [_], by rw [app], q1.mono hV3, q2, q3, by omega, fun hc => by simp at hc, ha.1, ha.2⟩, lt4'⟩
      · have hc : ¬ (0 : Int) < (l.length : Int) := of_decide_eq_false hc
        have hl0 : l = [] := List.length_eq_zero_iff.1 (by omega)
        rw [if_pos hl0, List.nil_append] at r6
        have hlen3 : Int.toNat (glen 1 (strCs gs)) = gs.length := by rw [hgl]; omega
        have htot : Int.toNat (gtot 1 (strCs gs) tl3) = gs.length + tl3.length := by simp [gtot, strCs_len]; omega
        refine (Reverse_spec (l := gs) (tl := tl3) hlen3 (by omega)).mono ?_
        rintro _ V12 L hV12 ⟨rfl, rfl⟩
        refine ⟨strCs gs.reverse, rfl, by simp [strCs], rfl, fun hm => ?_⟩
        refine (Join_spec (l := gs.reverse) (tl := tl3) (VH.put_at _ _ _) (by rw [hlen3]; simp) (by rw [htot]; simp) (by simp; omega) (by omega)).mono ?_
        rintro _ V13 hV13 rfl
        have hs : (⟨(catT gs.reverse).toArray⟩ : ByteArray) = decB z.natAbs := by unfold decB; rw [r6]
        have hsz : (decB z.natAbs).size ≤ 1099511627776 := by rw [size_list, decB_data]; exact hz
        rw [hs]
        refine ⟨_, rfl, fun hn => ⟨decide_eq_true (by omega), ?_⟩, fun hn => ?_⟩
        · rw [if_pos hn] at h4
          have : z < 0 := by omega
          unfold txtZ; rw [if_pos this]
        · rw [if_neg (by simp [hn])] at h4
          unfold txtZ; rw [if_neg (by omega)]
end Go.Proofs.YtpcigcogcgpldaaGreatDoor
