/- A text of this claim's own: SD.TwistP. -/
import Derived.Test.YtpcigcogcgpldaaGreatDoorSdG
import Derived.Test.YtpcigcogcgpldaaGreatDoorSDKnownM
import Derived.Test.YtpcigcogcgpldaaGreatDoorSDGTP
set_option linter.unusedVariables false
set_option linter.unusedSimpArgs false
set_option linter.unusedVariables false
set_option linter.unusedSimpArgs false
set_option maxRecDepth 100000
namespace Go.Proofs.YtpcigcogcgpldaaGreatDoor
open Go Go.Dx Dw
/-- the first error of some texts -/
def errL : List ByteArray → Int
  | [] => 0
  | s :: l => if errQ s 65536 = 0 then errL l else errQ s 65536
theorem errL_ok {s : ByteArray} {l : List ByteArray} (h : errQ s 65536 = 0) : errL (s :: l) = errL l := if_pos h
theorem errL_no {s : ByteArray} {l : List ByteArray} (h : errQ s 65536 ≠ 0) : errL (s :: l) = errQ s 65536 := if_neg h
theorem Read_spec {s : ByteArray} {V : VH} (hs : s.size ≤ 30) : CSpec Tryz.prog n_rational_Read #[.string s] V fun v V' => ∃ (r : R4) (n : Int), v = .tuple #[r.v, .int .i64 n] ∧ n = errQ s 65536 ∧ (n = 0 → RatL V' r (numQ s) 3) := by
  refine E_rational_Read s V _ fun _ => (read_spec (by omega) (by omega)).mono ?_
  rintro _ V1 hV1 (⟨h, rfl⟩ | ⟨h, r, rfl, hr⟩)
  · exact ⟨zero4, _, rfl, zero4, _, rfl, rfl, fun e => absurd e h⟩
  · exact ⟨r, 0, rfl, r, 0, rfl, h.symm, fun _ => RatR.up hr (by unfold L; omega)⟩
def row3 (r : R12) : List Value := [.bool r.a.x.n, .slice r.a.x.A r.a.x.l.length r.a.x.c, .bool r.a.y.n, .slice r.a.y.A r.a.y.l.length r.a.y.c,
      .bool r.b.x.n, .slice r.b.x.A r.b.x.l.length r.b.x.c, .bool r.b.y.n, .slice r.b.y.A r.b.y.l.length r.b.y.c, .bool r.c.x.n, .slice r.c.x.A r.c.x.l.length r.c.x.c, .bool r.c.y.n, .slice r.c.y.A r.c.y.l.length r.c.y.c]
theorem AtV.of {V : VH} {m n c : Nat} {T : TypeId} {pre vs post : List Value} (h : V.f m = some (.cells ⟨pre ++ vs ++ post⟩ T)) : AtV V (.slice (some ⟨m, 0, none⟩) n c) pre.length vs :=
  ⟨m, 0, n, c, T, _, _, rfl, h, fun j u hj => by
    rw [Nat.zero_add, List.getElem?_toArray, List.append_assoc, List.getElem?_append_right (by omega), Nat.add_sub_cancel_left, List.getElem?_append_left (List.getElem?_eq_some_iff.1 hj).1]
    exact hj⟩
def row6 (r : R24) : List Value := [.bool r.a.a.x.n, .slice r.a.a.x.A r.a.a.x.l.length r.a.a.x.c, .bool r.a.a.y.n, .slice r.a.a.y.A r.a.a.y.l.length r.a.a.y.c,
      .bool r.a.b.x.n, .slice r.a.b.x.A r.a.b.x.l.length r.a.b.x.c, .bool r.a.b.y.n, .slice r.a.b.y.A r.a.b.y.l.length r.a.b.y.c, .bool r.a.c.x.n, .slice r.a.c.x.A r.a.c.x.l.length r.a.c.x.c, .bool r.a.c.y.n, .slice r.a.c.y.A r.a.c.y.l.length r.a.c.y.c,
      .bool r.l.a.x.n, .slice r.l.a.x.A r.l.a.x.l.length r.l.a.x.c, .bool r.l.a.y.n, .slice r.l.a.y.A r.l.a.y.l.length r.l.a.y.c, .bool r.l.b.x.n, .slice r.l.b.x.A r.l.b.x.l.length r.l.b.x.c, .bool r.l.b.y.n, .slice r.l.b.y.A r.l.b.y.l.length r.l.b.y.c,
      .bool r.l.c.x.n, .slice r.l.c.x.A r.l.c.x.l.length r.l.c.x.c, .bool r.l.c.y.n, .slice r.l.c.y.A r.l.c.y.l.length r.l.c.y.c]
/-- six texts -/
structure S6 where
  a : ByteArray
  b : ByteArray
  c : ByteArray
  d : ByteArray
  e : ByteArray
  f : ByteArray
def S6.l (s : S6) : List ByteArray := [s.a, s.b, s.c, s.d, s.e, s.f]
def S6.cs (s : S6) : Array Value := #[.string s.a, .string s.b, .string s.c, .string s.d, .string s.e, .string s.f]
def S6.q (s : S6) : Q6 := ⟨⟨numQ s.a, numQ s.b, numQ s.c⟩, ⟨numQ s.d, numQ s.e, numQ s.f⟩⟩
def S6.ok (s : S6) : Prop := s.a.size ≤ 30 ∧ s.b.size ≤ 30 ∧ s.c.size ≤ 30 ∧ s.d.size ≤ 30 ∧ s.e.size ≤ 30 ∧ s.f.size ≤ 30
def ReadsR (s : S6) (v : Value) (V' : VH) : Prop :=
  (errL s.l ≠ 0 ∧ v = .tuple #[.slice none 0 0, .int .i64 (errL s.l)]) ∨ (errL s.l = 0 ∧ ∃ (m : Nat) (r : R24), v = .tuple #[.slice (some ⟨m, 0, none⟩) 6 6, .int .i64 0] ∧ V'.f m = some (.cells ⟨row6 r⟩ ty_rat) ∧ TwL V' r s.q 3)
theorem all_spec {s : S6} {m T c0 : Nat} {V : VH} (hs : s.ok) (hm : V.f m = some (.cells s.cs T)) :
    CSpec Tryz.prog n_rational_all #[.slice (some ⟨m, 0, none⟩) 6 c0, .func (.func n_rational_Read) #[] #[]] V (ReadsR s) := by
  refine E_rational_all0giv61funcrational_Read m T s.a s.b s.c s.d s.e s.f (c0 : Int) V hm _ fun m0 => (Read_spec hs.1).mono ?_
  rintro _ V1 hV1 ⟨r0, n0, rfl, e0, q0⟩
  refine ⟨r0, n0, rfl, fun h => by
      have h : n0 ≠ 0 := by simpa using h
      have e : errL s.l = n0 := by unfold S6.l; rw [errL_no (by rw [← e0]; exact h)]; exact e0.symm
      exact .inl ⟨by rw [e]; exact h, by rw [e]⟩, fun h0 => ?_⟩
  have h0 : n0 = 0 := by simpa using h0
  subst h0
  have z0 := e0.symm
  have g0 := q0 rfl
  refine (Read_spec hs.2.1).mono ?_
  rintro _ V2 hV2 ⟨r1, n1, rfl, e1, q1⟩
  refine ⟨r1, n1, rfl, fun h => by
      have h : n1 ≠ 0 := by simpa using h
      have e : errL s.l = n1 := by unfold S6.l; rw [errL_ok z0, errL_no (by rw [← e1]; exact h)]; exact e1.symm
      exact .inl ⟨by rw [e]; exact h, by rw [e]⟩, fun h1 => ?_⟩
  have h1 : n1 = 0 := by simpa using h1
  subst h1
  have z1 := e1.symm
  have g1 := q1 rfl
  refine (Read_spec hs.2.2.1).mono ?_
  rintro _ V3 hV3 ⟨r2, n2, rfl, e2, q2⟩
  refine ⟨r2, n2, rfl, fun h => by
      have h : n2 ≠ 0 := by simpa using h
      have e : errL s.l = n2 := by unfold S6.l; rw [errL_ok z0, errL_ok z1, errL_no (by rw [← e2]; exact h)]; exact e2.symm
      exact .inl ⟨by rw [e]; exact h, by rw [e]⟩, fun h2 => ?_⟩
  have h2 : n2 = 0 := by simpa using h2
  subst h2
  have z2 := e2.symm
  have g2 := q2 rfl
  refine (Read_spec hs.2.2.2.1).mono ?_
  rintro _ V4 hV4 ⟨r3, n3, rfl, e3, q3⟩
  refine ⟨r3, n3, rfl, fun h => by
      have h : n3 ≠ 0 := by simpa using h
      have e : errL s.l = n3 := by unfold S6.l; rw [errL_ok z0, errL_ok z1, errL_ok z2, errL_no (by rw [← e3]; exact h)]; exact e3.symm
      exact .inl ⟨by rw [e]; exact h, by rw [e]⟩, fun h3 => ?_⟩
  have h3 : n3 = 0 := by simpa using h3
  subst h3
  have z3 := e3.symm
  have g3 := q3 rfl
  refine (Read_spec hs.2.2.2.2.1).mono ?_
  rintro _ V5 hV5 ⟨r4, n4, rfl, e4, q4⟩
  refine ⟨r4, n4, rfl, fun h => by
      have h : n4 ≠ 0 := by simpa using h
      have e : errL s.l = n4 := by unfold S6.l; rw [errL_ok z0, errL_ok z1, errL_ok z2, errL_ok z3, errL_no (by rw [← e4]; exact h)]; exact e4.symm
      exact .inl ⟨by rw [e]; exact h, by rw [e]⟩, fun h4 => ?_⟩
  have h4 : n4 = 0 := by simpa using h4
  subst h4
  have z4 := e4.symm
  have g4 := q4 rfl
  refine (Read_spec hs.2.2.2.2.2).mono ?_
  rintro _ V6 hV6 ⟨r5, n5, rfl, e5, q5⟩
  refine ⟨r5, n5, rfl, fun h => by
      have h : n5 ≠ 0 := by simpa using h
      have e : errL s.l = n5 := by unfold S6.l; rw [errL_ok z0, errL_ok z1, errL_ok z2, errL_ok z3, errL_ok z4, errL_no (by rw [← e5]; exact h)]; exact e5.symm
      exact .inl ⟨by rw [e]; exact h, by rw [e]⟩, fun h5 => ?_⟩
  have h5 : n5 = 0 := by simpa using h5
  subst h5
  have z5 := e5.symm
  have g5 := q5 rfl
  intro hm0
  have e : errL s.l = 0 := by unfold S6.l; rw [errL_ok z0, errL_ok z1, errL_ok z2, errL_ok z3, errL_ok z4, errL_ok z5]; rfl
  have hl := VH.le_put hm0 (.cells ⟨row6 ⟨⟨r0, r1, r2⟩, ⟨r3, r4, r5⟩⟩⟩ ty_rat)
  refine .inr ⟨e, m0, ⟨⟨r0, r1, r2⟩, ⟨r3, r4, r5⟩⟩, rfl, VH.put_at _ _ _, ?_⟩
  exact TwL.mono ⟨⟨((((g0.mono hV2).mono hV3).mono hV4).mono hV5).mono hV6, (((g1.mono hV3).mono hV4).mono hV5).mono hV6, ((g2.mono hV4).mono hV5).mono hV6⟩, ⟨(g3.mono hV5).mono hV6, g4.mono hV6, g5⟩⟩ hl
theorem Reads_spec {s : S6} {m T c0 : Nat} {V : VH} (hs : s.ok) (hm : V.f m = some (.cells s.cs T)) :
    CSpec Tryz.prog n_rational_Reads #[.slice (some ⟨m, 0, none⟩) 6 c0] V (ReadsR s) := by
  refine E_rational_Reads0giv6 m T s.a s.b s.c s.d s.e s.f (c0 : Int) V hm _ ((all_spec hs hm).mono ?_)
  rintro _ V1 hV1 (⟨h, rfl⟩ | ⟨h, m1, r, rfl, h1, h2⟩)
  · exact ⟨OV.sl none 0 [], _, rfl, .inl ⟨h, rfl⟩⟩
  · exact ⟨constOV (.slice (some ⟨m1, 0, none⟩) 6 6), _, rfl, .inr ⟨h, m1, r, rfl, h1, h2⟩⟩
def zero24 : R24 := ⟨zero12, zero12⟩
theorem twist_read_spec {s : S6} {V : VH} (hs : s.ok) : CSpec Tryz.prog n_twist_read #[.agg s.cs] V fun v V' => ∃ r : R24, v = .tuple #[r.a.v, r.l.v, .int .i64 (errL s.l)] ∧ TwL V' r (if errL s.l = 0 then s.q else Q6.zero) 3 := by
  refine E_twist_read s.a s.b s.c s.d s.e s.f V _ fun m0 _ _ hm0 => (Reads_spec (c0 := 6) hs (VH.put_at _ _ _)).mono ?_
  rintro _ V1 hV1 (⟨h, rfl⟩ | ⟨h, m1, r, rfl, h1, h2⟩)
  · have hz : TwL V1 zero24 (if errL s.l = 0 then s.q else Q6.zero) 3 := by rw [if_neg h]; exact ⟨VecL.zero _ _, VecL.zero _ _⟩
    refine ⟨OV.sl none 0 [], _, rfl, fun _ => ⟨⟨⟨zero24, rfl, hz⟩, ⟨zero24, rfl, hz⟩⟩, ⟨zero24, rfl, hz⟩⟩, fun e => ?_⟩
    simp at e; exact absurd e h
  · refine ⟨constOV (.slice (some ⟨m1, 0, none⟩) 6 6), 0, rfl, fun e => (by cases e), fun _ => ⟨rfl, rfl, rfl, r.a.a, r.a.b, r.a.c, ?_, rfl, rfl, rfl, rfl, rfl, rfl, r.l.a, r.l.b, r.l.c, ?_, ⟨r, by rw [h]; rfl, by rw [if_pos h]; exact h2⟩⟩⟩
    · exact AtV.of (pre := []) (post := row3 r.l) h1
    · exact AtV.of (pre := row3 r.a) (post := []) h1

theorem twist_Parse_spec {s : S6} {V : VH} (hs : s.ok) : CSpec Tryz.prog n_twist_Parse #[.agg s.cs] V fun v V' => ∃ r : R24, v = .tuple #[r.v, .int .i64 (errL s.l)] ∧ TwL V' r (if errL s.l = 0 then s.q else Q6.zero) 3 := by
  refine E_twist_Parse s.a s.b s.c s.d s.e s.f V _ fun _ _ => (twist_read_spec hs).mono ?_
  rintro _ V1 hV1 ⟨r, rfl, h⟩
  exact ⟨r.a.a, r.a.b, r.a.c, r.l.a, r.l.b, r.l.c, _, rfl, fun _ _ => ⟨r, rfl, h⟩⟩
theorem twist_ParseWrench_spec {s : S6} {V : VH} (hs : s.ok) : CSpec Tryz.prog n_twist_ParseWrench #[.agg s.cs] V fun v V' => ∃ r : R24, v = .tuple #[r.v, .int .i64 (errL s.l)] ∧ TwL V' r (if errL s.l = 0 then s.q else Q6.zero) 3 := by
  refine E_twist_ParseWrench s.a s.b s.c s.d s.e s.f V _ fun _ _ => (twist_read_spec hs).mono ?_
  rintro _ V1 hV1 ⟨r, rfl, h⟩
  exact ⟨r.a.a, r.a.b, r.a.c, r.l.a, r.l.b, r.l.c, _, rfl, fun _ _ => ⟨r, rfl, h⟩⟩
/-- the texts lead back -/
theorem txts {s : S6} (h : errL s.l = 0) : ratTxt s.q.a.x = s.a ∧ ratTxt s.q.a.y = s.b ∧ ratTxt s.q.a.z = s.c ∧ ratTxt s.q.l.x = s.d ∧ ratTxt s.q.l.y = s.e ∧ ratTxt s.q.l.z = s.f := by
  have step : ∀ {t : ByteArray} {l : List ByteArray}, errL (t :: l) = 0 → errQ t 65536 = 0 ∧ errL l = 0 := fun {t l} h => by
    by_cases e : errQ t 65536 = 0
    · rw [errL_ok e] at h; exact ⟨e, h⟩
    · rw [errL_no e] at h; exact absurd h e
  obtain ⟨a, h⟩ := step h
  obtain ⟨b, h⟩ := step h
  obtain ⟨c, h⟩ := step h
  obtain ⟨d, h⟩ := step h
  obtain ⟨e, h⟩ := step h
  obtain ⟨f, h⟩ := step h
  exact ⟨rat_txt a, rat_txt b, rat_txt c, rat_txt d, rat_txt e, rat_txt f⟩
theorem txt6_of {s : S6} (h : errL s.l = 0) : txt6 s.q = .agg s.cs := by
  obtain ⟨h1, h2, h3, h4, h5, h6⟩ := txts h
  unfold txt6 S6.cs
  rw [h1, h2, h3, h4, h5, h6]
theorem same6 (s : S6) : (s.a.toList == s.a.toList && (s.b.toList == s.b.toList && (s.c.toList == s.c.toList && (s.d.toList == s.d.toList && (s.e.toList == s.e.toList && s.f.toList == s.f.toList))))) = true := by simp
theorem first6 (a b c d e f : ByteArray) : (fun n3 n6 n9 n12 n15 n18 : Int => (if (if (if (if (if n3 = (0 : Int) then n6 else n3) = (0 : Int) then n9 else (if n3 = (0 : Int) then n6 else n3)) = (0 : Int) then n12 else (if (if n3 = (0 : Int) then n6 else n3) = (0 : Int) then n9 else (if n3 = (0 : Int) then n6 else n3))) = (0 : Int) then n15 else (if (if (if n3 = (0 : Int) then n6 else n3) = (0 : Int) then n9 else (if n3 = (0 : Int) then n6 else n3)) = (0 : Int) then n12 else (if (if n3 = (0 : Int) then n6 else n3) = (0 : Int) then n9 else (if n3 = (0 : Int) then n6 else n3)))) = 0 then n18 else (if (if (if (if n3 = (0 : Int) then n6 else n3) = (0 : Int) then n9 else (if n3 = (0 : Int) then n6 else n3)) = (0 : Int) then n12 else (if (if n3 = (0 : Int) then n6 else n3) = (0 : Int) then n9 else (if n3 = (0 : Int) then n6 else n3))) = (0 : Int) then n15 else (if (if (if n3 = (0 : Int) then n6 else n3) = (0 : Int) then n9 else (if n3 = (0 : Int) then n6 else n3)) = (0 : Int) then n12 else (if (if n3 = (0 : Int) then n6 else n3) = (0 : Int) then n9 else (if n3 = (0 : Int) then n6 else n3))))))
    (errQ a 65536) (errQ b 65536) (errQ c 65536) (errQ d 65536) (errQ e 65536) (errQ f 65536) = errL [a, b, c, d, e, f] := by
  simp only [errL]
  by_cases h1 : errQ a 65536 = 0 <;> simp only [h1, if_true, if_false]
  by_cases h2 : errQ b 65536 = 0 <;> simp only [h2, if_true, if_false]
  by_cases h3 : errQ c 65536 = 0 <;> simp only [h3, if_true, if_false]
  by_cases h4 : errQ d 65536 = 0 <;> simp only [h4, if_true, if_false]
  by_cases h5 : errQ e 65536 = 0 <;> simp only [h5, if_true, if_false]
  by_cases h6 : errQ f 65536 = 0 <;> simp only [h6, if_true, if_false]
set_option maxHeartbeats 1000000 in
theorem TwistParses_spec {s : S6} {V : VH} (hT : TabV V) : CSpec Tryz.prog n_dowellaw17_TwistParses #[.agg s.cs] V fun v V' => v = .bool true := by
  refine E_dowellaw17_TwistParses s.a s.b s.c s.d s.e s.f V _ fun _ => (known_spec hT).mono ?_
  rintro _ V1 hV1 rfl
  have hT := hT.mono hV1
  refine ⟨true, rfl, fun e => (by cases e), fun _ => ⟨fun _ => rfl, fun h1 => ?_⟩⟩
  have h1 : s.a.size ≤ 30 := by have := of_decide_eq_false h1; omega
  refine (Read_spec h1).mono ?_
  rintro _ V2 hV2 ⟨r1, n1, rfl, e1, q1⟩
  refine ⟨r1, n1, rfl, fun _ => ⟨fun _ => rfl, fun h2 => ?_⟩⟩
  have h2 : s.b.size ≤ 30 := by have := of_decide_eq_false h2; omega
  refine (Read_spec h2).mono ?_
  rintro _ V3 hV3 ⟨r2, n2, rfl, e2, q2⟩
  refine ⟨r2, n2, rfl, fun _ => ⟨fun _ => rfl, fun h3 => ?_⟩⟩
  have h3 : s.c.size ≤ 30 := by have := of_decide_eq_false h3; omega
  refine (Read_spec h3).mono ?_
  rintro _ V4 hV4 ⟨r3, n3, rfl, e3, q3⟩
  refine ⟨r3, n3, rfl, fun _ => ⟨fun _ => rfl, fun h4 => ?_⟩⟩
  have h4 : s.d.size ≤ 30 := by have := of_decide_eq_false h4; omega
  refine (Read_spec h4).mono ?_
  rintro _ V5 hV5 ⟨r4, n4, rfl, e4, q4⟩
  refine ⟨r4, n4, rfl, fun _ => ⟨fun _ => rfl, fun h5 => ?_⟩⟩
  have h5 : s.e.size ≤ 30 := by have := of_decide_eq_false h5; omega
  refine (Read_spec h5).mono ?_
  rintro _ V6 hV6 ⟨r5, n5, rfl, e5, q5⟩
  refine ⟨r5, n5, rfl, fun _ => ⟨fun _ => rfl, fun h6 => ?_⟩⟩
  have h6 : s.f.size ≤ 30 := by have := of_decide_eq_false h6; omega
  refine (Read_spec h6).mono ?_
  rintro _ V7 hV7 ⟨r6, n6, rfl, e6, q6⟩
  have hs : s.ok := ⟨h1, h2, h3, h4, h5, h6⟩
  refine ⟨r6, n6, rfl, fun _ => (twist_Parse_spec hs).mono ?_⟩
  rintro _ V8 hV8 ⟨x, rfl, hx⟩
  refine ⟨x.a.a, x.a.b, x.a.c, x.l.a, x.l.b, x.l.c, _, rfl, fun _ => (twist_ParseWrench_spec hs).mono ?_⟩
  rintro _ V9 hV9 ⟨y, rfl, hy⟩
  have hx := hx.mono hV9
  have hT := ((((((((hT.mono hV2).mono hV3).mono hV4).mono hV5).mono hV6).mono hV7).mono hV8).mono hV9)
  have hf := first6 s.a s.b s.c s.d s.e s.f
  rw [← e1, ← e2, ← e3, ← e4, ← e5, ← e6] at hf
  change _ = errL s.l at hf
  simp only at hf
  refine ⟨y.a.a, y.a.b, y.a.c, y.l.a, y.l.b, y.l.c, _, rfl, fun _ => ⟨fun e => ?_, fun _ => ⟨fun e => ?_, fun _ => ⟨fun e => ?_, fun e => ?_⟩⟩⟩⟩
  · rw [hf] at e; simp at e
  · rw [hf] at e; simp at e
  · have e : errL s.l ≠ 0 := by simpa using e
    rw [if_neg e] at hx hy
    refine (TIsZero hx (by omega)).mono ?_
    rintro _ V10 hV10 rfl
    refine ⟨_, rfl, fun _ => (VIsZero (hy.1.mono hV10) (by omega)).mono ?_, fun e => (by cases e)⟩
    rintro _ V11 hV11 rfl
    refine ⟨_, rfl, fun _ => (VIsZero ((hy.2.mono hV10).mono hV11) (by omega)).mono ?_, fun e => (by cases e)⟩
    rintro _ V12 hV12 rfl
    exact ⟨_, rfl, rfl⟩
  · have e : errL s.l = 0 := by simpa using e
    rw [if_pos e] at hx hy
    refine (TNumbersG hT hx (by omega)).mono ?_
    rintro _ V10 hV10 rfl
    refine ⟨s.a, s.b, s.c, s.d, s.e, s.f, txt6_of e, fun _ => (WNumbersG (hT.mono hV10) (hy.mono hV10) (by omega)).mono ?_, fun e => ?_⟩
    · rintro _ V11 hV11 rfl
      refine ⟨s.a, s.b, s.c, s.d, s.e, s.f, txt6_of e, ?_⟩
      rw [same6]
    · rw [same6] at e; cases e

end Go.Proofs.YtpcigcogcgpldaaGreatDoor
