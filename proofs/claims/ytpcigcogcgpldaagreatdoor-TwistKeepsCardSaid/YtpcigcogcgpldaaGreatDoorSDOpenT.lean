/- A text of this claim's own: SD.OpenT. -/
import Derived.Test.YtpcigcogcgpldaaGreatDoorSDOpenB
import Derived.Test.YtpcigcogcgpldaaGreatDoorSdI
set_option linter.unusedVariables false
set_option linter.unusedSimpArgs false
set_option linter.unusedVariables false
set_option linter.unusedSimpArgs false
set_option maxRecDepth 100000
namespace Go.Proofs.YtpcigcogcgpldaaGreatDoor
open Go Go.Dx Go.ChangeShapes Go.WideShapes Go.ChangeAt Go.RowKit
theorem wf_i8 {n : Int} (h : (Lit.int .i8 n).wf = true) : I8 n := by
  simp only [Lit.wf, Bool.and_eq_true, decide_eq_true_eq] at h
  have h1 : IntKind.i8.min = -128 := by decide
  have h2 : IntKind.i8.max = 127 := by decide
  rw [h1, h2] at h
  exact ⟨h.1, by omega⟩
theorem wf_u8 {n : Int} (h : (Lit.int .u8 n).wf = true) : 0 ≤ n ∧ n < 256 := by
  simp only [Lit.wf, Bool.and_eq_true, decide_eq_true_eq] at h
  have h1 : IntKind.u8.min = 0 := by decide
  have h2 : IntKind.u8.max = 255 := by decide
  rw [h1, h2] at h
  exact ⟨h.1, by omega⟩
section
variable {H : Type} {enc : TypeId × Value → H} {W : World} {base : Nat} {v : Value} {d : DataW H} {p : List MemPlace}
theorem agg_of {t : TypeId} {v : Value} {cs : Array Value} (h : v = .agg cs) : v.cells.toList = cs.toList := by rw [h]; rfl
/-- six small numbers come in -/
theorem open_small {b0 : Nat} {sp : Nat → Bool} {hd : Bool} (hval : Value.okWide Tryz.prog W .any b0 53 v) (h : DataW.Trod enc Tryz.prog W base sp hd 53 v d p) :
    ∃ m : Sm, v = m.v ∧ m.ok ∧ p = [] ∧ ∀ W' b sp hd, DataW.Trod enc Tryz.prog W' b sp hd 53 v d [] := by
  have hagg : ∃ cs, v = .agg cs := by
    unfold Value.okWide at hval
    rw [Tryz.underlying53] at hval
    obtain ⟨cs, h1, _⟩ := hval
    exact ⟨cs, h1⟩
  obtain ⟨cs, rfl⟩ := hagg
  obtain ⟨fuel, hf⟩ := h
  rw [cells_agg] at hf
  obtain ⟨y0, y1, n, e, hl, h0, h1⟩ := trod_struct2 Tryz.underlying53 hf
  have c25 : Tryz.prog.cellsOf 53 = 7 := by kernel_rfl
  have c23 : Tryz.prog.cellsOf 51 = 6 := by kernel_rfl
  have c22 : Tryz.prog.cellsOf 50 = 1 := by kernel_rfl
  have c5 : Tryz.prog.cellsOf 5 = 1 := by kernel_rfl
  simp only [c23, c5] at h0 h1
  rw [c25] at hl
  obtain ⟨ns, g1, g2, g3, g4⟩ := arr_int Tryz.underlying51 Tryz.underlying50 c22 c23 h0
  obtain ⟨s, k1, k2, k3⟩ := DataW.trod_int Tryz.underlying5 h1
  have hcs : cs.toList = ns.map (Value.int .i8) ++ [.int .u8 s] := by
    have e1 : cs.toList = cs.toList.take 6 ++ cs.toList.drop 6 := (List.take_append_drop 6 _).symm
    have e2 : (cs.toList.drop 6).take 1 = cs.toList.drop 6 := List.take_of_length_le (by simp at hl ⊢; omega)
    rw [e1, ← e2, k1]
    rw [show cs.toList.take 6 = ns.map (Value.int .i8) by simpa using g1]
  match ns, g2 with
  | [a, b, c, d', e', f], _ =>
    refine ⟨⟨a, b, c, d', e', f, s⟩, ?_, ⟨⟨wf_i8 (g3 _ (by simp)), wf_i8 (g3 _ (by simp)), wf_i8 (g3 _ (by simp)), wf_i8 (g3 _ (by simp)), wf_i8 (g3 _ (by simp)), wf_i8 (g3 _ (by simp))⟩, wf_u8 k3⟩, ?_, ?_⟩
    · have : cs = #[.int .i8 a, .int .i8 b, .int .i8 c, .int .i8 d', .int .i8 e', .int .i8 f, .int .u8 s] := by
        apply Array.ext'; rw [hcs]; rfl
      rw [this]; rfl
    · rw [g4, k2] at e
      simp only [Prod.mk.injEq] at e
      simpa using e.2
    · intro W' b0 sp hd
      refine ⟨0 + 2 + 1, ?_⟩
      rw [cells_agg]
      have q0 := arr_int_mk (enc := enc) (P := Tryz.prog) (w := W') (base := b0) (spare := sp) (held := hd) Tryz.underlying51 Tryz.underlying50 c22 c23 (ns := [a, b, c, d', e', f]) rfl g3 0
      have q1 := trod_int_mk (enc := enc) (P := Tryz.prog) (w := W') (base := b0) (spare := sp) (held := hd) (0 + 1) Tryz.underlying5 k3
      have := trod_struct2_mk (enc := enc) (P := Tryz.prog) (w := W') (base := b0) (spare := sp) (held := hd) (n := 0 + 2) (cs := cs.toList) (y0 := (.agg ([a, b, c, d', e', f].map fun m => .lit (.int .i8 m)), [])) (y1 := (.lit (.int .u8 s), [])) Tryz.underlying53 (by rw [c25]; exact hl)
        (by simp only [c23]; rw [hcs]; exact q0) (by simp only [c5]; rw [hcs]; exact q1)
      rw [this]
      rw [g4, k2] at e
      simp only [Prod.mk.injEq] at e
      rw [e.1]; rfl
/-- three small numbers -/
theorem open_pt {b0 : Nat} {sp : Nat → Bool} {hd : Bool} (hval : Value.okWide Tryz.prog W .any b0 54 v) (h : DataW.Trod enc Tryz.prog W base sp hd 54 v d p) :
    ∃ x y z : Int, v = .agg #[.int .i8 x, .int .i8 y, .int .i8 z] ∧ I8 x ∧ I8 y ∧ I8 z ∧ p = [] ∧ ∀ W' b sp hd, DataW.Trod enc Tryz.prog W' b sp hd 54 v d [] := by
  have hagg : ∃ cs, v = .agg cs := by
    unfold Value.okWide at hval
    rw [Tryz.underlying54] at hval
    obtain ⟨cs, h1, _⟩ := hval
    exact ⟨cs, h1⟩
  obtain ⟨cs, rfl⟩ := hagg
  obtain ⟨fuel, hf⟩ := h
  rw [cells_agg] at hf
  have c54 : Tryz.prog.cellsOf 54 = 3 := by kernel_rfl
  have c22 : Tryz.prog.cellsOf 50 = 1 := by kernel_rfl
  obtain ⟨ns, g1, g2, g3, g4⟩ := arr_int Tryz.underlying54 Tryz.underlying50 c22 c54 hf
  match ns, g2 with
  | [a, b, c], _ =>
    simp only [Prod.mk.injEq] at g4
    refine ⟨a, b, c, ?_, wf_i8 (g3 _ (by simp)), wf_i8 (g3 _ (by simp)), wf_i8 (g3 _ (by simp)), g4.2, ?_⟩
    · have : cs = #[.int .i8 a, .int .i8 b, .int .i8 c] := by apply Array.ext'; rw [g1]; rfl
      rw [this]
    · intro W' b0 sp hd
      refine ⟨0 + 2, ?_⟩
      rw [cells_agg, g1]
      have q0 := arr_int_mk (enc := enc) (P := Tryz.prog) (w := W') (base := b0) (spare := sp) (held := hd) Tryz.underlying54 Tryz.underlying50 c22 c54 (ns := [a, b, c]) rfl g3 0
      rw [q0, g4.1]
/-- five bytes -/
theorem open_five {b0 : Nat} {sp : Nat → Bool} {hd : Bool} (hval : Value.okWide Tryz.prog W .any b0 55 v) (h : DataW.Trod enc Tryz.prog W base sp hd 55 v d p) :
    ∃ m : B5, v = m.v ∧ m.ok ∧ p = [] ∧ ∀ W' b sp hd, DataW.Trod enc Tryz.prog W' b sp hd 55 v d [] := by
  have hagg : ∃ cs, v = .agg cs := by
    unfold Value.okWide at hval
    rw [Tryz.underlying55] at hval
    obtain ⟨cs, h1, _⟩ := hval
    exact ⟨cs, h1⟩
  obtain ⟨cs, rfl⟩ := hagg
  obtain ⟨fuel, hf⟩ := h
  rw [cells_agg] at hf
  have c54 : Tryz.prog.cellsOf 55 = 5 := by kernel_rfl
  have c22 : Tryz.prog.cellsOf 5 = 1 := by kernel_rfl
  obtain ⟨ns, g1, g2, g3, g4⟩ := arr_int Tryz.underlying55 Tryz.underlying5 c22 c54 hf
  match ns, g2 with
  | [a, b, c, d', e], _ =>
    simp only [Prod.mk.injEq] at g4
    refine ⟨⟨a, b, c, d', e⟩, ?_, ⟨wf_u8 (g3 _ (by simp)), wf_u8 (g3 _ (by simp)), wf_u8 (g3 _ (by simp)), wf_u8 (g3 _ (by simp)), wf_u8 (g3 _ (by simp))⟩, g4.2, ?_⟩
    · have : cs = #[.int .u8 a, .int .u8 b, .int .u8 c, .int .u8 d', .int .u8 e] := by apply Array.ext'; rw [g1]; rfl
      rw [this]; rfl
    · intro W' b0 sp hd
      refine ⟨0 + 2, ?_⟩
      rw [cells_agg, g1]
      have q0 := arr_int_mk (enc := enc) (P := Tryz.prog) (w := W') (base := b0) (spare := sp) (held := hd) Tryz.underlying55 Tryz.underlying5 c22 c54 (ns := [a, b, c, d', e]) rfl g3 0
      rw [q0, g4.1]
end
end Go.Proofs.YtpcigcogcgpldaaGreatDoor
