/- A text of this claim's own: SD.Open2. -/
import Derived.Test.YteimfmjojadkfaaDoorSDOpen
set_option linter.unusedVariables false
set_option linter.unusedSimpArgs false
set_option linter.unusedVariables false
set_option linter.unusedSimpArgs false
set_option maxRecDepth 100000
namespace Go.Proofs.YteimfmjojadkfaaDoor
open Go Go.Dx Go.ChangeShapes Go.WideShapes Go.ChangeAt Go.RowKit
def V00 : VH := ⟨fun _ => none⟩
theorem calls_of {f : Nat} {args : Array Value} (h : CSpec Tryd.prog f args V00 fun v _ => v = .bool true) (w : World) : Calls Tryd.prog f args w fun e w' => e = .returned (.bool true) ∧ Below w.heap.size w w' :=
  (h.out w (fun k o hk => by cases hk)).mono fun e w' ⟨v, V', he, hb, _, _, _, hv⟩ => ⟨by rw [he, hv], hb⟩
theorem trod_array_mk {H : Type} {enc : TypeId × Value → H} {P : Program} {w : World} {base : Nat} {spare : Nat → Bool} {held : Bool} {t e : TypeId} {n m : Nat} {cs : List Value} {xs : List (DataW H × List MemPlace)} (ht : P.underlying t = some (.array n e)) (hl : cs.length = P.cellsOf t)
    (hp : (List.range n).mapM (fun i => DataW.trod enc P w base spare held m e ((cs.drop (i * P.cellsOf e)).take (P.cellsOf e))) = some xs) :
    DataW.trod enc P w base spare held (m + 1) t cs = some (.agg (xs.map (·.1)), xs.flatMap (·.2)) := by
  unfold DataW.trod
  rw [ht]
  split <;> simp_all
section
variable {H : Type} {enc : TypeId × Value → H} {W : World} {base : Nat} {v : Value} {d : DataW H} {p : List MemPlace}
/-- two points -/
theorem open_two {b0 : Nat} {sp : Nat → Bool} {hd : Bool} (hval : Value.okWide Tryd.prog W .any b0 61 v) (h : DataW.Trod enc Tryd.prog W base sp hd 61 v d p) :
    ∃ x y z x' y' z' : Int, v = .agg #[.int .i8 x, .int .i8 y, .int .i8 z, .int .i8 x', .int .i8 y', .int .i8 z'] ∧ I8 x ∧ I8 y ∧ I8 z ∧ I8 x' ∧ I8 y' ∧ I8 z' ∧ p = [] ∧ ∀ W' b sp hd, DataW.Trod enc Tryd.prog W' b sp hd 61 v d [] := by
  have hagg : ∃ cs, v = .agg cs := by
    unfold Value.okWide at hval
    rw [Tryd.underlying61] at hval
    obtain ⟨cs, h1, _⟩ := hval
    exact ⟨cs, h1⟩
  obtain ⟨cs, rfl⟩ := hagg
  obtain ⟨fuel, hf⟩ := h
  rw [cells_agg] at hf
  have c61 : Tryd.prog.cellsOf 61 = 6 := by kernel_rfl
  have c54 : Tryd.prog.cellsOf 54 = 3 := by kernel_rfl
  have c22 : Tryd.prog.cellsOf 22 = 1 := by kernel_rfl
  obtain ⟨xs, n, rfl, e, hl, hn, hel⟩ := DataW.trod_array Tryd.underlying61 hf
  rw [c61] at hl
  match xs, hn with
  | [y0, y1], _ =>
    have h0 := hel 0 (by decide)
    have h1 := hel 1 (by decide)
    rw [c54] at h0 h1
    simp only [Nat.zero_mul, Nat.one_mul, List.drop_zero, List.getElem?_cons_zero, List.getElem?_cons_succ] at h0 h1
    obtain ⟨ns, g1, g2, g3, g4⟩ := arr_int Tryd.underlying54 Tryd.underlying22 c22 c54 h0
    obtain ⟨ms, k1, k2, k3, k4⟩ := arr_int Tryd.underlying54 Tryd.underlying22 c22 c54 h1
    have hcs : cs.toList = ns.map (Value.int .i8) ++ ms.map (Value.int .i8) := by
      have e1 : cs.toList = cs.toList.take 3 ++ cs.toList.drop 3 := (List.take_append_drop 3 _).symm
      have e2 : (cs.toList.drop 3).take 3 = cs.toList.drop 3 := List.take_of_length_le (by simp at hl ⊢; omega)
      rw [e1, ← e2, k1, g1]
    match ns, g2, ms, k2 with
    | [a, b, c], _, [a', b', c'], _ =>
      rw [g4, k4] at e
      simp only [List.map_cons, List.map_nil, List.flatMap_cons, List.flatMap_nil, List.append_nil, Prod.mk.injEq] at e
      refine ⟨a, b, c, a', b', c', ?_, wf_i8 (g3 _ (by simp)), wf_i8 (g3 _ (by simp)), wf_i8 (g3 _ (by simp)), wf_i8 (k3 _ (by simp)), wf_i8 (k3 _ (by simp)), wf_i8 (k3 _ (by simp)), e.2, ?_⟩
      · have : cs = #[.int .i8 a, .int .i8 b, .int .i8 c, .int .i8 a', .int .i8 b', .int .i8 c'] := by apply Array.ext'; rw [hcs]; rfl
        rw [this]
      · intro W' b0 sp hd
        refine ⟨0 + 2 + 1, ?_⟩
        rw [cells_agg]
        have q0 := arr_int_mk (enc := enc) (P := Tryd.prog) (w := W') (base := b0) (spare := sp) (held := hd) Tryd.underlying54 Tryd.underlying22 c22 c54 (ns := [a, b, c]) rfl g3 0
        have q1 := arr_int_mk (enc := enc) (P := Tryd.prog) (w := W') (base := b0) (spare := sp) (held := hd) Tryd.underlying54 Tryd.underlying22 c22 c54 (ns := [a', b', c']) rfl k3 0
        have hr : ((List.range 2).mapM fun i => DataW.trod enc Tryd.prog W' b0 sp hd (0 + 2) 54 ((cs.toList.drop (i * Tryd.prog.cellsOf 54)).take (Tryd.prog.cellsOf 54))) =
            some [((.agg ([a, b, c].map fun m => .lit (.int .i8 m)) : DataW H), ([] : List MemPlace)), (.agg ([a', b', c'].map fun m => .lit (.int .i8 m)), [])] := by
          rw [c54, hcs, show List.range 2 = [0, 1] from rfl, List.mapM_cons, List.mapM_cons, List.mapM_nil]
          simp only [Nat.zero_mul, Nat.one_mul]
          rw [show ((List.map (Value.int .i8) [a, b, c] ++ List.map (Value.int .i8) [a', b', c']).drop 0).take 3 = List.map (Value.int .i8) [a, b, c] from rfl,
            show ((List.map (Value.int .i8) [a, b, c] ++ List.map (Value.int .i8) [a', b', c']).drop 3).take 3 = List.map (Value.int .i8) [a', b', c'] from rfl, q0, q1]
          rfl
        rw [trod_array_mk Tryd.underlying61 (by rw [c61]; exact hl) hr, e.1]
        rfl
end
end Go.Proofs.YteimfmjojadkfaaDoor
