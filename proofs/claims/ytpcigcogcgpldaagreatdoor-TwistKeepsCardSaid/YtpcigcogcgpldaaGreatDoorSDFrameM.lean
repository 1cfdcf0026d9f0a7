/- A text of this claim's own: SD.FrameM. -/
import Derived.Test.YtpcigcogcgpldaaGreatDoorRows
import Derived.ProofKit
import Derived.LaidMore
import Derived.OpenShut
import Derived.Stop.Joined
set_option linter.unusedVariables false
set_option linter.unusedSimpArgs false
set_option linter.unusedVariables false
set_option linter.unusedSimpArgs false
set_option maxRecDepth 100000
namespace Go.Proofs.YtpcigcogcgpldaaGreatDoor
open Go Go.ChangeShapes Go.WideShapes Go.ChangeAt Go.RowKit
theorem Tryz.own : ownKnob Tryz.prog.godebug = none := by kernel_rfl
section
variable {H : Type} {enc : TypeId × Value → H} {P : Program} {w : World} {base : Nat} {spare : Nat → Bool} {held : Bool} {fuel : Nat} {t e : TypeId} {cs : List Value} {x : DataW H × List MemPlace} {k : IntKind}
/-- an array of whole numbers -/
theorem arr_int {n : Nat} (ht : P.underlying t = some (.array n e)) (he : P.underlying e = some (.int k)) (hce : P.cellsOf e = 1) (hct : P.cellsOf t = n) (h : DataW.trod enc P w base spare held fuel t cs = some x) :
    ∃ ns : List Int, cs = ns.map (Value.int k) ∧ ns.length = n ∧ (∀ m ∈ ns, (Lit.int k m).wf = true) ∧ x = (.agg (ns.map fun m => .lit (.int k m)), []) := by
  obtain ⟨xs, m, rfl, rfl, hl, hn, hel⟩ := DataW.trod_array ht h
  rw [hct] at hl
  have key : ∀ (j : Nat) (cs : List Value) (xs : List (DataW H × List MemPlace)), cs.length = j → xs.length = j → (∀ i, i < j → DataW.trod enc P w base spare held m e ((cs.drop i).take 1) = xs[i]?) →
      ∃ ns : List Int, cs = ns.map (Value.int k) ∧ ns.length = j ∧ (∀ m ∈ ns, (Lit.int k m).wf = true) ∧ xs = ns.map fun m => (.lit (.int k m), []) := by
    intro j
    induction j with
    | zero =>
      intro cs xs h1 h2 _
      exact ⟨[], List.length_eq_zero_iff.1 h1, rfl, (fun _ hm => (by cases hm)), List.length_eq_zero_iff.1 h2⟩
    | succ j ih =>
      intro cs xs h1 h2 h3
      cases cs with
      | nil => simp at h1
      | cons c cs =>
        cases xs with
        | nil => simp at h2
        | cons y xs =>
          have h0 := h3 0 (by omega)
          simp only [List.drop_zero, List.take_succ_cons, List.take_zero, List.getElem?_cons_zero] at h0
          obtain ⟨n, e1, e2, e3⟩ := DataW.trod_int he h0
          obtain ⟨ns, g1, g2, g3, g4⟩ := ih cs xs (by simpa using h1) (by simpa using h2) (fun i hi => by simpa using h3 (i + 1) (by omega))
          simp only [List.cons.injEq, and_true] at e1
          refine ⟨n :: ns, by simp [e1, g1], by simp [g2], ?_, by simp [e2, g4]⟩
          intro m hm
          rcases List.mem_cons.1 hm with rfl | hm
          · exact e3
          · exact g3 m hm
  obtain ⟨ns, g1, g2, g3, g4⟩ := key n cs xs hl hn (fun i hi => by have := hel i hi; rwa [hce, Nat.mul_one] at this)
  refine ⟨ns, g1, g2, g3, ?_⟩
  rw [g4]
  simp only [List.map_map, List.flatMap_map, Prod.mk.injEq]
  exact ⟨rfl, by induction ns <;> simp_all⟩
theorem arr_int_mk {n : Nat} (ht : P.underlying t = some (.array n e)) (he : P.underlying e = some (.int k)) (hce : P.cellsOf e = 1) (hct : P.cellsOf t = n) {ns : List Int} (hn : ns.length = n) (hw : ∀ m ∈ ns, (Lit.int k m).wf = true) (m : Nat) :
    DataW.trod enc P w base spare held (m + 2) t (ns.map (Value.int k)) = some (.agg (ns.map fun m => .lit (.int k m)), []) := by
  unfold DataW.trod
  rw [ht]
  have hmap : ((List.range n).mapM fun i => DataW.trod enc P w base spare held (m + 1) e (((ns.map (Value.int k)).drop (i * P.cellsOf e)).take (P.cellsOf e))) = some (ns.map fun m => ((.lit (.int k m) : DataW H), ([] : List MemPlace))) := by
    have key : ∀ (l : List Int) (j : Nat), (∀ x ∈ l, (Lit.int k x).wf = true) → (∀ i x, l[i]? = some x → ns[j + i]? = some x) →
        ((List.range' j l.length).mapM fun i => DataW.trod enc P w base spare held (m + 1) e (((ns.map (Value.int k)).drop (i * P.cellsOf e)).take (P.cellsOf e))) = some (l.map fun m => ((.lit (.int k m) : DataW H), ([] : List MemPlace))) := by
      intro l
      induction l with
      | nil => intro j _ _; rfl
      | cons a l ih =>
        intro j hw hl
        have h0 := hl 0 a rfl
        have hj : ((ns.map (Value.int k)).drop (j * P.cellsOf e)).take (P.cellsOf e) = [.int k a] := by
          rw [hce, Nat.mul_one]
          apply List.ext_getElem?
          intro i
          simp only [List.getElem?_take, List.getElem?_drop, List.getElem?_map]
          cases i with
          | zero => simp at h0; simp [h0]
          | succ i => simp
        have h1 := ih (j + 1) (fun x hx => hw x (List.mem_cons_of_mem _ hx)) (fun i x hx => by
          have := hl (i + 1) x (by simpa using hx)
          rwa [show j + (i + 1) = j + 1 + i by omega] at this)
        have h2 : DataW.trod enc P w base spare held (m + 1) e [.int k a] = some (.lit (.int k a), []) := by
          simp [DataW.trod, he, hw a (by simp)]
        rw [List.length_cons, List.range'_succ, List.mapM_cons, hj, h2, h1]
        rfl
    have := key ns 0 hw (fun i x hx => by simpa using hx)
    rwa [hn, ← List.range_eq_range'] at this
  split <;> simp_all
/-- an array of texts -/
theorem arr_str {n : Nat} (ht : P.underlying t = some (.array n e)) (he : P.underlying e = some .string) (hce : P.cellsOf e = 1) (hct : P.cellsOf t = n) (h : DataW.trod enc P w base spare held fuel t cs = some x) :
    ∃ ns : List ByteArray, cs = ns.map (Value.string) ∧ ns.length = n ∧ (∀ m ∈ ns, m.size ≤ maxLen) ∧ x = (.agg (ns.map fun m => .lit (.string m.data.toList)), []) := by
  obtain ⟨xs, m, rfl, rfl, hl, hn, hel⟩ := DataW.trod_array ht h
  rw [hct] at hl
  have key : ∀ (j : Nat) (cs : List Value) (xs : List (DataW H × List MemPlace)), cs.length = j → xs.length = j → (∀ i, i < j → DataW.trod enc P w base spare held m e ((cs.drop i).take 1) = xs[i]?) →
      ∃ ns : List ByteArray, cs = ns.map (Value.string) ∧ ns.length = j ∧ (∀ m ∈ ns, m.size ≤ maxLen) ∧ xs = ns.map fun m => (.lit (.string m.data.toList), []) := by
    intro j
    induction j with
    | zero =>
      intro cs xs h1 h2 _
      exact ⟨[], List.length_eq_zero_iff.1 h1, rfl, (fun _ hm => (by cases hm)), List.length_eq_zero_iff.1 h2⟩
    | succ j ih =>
      intro cs xs h1 h2 h3
      cases cs with
      | nil => simp at h1
      | cons c cs =>
        cases xs with
        | nil => simp at h2
        | cons y xs =>
          have h0 := h3 0 (by omega)
          simp only [List.drop_zero, List.take_succ_cons, List.take_zero, List.getElem?_cons_zero] at h0
          obtain ⟨n, e1, e2, e3⟩ := DataW.trod_string he h0
          obtain ⟨ns, g1, g2, g3, g4⟩ := ih cs xs (by simpa using h1) (by simpa using h2) (fun i hi => by simpa using h3 (i + 1) (by omega))
          simp only [List.cons.injEq, and_true] at e1
          refine ⟨n :: ns, by simp [e1, g1], by simp [g2], ?_, by simp [e2, g4]⟩
          intro m hm
          rcases List.mem_cons.1 hm with rfl | hm
          · exact e3
          · exact g3 m hm
  obtain ⟨ns, g1, g2, g3, g4⟩ := key n cs xs hl hn (fun i hi => by have := hel i hi; rwa [hce, Nat.mul_one] at this)
  refine ⟨ns, g1, g2, g3, ?_⟩
  rw [g4]
  simp only [List.map_map, List.flatMap_map, Prod.mk.injEq]
  exact ⟨rfl, by induction ns <;> simp_all⟩
theorem arr_str_mk {n : Nat} (ht : P.underlying t = some (.array n e)) (he : P.underlying e = some .string) (hce : P.cellsOf e = 1) (hct : P.cellsOf t = n) {ns : List ByteArray} (hn : ns.length = n) (hw : ∀ m ∈ ns, m.size ≤ maxLen) (m : Nat) :
    DataW.trod enc P w base spare held (m + 2) t (ns.map (Value.string)) = some (.agg (ns.map fun m => .lit (.string m.data.toList)), []) := by
  unfold DataW.trod
  rw [ht]
  have hmap : ((List.range n).mapM fun i => DataW.trod enc P w base spare held (m + 1) e (((ns.map (Value.string)).drop (i * P.cellsOf e)).take (P.cellsOf e))) = some (ns.map fun m => ((.lit (.string m.data.toList) : DataW H), ([] : List MemPlace))) := by
    have key : ∀ (l : List ByteArray) (j : Nat), (∀ x ∈ l, x.size ≤ maxLen) → (∀ i x, l[i]? = some x → ns[j + i]? = some x) →
        ((List.range' j l.length).mapM fun i => DataW.trod enc P w base spare held (m + 1) e (((ns.map (Value.string)).drop (i * P.cellsOf e)).take (P.cellsOf e))) = some (l.map fun m => ((.lit (.string m.data.toList) : DataW H), ([] : List MemPlace))) := by
      intro l
      induction l with
      | nil => intro j _ _; rfl
      | cons a l ih =>
        intro j hw hl
        have h0 := hl 0 a rfl
        have hj : ((ns.map (Value.string)).drop (j * P.cellsOf e)).take (P.cellsOf e) = [.string a] := by
          rw [hce, Nat.mul_one]
          apply List.ext_getElem?
          intro i
          simp only [List.getElem?_take, List.getElem?_drop, List.getElem?_map]
          cases i with
          | zero => simp at h0; simp [h0]
          | succ i => simp
        have h1 := ih (j + 1) (fun x hx => hw x (List.mem_cons_of_mem _ hx)) (fun i x hx => by
          have := hl (i + 1) x (by simpa using hx)
          rwa [show j + (i + 1) = j + 1 + i by omega] at this)
        have h2 : DataW.trod enc P w base spare held (m + 1) e [.string a] = some (.lit (.string a.data.toList), []) := by
          simp [DataW.trod, he, hw a (by simp)]
        rw [List.length_cons, List.range'_succ, List.mapM_cons, hj, h2, h1]
        rfl
    have := key ns 0 hw (fun i x hx => by simpa using hx)
    rwa [hn, ← List.range_eq_range'] at this
  split <;> simp_all
end
end Go.Proofs.YtpcigcogcgpldaaGreatDoor
