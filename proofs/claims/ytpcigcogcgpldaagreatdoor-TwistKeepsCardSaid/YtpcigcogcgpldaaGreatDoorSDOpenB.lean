/- A text of this claim's own: SD.OpenB. -/
import Derived.Test.YtpcigcogcgpldaaGreatDoorSDFrameM
import Derived.Test.YtpcigcogcgpldaaGreatDoorSDTextM
set_option linter.unusedVariables false
set_option linter.unusedSimpArgs false
set_option linter.unusedVariables false
set_option linter.unusedSimpArgs false
set_option maxRecDepth 100000
namespace Go.Proofs.YtpcigcogcgpldaaGreatDoor
open Go Go.Dx Go.ChangeShapes Go.WideShapes Go.ChangeAt Go.RowKit
/-- the block of the table, as it stands -/
def VT (W : World) : VH := ⟨fun k => if k = g_pow10 then W.heap[g_pow10]? else none⟩
theorem VT_in (W : World) : (VT W).inW W := fun k o hk => by
  simp only [VT] at hk
  split at hk
  · rename_i e; rw [e]; exact hk
  · cases hk
theorem tabV {W : World} (h : Lib.TabIs Tryz.prog W "internal/strconv.uint64pow10" .u64 Lib.pow10Tab) : TabV (VT W) := by
  unfold Lib.TabIs World.var? at h
  rw [tab_named] at h
  simp only [Option.bind_some] at h
  split at h
  · rename_i cs T fr he
    injection h with h
    refine ⟨T, fr, ?_⟩
    show (if g_pow10 = g_pow10 then W.heap[g_pow10]? else none) = _
    rw [if_pos rfl, he, h]
  · cases h
theorem calls_ofV {f : Nat} {args : Array Value} {V : VH} (h : CSpec Tryz.prog f args V fun v _ => v = .bool true) (w : World) (hV : V.inW w) : Calls Tryz.prog f args w fun e w' => e = .returned (.bool true) ∧ Below w.heap.size w w' :=
  (h.out w hV).mono fun e w' ⟨v, V', he, hb, _, _, _, hv⟩ => ⟨by rw [he, hv], hb⟩
theorem kept_of_below {w w' : World} (h : Below w.heap.size w w') (may : MemPlace → Prop) : w.keptBut w' may := by
  refine ⟨h.os, h.output, fun i hi => ?_⟩
  have e := h.block i hi
  have h2 : i < w'.heap.size := Nat.lt_of_lt_of_le hi h.size
  cases h1 : w.heap[i]? with
  | none => simp [Array.getElem?_eq_none_iff] at h1; omega
  | some o =>
    rw [h1] at e
    rw [e]
    cases o with
    | cells c t fr => exact ⟨rfl, rfl, rfl, fun _ _ => rfl⟩
    | map es clock => exact .inr ⟨rfl, rfl⟩
    | _ => rfl
theorem cells_agg (cs : Array Value) : (Value.agg cs).cells = cs := rfl
end Go.Proofs.YtpcigcogcgpldaaGreatDoor
