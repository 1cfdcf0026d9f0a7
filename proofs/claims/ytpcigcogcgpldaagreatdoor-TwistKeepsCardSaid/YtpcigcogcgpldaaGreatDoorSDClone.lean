/- A text of this claim's own: SD.Clone. -/
import Derived.Test.YtpcigcogcgpldaaGreatDoorSDNames
import Derived.Test.YtpcigcogcgpldaaGreatDoorDxQ
import Derived.Shelf.RegionOpenPlain
import Derived.WalkKit
import Derived.Deep.LoopGhost
import Derived.Lib.Walk
import Derived.Lib.SliceRun
set_option linter.unusedVariables false
set_option linter.unusedSimpArgs false
set_option linter.unusedVariables false
set_option linter.unusedSimpArgs false
set_option maxRecDepth 100000
namespace Go.Proofs.YtpcigcogcgpldaaGreatDoor
open Go Go.Dx Dw Go.RowKit Go.Lib

theorem info103' : (Tryz.prog.info? ty_u32).map (fun i => (i.zero, i.size, i.bytes)) = some (some (.int .u32 0), 1, 4) := by kernel_rfl
theorem info103 : ∃ i, Tryz.prog.info? ty_u32 = some i ∧ i.zero = some (.int .u32 0) ∧ i.size = 1 ∧ i.bytes = 4 := by
  have h := info103'
  cases hi : Tryz.prog.info? ty_u32 with
  | none => rw [hi] at h; cases h
  | some i =>
    rw [hi] at h
    simp only [Option.map_some, Option.some.injEq, Prod.mk.injEq] at h
    exact ⟨i, rfl, h.1, h.2.1, h.2.2⟩
theorem u27 : Tryz.prog.underlying ty_slu32 = some (.slice ty_u32) := by kernel_rfl
theorem zeroCells_int (r : Nat) : Builtin.zeroCells (Value.int .u32 0).cells r = ((List.replicate r (0 : Int)).map (Value.int .u32)).toArray := by
  apply Array.ext'
  have h1 : (Value.int IntKind.u32 0).cells = #[Value.int .u32 0] := rfl
  rw [h1]
  simp only [Builtin.zeroCells, Array.toList_map, Array.toList_range, List.map_replicate]
  rw [show r * (#[Value.int IntKind.u32 0] : Array Value).size = r by simp]
  apply List.ext_getElem?
  intro j
  simp only [List.getElem?_map, List.getElem?_replicate, List.getElem?_range']
  by_cases h : j < r
  · simp [h, Nat.mod_one]
  · simp [h]
theorem wpList_append_fresh {P : Program} {ops : Array Oper} {rest : List Oper} {o : Oper} {a : Act} {w : World} {Q : Exit → Act → World → Prop} (hgd : o.guard = none) (s x : Operand) (t : TypeId)
    (ho : o.op = .call { callee := .builtin .append, args := #[s, x], argTypes := #[t, t] })
    (e : TypeId) (i : TypeInfo) (z : Value) (ht : P.underlying t = some (.slice e)) (hi : P.info? e = some i) (hz : i.zero = some z) (hsize : i.size = 1) (hby : i.bytes = 4)
    (b0 : Addr) (hs : a.eval s = .slice (some b0) 0 0) (ad : Addr) (n c : Nat) (news : List Value) (hx : a.eval x = .slice (some ad) n c) (hl : news.length = n) (hnews : ∀ j u, news[j]? = some u → w.cell? (ad.add j) = some u)
    (hn : 0 < n) (hbig : n < 1099511627776)
    (h : ∀ k, n ≤ k → wpList P ops Q rest (a.put o.dst (.slice (some ⟨w.heap.size, 0, none⟩) n k)) (w.drew.alloc (.cells (news.toArray ++ Builtin.zeroCells z.cells (k - n)) e))) :
    wpList P ops Q (o :: rest) a w := by
  refine wpList_plain hgd fun K hK => ?_
  have hr := run_append_grow (P := P) w t o.type e i z ht hi hz b0 0 0 [] (by simp) (by simp) ad n c news (by rw [hl, hsize, Nat.mul_one]) hnews (by omega) (by omega) (by
    rw [Nat.zero_add, nextslicecap_zero hn, hby]; omega)
  simp only [Nat.zero_add, Array.empty_append] at hr
  unfold Oper.wp execOp
  simp only [ho, resolve, invoke, builtin, Sem.run_bind, Sem.run_pure, Result.andThen_ok, List.map_toArray, List.map_cons, List.map_nil, hs, hx, hr]
  exact hK _ _ (h _ (grownCap_ge w n 0 e))
set_option maxHeartbeats 2000000 in
theorem clone_run (b off n c : Nat) (l : List Int) (w : World) (hn : 0 < n) (hl : l.length = n) (hbig : n < 1099511627776) (hc : ∀ j v, (l.map (Value.int .u32))[j]? = some v → w.cell? ((⟨b, off, none⟩ : Addr).add j) = some v) :
    Calls Tryz.prog n_slices_Clone_uint32_uint32 #[.slice (some ⟨b, off, none⟩) n c] w fun e w' => ∃ g k r, e = .returned (.slice (some ⟨g, 0, none⟩) n k) ∧ n ≤ k ∧ w.heap.size ≤ g ∧ w'.heap[g]? = some (.cells ((l ++ List.replicate r 0).map (Value.int .u32)).toArray ty_u32) ∧ Below w.heap.size w w' := by
  obtain ⟨i, hi, hz, hs, hb⟩ := info103
  have q27 : ∀ (w : World) (a : Option Addr) (n c n' c' : Nat), (binOp .eql ty_slu32 (.slice a n c) (.slice none n' c')).run Tryz.prog w = .ok (.bool a.isNone) w := fun w a n c n' c' => Lib.run_eql_slice_nil w _ _ a n c n' c' u27
  have hcA : Aside (∀ j v, (l.map (Value.int .u32))[j]? = some v → w.cell? ((⟨b, off, none⟩ : Addr).add j) = some v) := hc
  clear hc
  go_enter Tryz.func242, Tryz.ntmps242
  go_wp2_with (at_builtin; refine wpList_append_fresh rfl _ _ ty_slu32 rfl ty_u32 i (.int .u32 0) u27 hi hz hs hb _ rfl ⟨b, off, none⟩ n c (l.map (Value.int .u32)) rfl (by simpa using hl) ?qc hn hbig ?_)
  case qc =>
    intro j u hj
    exact Lib.cell?_alloc_some _ (hcA.out j u hj)
  intro k hk
  go_wp2
  go_ret
  refine ⟨w.heap.size + 1, k, k - n, rfl, hk, by omega, ?_, ?_⟩
  · rw [show (#[Value.int IntKind.u32 0] : Array Value) = (Value.int .u32 0).cells from rfl, zeroCells_int]
    show ((w.heap.push _).push _)[w.heap.size + 1]? = _
    rw [Array.getElem?_push, if_pos (by simp)]
    simp [List.map_append]
  · refine ⟨rfl, rfl, rfl, by show _ ≤ ((w.heap.push _).push _).size; simp; omega, fun j hj => ?_⟩
    show ((w.heap.push _).push _)[j]? = _
    rw [Array.getElem?_push, if_neg (by simp; omega), Array.getElem?_push, if_neg (by omega)]
set_option maxHeartbeats 2000000 in
theorem clone_run_zero (a : Addr) (c : Nat) (w : World) :
    Calls Tryz.prog n_slices_Clone_uint32_uint32 #[.slice (some a) 0 c] w fun e w' => ∃ A c, e = .returned (.slice A 0 c) ∧ Below w.heap.size w w' := by
  obtain ⟨i, hi, hz, hs, hb⟩ := info103
  have q27 : ∀ (w : World) (a : Option Addr) (n c n' c' : Nat), (binOp .eql ty_slu32 (.slice a n c) (.slice none n' c')).run Tryz.prog w = .ok (.bool a.isNone) w := fun w a n c n' c' => Lib.run_eql_slice_nil w _ _ a n c n' c' u27
  go_enter Tryz.func242, Tryz.ntmps242
  go_wp2
  go_ret
  exact ⟨_, _, rfl, (Below.refl _ w).alloc (Nat.le_refl _) _⟩
set_option maxHeartbeats 2000000 in
theorem clone_run_nil (n c : Nat) (w : World) :
    Calls Tryz.prog n_slices_Clone_uint32_uint32 #[.slice none n c] w fun e w' => ∃ A c, e = .returned (.slice A 0 c) ∧ Below w.heap.size w w' := by
  have q27 : ∀ (w : World) (a : Option Addr) (n c n' c' : Nat), (binOp .eql ty_slu32 (.slice a n c) (.slice none n' c')).run Tryz.prog w = .ok (.bool a.isNone) w := fun w a n c n' c' => Lib.run_eql_slice_nil w _ _ a n c n' c' u27
  go_enter Tryz.func242, Tryz.ntmps242
  go_wp2
  go_ret
  exact ⟨none, 0, rfl, Below.refl _ _⟩
theorem inW_below {V : VH} {w w' : World} (h : V.inW w) (hb : Below w.heap.size w w') : V.inW w' := fun k o hk => by
  have h1 := h k o hk
  have hlt : k < w.heap.size := (Array.getElem?_eq_some_iff.1 h1).1
  rw [hb.block k hlt]; exact h1
theorem Clone_spec {A : Option Addr} {c : Nat} {a : List Int} {V : VH} (h : RdV V .u32 (OV.sl A c a)) (hl : a.length < 1099511627776) :
    CSpecO Tryz.prog n_slices_Clone_uint32_uint32 #[.slice A a.length c] V ty_u32 .u32 (fun v V' => a = [] ∧ ∃ A c, v = .slice A 0 c) fun v V' n0 L => (∃ k, v = .slice (some ⟨n0, 0, none⟩) a.length k ∧ a.length ≤ k) ∧ ∃ r, L = a ++ List.replicate r 0 := by
  constructor
  intro w hw
  by_cases ha : a = []
  · subst ha
    have key : Calls Tryz.prog n_slices_Clone_uint32_uint32 #[.slice A 0 c] w fun e w' => ∃ A c, e = .returned (.slice A 0 c) ∧ Below w.heap.size w w' := by
      cases A with
      | none => exact clone_run_nil 0 c w
      | some ad => exact clone_run_zero ad c w
    refine key.mono ?_
    rintro e w' ⟨A', c', rfl, hb⟩
    exact ⟨_, V, rfl, hb, VH.le_refl _, inW_below hw hb, fun k hk => .inl hk, .inl ⟨rfl, A', c', rfl⟩⟩
  · have hpos : 0 < a.length := List.length_pos_iff.2 ha
    obtain ⟨A', c', e, h2, h3⟩ := h
    simp only [OV.sl, Value.slice.injEq] at e h2 h3
    obtain ⟨rfl, _, rfl⟩ := e
    obtain ⟨b, off, T, cells, fr, rfl, q2, q3⟩ := h3 hpos
    have hcell := hw _ _ q2
    refine (clone_run b off a.length c a w hpos rfl hl ?_).mono ?_
    · intro j v hv
      simp only [List.getElem?_map, Option.map_eq_some_iff] at hv
      obtain ⟨x, hx, rfl⟩ := hv
      have hj : j < a.length := (List.getElem?_eq_some_iff.1 hx).1
      rw [Go.Dx.addr_add, cell_of_row w b (off + j) cells T fr hcell, q3 j hj]
      simp [List.getD_eq_getElem?_getD, hx]
    · rintro e w' ⟨g, k, r, rfl, hk, hg, hat, hb⟩
      refine ⟨_, V, rfl, hb, VH.le_refl _, inW_below hw hb, fun k hk => .inl hk, .inr ⟨g, _, hg, ?_, hat, ⟨k, rfl, hk⟩, r, rfl⟩⟩
      cases hv : V.f g with
      | none => rfl
      | some o =>
        have := (Array.getElem?_eq_some_iff.1 (hw _ _ hv)).1
        omega
end Go.Proofs.YtpcigcogcgpldaaGreatDoor
