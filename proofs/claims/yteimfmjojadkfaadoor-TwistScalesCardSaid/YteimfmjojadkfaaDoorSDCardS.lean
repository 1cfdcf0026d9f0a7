/- What is proved: for every two small twists and every number, TwistScales returns true (Add, Scale, IsZero and Equal calculate number by number, and Primitive returns the shortest positive multiple of integers): TwistScales returns true, and the arguments read afterwards as before: the tied card Rows.TwistScalesCardSaid, whole.
Conditions: none beyond the card's own (the three tables of math/bits and strconv start as the program's text lays them). -/
import Derived.Test.YteimfmjojadkfaaDoorTie
import Derived.Test.YteimfmjojadkfaaDoorCards
import Derived.Test.YteimfmjojadkfaaDoorSDLawS
import Derived.Test.YteimfmjojadkfaaDoorSDOpen2
import Derived.SevenTiedAt
import Derived.Stop.LaidErr
import Derived.Lib.LaidTab
set_option linter.unusedVariables false
set_option linter.unusedSimpArgs false
set_option linter.unusedVariables false
set_option linter.unusedSimpArgs false
set_option maxRecDepth 100000
namespace Go.Proofs.YteimfmjojadkfaaDoor
open Go Go.Dx Go.ChangeShapes Go.WideShapes Go.ChangeAt Go.WideMaps Go.WideElems Go.RowKit
/-- the first block, as it stands -/
def VT (W : World) : VH := ⟨fun k => if k = 0 then W.heap[0]? else none⟩
theorem VT_in (W : World) : (VT W).inW W := fun k o hk => by
  simp only [VT] at hk
  split at hk
  · rename_i e; subst e; exact hk
  · cases hk
theorem tab_of {W : World} (h : laidMetH Tryd.prog laid3 W) : Lib.TabIs Tryd.prog W "internal/strconv.uint64pow10" .u64 Lib.pow10Tab := by
  rw [MakeChecks.laidMetH_plain _ _ _ (by kernel_rfl)] at h
  have h := h.tail.tail
  have e : (Rows.laid_internal_strconv_uint64pow10 : DataW Unit) = Lib.tabData .u64 Lib.pow10Tab := by kernel_rfl
  rw [e] at h
  exact Lib.tabIs_of_head tab_named (by kernel_rfl) Tryd.underlying151 Tryd.underlying101 (by kernel_rfl) (by kernel_rfl) h
theorem tabV {W : World} (h : Lib.TabIs Tryd.prog W "internal/strconv.uint64pow10" .u64 Lib.pow10Tab) : TabV (VT W) := by
  unfold Lib.TabIs World.var? at h
  rw [tab_named] at h
  simp only [Option.bind_some] at h
  split at h
  · rename_i cs T fr he
    injection h with h
    refine ⟨T, fr, ?_⟩
    show (if 0 = 0 then W.heap[0]? else none) = _
    rw [if_pos rfl, he, h]
  · cases h
theorem calls_ofV {f : Nat} {args : Array Value} {V : VH} (h : CSpec Tryd.prog f args V fun v _ => v = .bool true) (w : World) (hV : V.inW w) : Calls Tryd.prog f args w fun e w' => e = .returned (.bool true) ∧ Below w.heap.size w w' :=
  (h.out w hV).mono fun e w' ⟨v, V', he, hb, _, _, _, hv⟩ => ⟨by rw [he, hv], hb⟩
set_option maxHeartbeats 1000000 in
theorem liftedTwistScales (os : Os) (started : os.Started) (H : Type) (enc : TypeId × Value → H) :
    ReturnsInHanded {} Tryd.checked os 8 .any (fun w args => (Rows.twistScalesSpec.pre enc Tryd.prog Tryd.f8 [] false w args ∧ laidMetH Tryd.prog laid3 w) ∧ sizedMet enc Tryd.prog Tryd.f8 (OpenSpec.ofChange Rows.twistScalesSpec) false w args)
      (Rows.twistScalesSpec.post enc Tryd.prog Tryd.f8 false true false false) := by
  refine returnsInHanded_of_change_and (C := Tryd.checked) (X := fun w _ => laidMetH Tryd.prog laid3 w) (fun _ _ _ hh h => h.of_heap hh) Tryd.own started (by kernel_rfl) Tryd.func8
    (ChangeSpec.witness_shaped (enc := enc) (C := Tryd.checked) (os := os) (X := fun w _ => laidMetH Tryd.prog laid3 w) false (World.doorLaid Tryd.prog 4000 os) #[.agg #[.int .i8 0, .int .i8 0, .int .i8 0, .int .i8 0, .int .i8 0, .int .i8 0, .int .u8 0], .agg #[.int .i8 0, .int .i8 0, .int .i8 0, .int .i8 0, .int .i8 0, .int .i8 0, .int .u8 0], .int .i8 0] 8 rfl (World.shaped_of_RefB (by kernel_rfl) (by kernel_rfl)) (by kernel_rfl) (by kernel_rfl) (by kernel_rfl) (door_met os _)) ?_
  intro W base args ds gs before hval0 hW _ _ hL _
  have hval : ∀ (j : Nat) t v, Tryd.f8.params[j]? = some t → args[j]? = some v → Value.okWide Tryd.prog W .any base t v := hval0
  have hW' := hW
  obtain ⟨p, q, hA0, hV, rfl, hfz, hnd⟩ := hW
  have hA : DataW.TrodAll enc Tryd.prog W 0 (fun _ => true) true Tryd.f8.params.toList args.toList ds p := hA0
  rw [Tryd.params8] at hA hval
  obtain ⟨v0, v1, v2, d0, d1, d2, p0, p1, p2, rfl, rfl, rfl, h0, h1, h2⟩ := trodAll_three hA
  obtain ⟨rfl, rfl⟩ := trodVars_none hV
  obtain ⟨m0, rfl, hm0, rfl, s0⟩ := open_small (hval 0 25 v0 rfl rfl) h0
  obtain ⟨m1, rfl, hm1, rfl, s1⟩ := open_small (hval 1 25 v1 rfl rfl) h1
  obtain ⟨k2, rfl, rfl, rfl, hw2⟩ := open_int Tryd.underlying22 (hval 2 22 v2 rfl rfl) h2
  refine (calls_ofV (TwistScales_spec (V := VT W) (tabV (tab_of hL)) hm0 hm1 (wf_i8 hw2)) W (VT_in W)).mono fun e W' ⟨he, hb⟩ => ?_
  subst he
  refine ⟨_, rfl, _, _, _, [], [], [], hW', ?_, ?_, ?_, kept_of_below hb _, fun h => by cases h⟩
  · exact trodAll_mk1 (shut_bool Tryd.underlying4 true)
  · exact trodAll_mk3 (s0 _ _ _ _) (s1 _ _ _ _) (shut_int Tryd.underlying22 hw2)
  · rfl
theorem twistScales_holds : Rows.TwistScalesSaid :=
  OpenClaim.holds_of_wide 8 Tryd.f8 rfl rfl rfl rfl rfl rfl rfl ⟨rfl, rfl, rfl, rfl, rfl⟩ rfl rfl rfl rfl rfl (by kernel_rfl) Tryd.func8 (by kernel_rfl)
    (of_decide_eq_true (by kernel_rfl)) (by unfold Func.isWrapper; first | (rw [if_pos (by decide +kernel)]; kernel_rfl) | (rw [if_neg (by decide +kernel)]; exact ⟨rfl, rfl⟩))
    (fun os started H enc _ => liftedTwistScales os started H enc)
theorem twistScales_card : Rows.TwistScalesCardSaid :=
  Claim7.holds_tied_plain_at .later [] [.data, .data, .data] true (true, "f1b2bb7b528a2508a63097617d413191a1da4121890d79b933882cbc505c97e2") false
    twistScales_holds (fun _ h => by cases h) (by kernel_rfl) (fun _ h => by cases h) twistScales_row_tie rfl ⟨rfl, rfl⟩ (by kernel_rfl) rfl
    (fun f fn hf hfn => by
      obtain rfl : f = 8 := Option.some.inj ((show Tryd.prog.funcNamed "dowel/dowellaw17.TwistScales" = some 8 by kernel_rfl).symm.trans hf) |>.symm
      obtain rfl : fn = Tryd.f8 := (Option.some.inj (Tryd.func8.symm.trans hfn)).symm
      exact ⟨by kernel_rfl, fun j t ht => by
        rw [Tryd.params8] at ht
        have hm : t ∈ [25, 25, 22] := by simpa using Array.mem_of_getElem? ht
        have hall : ([25, 25, 22].all fun u => !Tryd.prog.wantsStandIn u) = true := by kernel_rfl
        exact (show Tryd.prog.wantsStandIn t = false by simpa using List.all_eq_true.1 hall t hm)⟩)
    (by kernel_rfl)
end Go.Proofs.YteimfmjojadkfaaDoor
