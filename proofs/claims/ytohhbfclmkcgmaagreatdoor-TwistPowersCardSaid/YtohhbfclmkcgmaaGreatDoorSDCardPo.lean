/- What is proved: for every small twist and every two small forces at points, TwistPowers returns true (Force and Sum return the wrench, and its power is the sum of the scalar products of the forces and the velocities of their points): TwistPowers returns true, and the arguments read afterwards as before: the tied card Rows.TwistPowersCardSaid, whole.
Conditions: none beyond the card's own (the three tables of math/bits and strconv start as the program's text lays them). -/
import Derived.Test.YtohhbfclmkcgmaaGreatDoorTie
import Derived.Test.YtohhbfclmkcgmaaGreatDoorCards
import Derived.Test.YtohhbfclmkcgmaaGreatDoorSDLawPo
import Derived.Test.YtohhbfclmkcgmaaGreatDoorSDOpen2
import Derived.SevenTiedAt
set_option linter.unusedVariables false
set_option linter.unusedSimpArgs false
set_option linter.unusedVariables false
set_option linter.unusedSimpArgs false
set_option maxRecDepth 100000
namespace Go.Proofs.YtohhbfclmkcgmaaGreatDoor
open Go Go.Dx Go.ChangeShapes Go.WideShapes Go.ChangeAt Go.WideMaps Go.WideElems Go.RowKit
set_option maxHeartbeats 1000000 in
theorem liftedTwistPowers (os : Os) (started : os.Started) (H : Type) (enc : TypeId × Value → H) :
    ReturnsInHanded {} Tryz.checked os 3 .any (fun w args => (Rows.twistPowersSpec.pre enc Tryz.prog Tryz.f3 [] false w args ∧ laidMetH Tryz.prog laid3 w) ∧ sizedMet enc Tryz.prog Tryz.f3 (OpenSpec.ofChange Rows.twistPowersSpec) false w args)
      (Rows.twistPowersSpec.post enc Tryz.prog Tryz.f3 false true false false) := by
  refine returnsInHanded_of_change_and (C := Tryz.checked) (X := fun w _ => laidMetH Tryz.prog laid3 w) (fun _ _ _ hh h => h.of_heap hh) Tryz.own started (by kernel_rfl) Tryz.func3
    (ChangeSpec.witness_shaped (enc := enc) (C := Tryz.checked) (os := os) (X := fun w _ => laidMetH Tryz.prog laid3 w) false (World.doorLaid Tryz.prog 4000 os) #[.agg #[.int .i8 0, .int .i8 0, .int .i8 0, .int .i8 0, .int .i8 0, .int .i8 0, .int .u8 0], .agg #[.int .i8 0, .int .i8 0, .int .i8 0, .int .i8 0, .int .i8 0, .int .i8 0], .agg #[.int .i8 0, .int .i8 0, .int .i8 0, .int .i8 0, .int .i8 0, .int .i8 0]] 8 rfl (World.shaped_of_RefB (by kernel_rfl) (by kernel_rfl)) (by kernel_rfl) (by kernel_rfl) (by kernel_rfl) (door_met os _)) ?_
  intro W base args ds gs before hval0 hW _ _ hL _
  have hval : ∀ (j : Nat) t v, Tryz.f3.params[j]? = some t → args[j]? = some v → Value.okWide Tryz.prog W .any base t v := hval0
  have hW' := hW
  obtain ⟨p, q, hA0, hV, rfl, hfz, hnd⟩ := hW
  have hA : DataW.TrodAll enc Tryz.prog W 0 (fun _ => true) true Tryz.f3.params.toList args.toList ds p := hA0
  rw [Tryz.params3] at hA hval
  obtain ⟨v0, v1, v2, d0, d1, d2, p0, p1, p2, rfl, rfl, rfl, h0, h1, h2⟩ := trodAll_three hA
  obtain ⟨rfl, rfl⟩ := trodVars_none hV
  obtain ⟨m0, rfl, hm0, rfl, s0⟩ := open_small (hval 0 25 v0 rfl rfl) h0
  obtain ⟨x1, y1, z1, x'1, y'1, z'1, rfl, hx1, hy1, hz1, hx'1, hy'1, hz'1, rfl, s1⟩ := open_two (hval 1 27 v1 rfl rfl) h1
  obtain ⟨x2, y2, z2, x'2, y'2, z'2, rfl, hx2, hy2, hz2, hx'2, hy'2, hz'2, rfl, s2⟩ := open_two (hval 2 27 v2 rfl rfl) h2
  refine (calls_of (TwistPowers_spec (V := V00) hm0 hx1 hy1 hz1 hx'1 hy'1 hz'1 hx2 hy2 hz2 hx'2 hy'2 hz'2) W).mono fun e W' ⟨he, hb⟩ => ?_
  subst he
  refine ⟨_, rfl, _, _, _, [], [], [], hW', ?_, ?_, ?_, kept_of_below hb _, fun h => by cases h⟩
  · exact trodAll_mk1 (shut_bool Tryz.underlying4 true)
  · exact trodAll_mk3 (s0 _ _ _ _) (s1 _ _ _ _) (s2 _ _ _ _)
  · rfl
theorem twistPowers_holds : Rows.TwistPowersSaid :=
  OpenClaim.holds_of_wide 3 Tryz.f3 rfl rfl rfl rfl rfl rfl rfl ⟨rfl, rfl, rfl, rfl, rfl⟩ rfl rfl rfl rfl rfl (by kernel_rfl) Tryz.func3 (by kernel_rfl)
    (of_decide_eq_true (by kernel_rfl)) (by unfold Func.isWrapper; first | (rw [if_pos (by decide +kernel)]; kernel_rfl) | (rw [if_neg (by decide +kernel)]; exact ⟨rfl, rfl⟩))
    (fun os started H enc _ => liftedTwistPowers os started H enc)
theorem twistPowers_card : Rows.TwistPowersCardSaid :=
  Claim7.holds_tied_plain_at .later [] [.data, .data, .data] true (true, "e733ea7d6eafa49e88eece75aab2c54ab41ee0a5ab43a14bd53a6ce181e71e32") true
    twistPowers_holds (fun _ h => by cases h) (by kernel_rfl) (fun _ h => by cases h) twistPowers_row_tie rfl ⟨rfl, rfl⟩ (by kernel_rfl) rfl
    (fun f fn hf hfn => by
      obtain rfl : f = 3 := Option.some.inj ((show Tryz.prog.funcNamed "dowel/dowellaw17.TwistPowers" = some 3 by kernel_rfl).symm.trans hf) |>.symm
      obtain rfl : fn = Tryz.f3 := (Option.some.inj (Tryz.func3.symm.trans hfn)).symm
      exact ⟨by kernel_rfl, fun j t ht => by
        rw [Tryz.params3] at ht
        have hm : t ∈ [25, 27, 27] := by simpa using Array.mem_of_getElem? ht
        have hall : ([25, 27, 27].all fun u => !Tryz.prog.wantsStandIn u) = true := by kernel_rfl
        exact (show Tryz.prog.wantsStandIn t = false by simpa using List.all_eq_true.1 hall t hm)⟩)
    (by kernel_rfl)
end Go.Proofs.YtohhbfclmkcgmaaGreatDoor
