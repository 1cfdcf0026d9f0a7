/- A text of this claim's own: SD.ClipC. -/
import Derived.Test.YteimfmjojadkfaaDoorSDKnownC
import Derived.Test.YteimfmjojadkfaaDoorSDClone
import Derived.Shelf.RegionOpenPlain
import Derived.WalkKit
import Derived.Lib.Walk
import Derived.Lib.SliceRun
set_option linter.unusedVariables false
set_option linter.unusedSimpArgs false
set_option linter.unusedVariables false
set_option linter.unusedSimpArgs false
set_option maxRecDepth 100000
namespace Go.Proofs.YteimfmjojadkfaaDoor
open Go Go.Dx Dw Go.RowKit Go.Lib
set_option maxHeartbeats 2000000 in
theorem clip_run (b n c : Nat) (w : World) (hc : n ≤ c) :
    Calls Tryd.prog 57 #[.slice (some ⟨b, 0, none⟩) n c] w fun e w' => e = .returned (.slice (some ⟨b, 0, none⟩) n n) ∧ Below w.heap.size w w' := by
  go_enter Tryd.func57, Tryd.ntmps57
  go_wp2
  go_ret
  exact ⟨rfl, Below.refl _ _⟩
theorem Clip_spec {b n c : Nat} {V : VH} (hc : n ≤ c) :
    CSpec Tryd.prog n_slices_Clip_rational_Rat_rational_Rat #[.slice (some ⟨b, 0, none⟩) n c] V fun v V' => v = .slice (some ⟨b, 0, none⟩) n n ∧ V' = V := by
  constructor
  intro w hw
  refine (clip_run b n c w hc).mono ?_
  rintro e w' ⟨rfl, hb⟩
  exact ⟨_, V, rfl, hb, VH.le_refl _, inW_below hw hb, fun k hk => .inl hk, rfl, rfl⟩
theorem TRow {r s : R12} {u w : Q3} {k : Nat} {V : VH} (h : VecL V r u k) (h' : VecL V s w k) (hk : k ≤ 20) :
    CSpec Tryd.prog n_twist_Row #[r.v, s.v] V fun v V' => ∃ m : Nat, ∃ t : R24, v = .slice (some ⟨m, 0, none⟩) 6 6 ∧ V'.f m = some (.cells #[.bool t.a.a.x.n, .slice t.a.a.x.A t.a.a.x.l.length t.a.a.x.c, .bool t.a.a.y.n, .slice t.a.a.y.A t.a.a.y.l.length t.a.a.y.c,
  .bool t.a.b.x.n, .slice t.a.b.x.A t.a.b.x.l.length t.a.b.x.c, .bool t.a.b.y.n, .slice t.a.b.y.A t.a.b.y.l.length t.a.b.y.c,
  .bool t.a.c.x.n, .slice t.a.c.x.A t.a.c.x.l.length t.a.c.x.c, .bool t.a.c.y.n, .slice t.a.c.y.A t.a.c.y.l.length t.a.c.y.c,
  .bool t.l.a.x.n, .slice t.l.a.x.A t.l.a.x.l.length t.l.a.x.c, .bool t.l.a.y.n, .slice t.l.a.y.A t.l.a.y.l.length t.l.a.y.c,
  .bool t.l.b.x.n, .slice t.l.b.x.A t.l.b.x.l.length t.l.b.x.c, .bool t.l.b.y.n, .slice t.l.b.y.A t.l.b.y.l.length t.l.b.y.c,
  .bool t.l.c.x.n, .slice t.l.c.x.A t.l.c.x.l.length t.l.c.x.c, .bool t.l.c.y.n, .slice t.l.c.y.A t.l.c.y.l.length t.l.c.y.c] 31) ∧ TwL V' t ⟨u.cross w, w⟩ (k + 2) := by
  refine E_twist_Row r.a r.b r.c s.a s.b s.c V _ fun _ _ => (VCross h h' hk).mono ?_
  rintro _ V1 hV1 ⟨c, rfl, hc⟩
  refine ⟨c.a, c.b, c.c, rfl, (Tjoined (r := c) (s := s)).mono ?_⟩
  rintro _ V2 hV2 ⟨m, rfl, hm⟩
  refine ⟨m, c.a, c.b, c.c, s.a, s.b, s.c, 6, rfl, hm, (Clip_spec (by decide)).mono ?_⟩
  rintro _ V3 hV3 ⟨rfl, rfl⟩
  exact ⟨m, c.a, c.b, c.c, s.a, s.b, s.c, 6, rfl, hm, m, ⟨c, s⟩, rfl, hm, hc.mono hV2, ((h'.mono hV1).mono hV2).up (by omega)⟩
end Go.Proofs.YteimfmjojadkfaaDoor
