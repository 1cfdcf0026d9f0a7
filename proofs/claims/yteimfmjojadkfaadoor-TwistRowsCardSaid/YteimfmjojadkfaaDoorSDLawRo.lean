/- A text of this claim's own: SD.LawRo. -/
import Derived.Test.YteimfmjojadkfaaDoorSDClipC
import Derived.Test.YteimfmjojadkfaaDoorSDELawR
set_option linter.unusedVariables false
set_option linter.unusedSimpArgs false
set_option linter.unusedVariables false
set_option linter.unusedSimpArgs false
set_option maxRecDepth 100000
namespace Go.Proofs.YteimfmjojadkfaaDoor
open Go Go.Dx Dw
theorem rows_eq (q : Q6) (p n : Q3) : 0 + (0 + (0 + 0 + (p.cross n).x * q.a.x + n.x * q.l.x) + (p.cross n).y * q.a.y + n.y * q.l.y) + (p.cross n).z * q.a.z + n.z * q.l.z = n.dot (vel q p) := by
  obtain ⟨⟨x, y, z⟩, ⟨x', y', z'⟩⟩ := q
  obtain ⟨a, b, c⟩ := p
  obtain ⟨a', b', c'⟩ := n
  simp only [vel, Q3.add, Q3.cross, Q3.dot]
  grind
set_option maxHeartbeats 4000000 in
theorem TwistRows_spec {m : Sm} {x1 y1 z1 x2 y2 z2 : Int} {V : VH} (hm : m.ok) (hx1 : I8 x1) (hy1 : I8 y1) (hz1 : I8 z1) (hx2 : I8 x2) (hy2 : I8 y2) (hz2 : I8 z2) :
    CSpec Tryd.prog n_dowellaw17_TwistRows #[m.v, .agg #[.int .i8 x1, .int .i8 y1, .int .i8 z1], .agg #[.int .i8 x2, .int .i8 y2, .int .i8 z2]] V fun v V' => v = .bool true := by
  refine E_dowellaw17_TwistRows m.a m.b m.c m.d m.e m.f m.s x1 y1 z1 x2 y2 z2 V _ fun _ _ _ => known_spec.mono ?_
  rintro _ V1 hV1 rfl
  refine ⟨_, rfl, fun e => by simp at e, fun _ => (TOf hm).mono ?_⟩
  rintro _ V2 hV2 ⟨t, rfl, ht⟩
  refine ⟨t.a.a, t.a.b, t.a.c, t.l.a, t.l.b, t.l.c, rfl, fun _ => (Tpoint hx1 hy1 hz1).mono ?_⟩
  rintro _ V3 hV3 ⟨p, rfl, hp⟩
  refine ⟨p.a, p.b, p.c, rfl, (Tpoint hx2 hy2 hz2).mono ?_⟩
  rintro _ V4 hV4 ⟨n, rfl, hn⟩
  refine ⟨n.a, n.b, n.c, rfl, (TRow (hp.mono hV4) hn (by omega)).mono ?_⟩
  rintro _ V5 hV5 ⟨b, r, rfl, hb, hr⟩
  have ht := (((ht.mono hV3).mono hV4).mono hV5).up (show 1 ≤ 0 + 2 by omega)
  refine ⟨b, r.a.a, r.a.b, r.a.c, r.l.a, r.l.b, r.l.c, 6, rfl, hb, fun _ => ?_⟩
  refine ⟨(LMul hr.1.1 ht.1.1 (by omega)).mono ?_, (LMul hr.1.1 ht.1.1 (by omega)).mono ?_⟩
  all_goals
    rintro _ V6 hV6 ⟨r26, rfl, h26⟩
    have hr := hr.mono hV6
    have ht := ht.mono hV6
    refine ⟨r26, rfl, ?_⟩
    try refine And.intro ?_ ?_
    all_goals
      refine (LMul hr.2.1 ht.2.1 (by omega)).mono ?_
      rintro _ V7 hV7 ⟨r27, rfl, h27⟩
      have h26 := h26.mono hV7
      refine ⟨r27, rfl, fun m28 hm28 => ?_⟩
      have hq := VH.le_put hm28 (.cells #[.bool zero4.x.n, .slice zero4.x.A zero4.x.l.length zero4.x.c, .bool zero4.y.n, .slice zero4.y.A zero4.y.l.length zero4.y.c,
        .bool r26.x.n, .slice r26.x.A r26.x.l.length r26.x.c, .bool r26.y.n, .slice r26.y.A r26.y.l.length r26.y.c, .bool r27.x.n, .slice r27.x.A r27.x.l.length r27.x.c, .bool r27.y.n, .slice r27.y.A r27.y.l.length r27.y.c] 31)
      refine (Sum3 (VH.put_at _ _ _) (RatL.zero _ _) (h26.mono hq) (h27.mono hq) (by omega)).mono ?_
      rintro _ V8 hV8 ⟨r29, rfl, h29⟩
      have hr := ((hr.mono hV7).mono hq).mono hV8
      have ht := ((ht.mono hV7).mono hq).mono hV8
      clear h26 h27 hq hV7 hV6 hm28
      refine ⟨r29, rfl, ?_⟩
      refine ⟨(LMul hr.1.2.1 ht.1.2.1 (by omega)).mono ?_, (LMul hr.1.2.1 ht.1.2.1 (by omega)).mono ?_⟩
      all_goals
        rintro _ V9 hV9 ⟨r30, rfl, h30⟩
        have hr := hr.mono hV9
        have ht := ht.mono hV9
        refine ⟨r30, rfl, ?_⟩
        try refine And.intro ?_ ?_
        all_goals
          refine (LMul hr.2.2.1 ht.2.2.1 (by omega)).mono ?_
          rintro _ V10 hV10 ⟨r31, rfl, h31⟩
          refine ⟨r31, rfl, fun m32 hm32 => ?_⟩
          have hq := VH.le_put hm32 (.cells #[.bool r29.x.n, .slice r29.x.A r29.x.l.length r29.x.c, .bool r29.y.n, .slice r29.y.A r29.y.l.length r29.y.c,
            .bool r30.x.n, .slice r30.x.A r30.x.l.length r30.x.c, .bool r30.y.n, .slice r30.y.A r30.y.l.length r30.y.c, .bool r31.x.n, .slice r31.x.A r31.x.l.length r31.x.c, .bool r31.y.n, .slice r31.y.A r31.y.l.length r31.y.c] 31)
          refine (Sum3 (VH.put_at _ _ _) (((h29.mono hV9).mono hV10).mono hq) (((h30.mono hV10).mono hq).up (show 3 ≤ 6 by omega)) ((h31.mono hq).up (show 3 ≤ 6 by omega)) (by omega)).mono ?_
          rintro _ V11 hV11 ⟨r33, rfl, h33⟩
          have hr := ((hr.mono hV10).mono hq).mono hV11
          have ht := ((ht.mono hV10).mono hq).mono hV11
          clear h30 h31 h29 hq hV10 hV9 hm32
          refine ⟨r33, rfl, ?_⟩
          refine ⟨(LMul hr.1.2.2 ht.1.2.2 (by omega)).mono ?_, (LMul hr.1.2.2 ht.1.2.2 (by omega)).mono ?_⟩
          all_goals
            rintro _ V12 hV12 ⟨r34, rfl, h34⟩
            have hr := hr.mono hV12
            have ht := ht.mono hV12
            refine ⟨r34, rfl, ?_⟩
            try refine And.intro ?_ ?_
            all_goals
              refine (LMul hr.2.2.2 ht.2.2.2 (by omega)).mono ?_
              rintro _ V13 hV13 ⟨r35, rfl, h35⟩
              refine ⟨r35, rfl, fun m36 hm36 => ?_⟩
              have hq := VH.le_put hm36 (.cells #[.bool r33.x.n, .slice r33.x.A r33.x.l.length r33.x.c, .bool r33.y.n, .slice r33.y.A r33.y.l.length r33.y.c,
                .bool r34.x.n, .slice r34.x.A r34.x.l.length r34.x.c, .bool r34.y.n, .slice r34.y.A r34.y.l.length r34.y.c, .bool r35.x.n, .slice r35.x.A r35.x.l.length r35.x.c, .bool r35.y.n, .slice r35.y.A r35.y.l.length r35.y.c] 31)
              refine (Sum3 (VH.put_at _ _ _) (((h33.mono hV12).mono hV13).mono hq) (((h34.mono hV13).mono hq).up (show 3 ≤ 9 by omega)) ((h35.mono hq).up (show 3 ≤ 9 by omega)) (by omega)).mono ?_
              rintro _ V14 hV14 ⟨r37, rfl, h37⟩
              have ht := ((ht.mono hV13).mono hq).mono hV14
              rw [rows_eq] at h37
              clear h33 h34 h35 hq hV12 hV13 hm36 hr
              refine ⟨r37, rfl, (Tpoint hx2 hy2 hz2).mono ?_⟩
              rintro _ V15 hV15 ⟨n', rfl, hn'⟩
              refine ⟨n'.a, n'.b, n'.c, rfl, (Tpoint hx1 hy1 hz1).mono ?_⟩
              rintro _ V16 hV16 ⟨p', rfl, hp'⟩
              refine ⟨p'.a, p'.b, p'.c, rfl, (Tvelocity ((ht.mono hV15).mono hV16) (hp'.up (show 0 ≤ 0 + 2 by omega)) (by omega)).mono ?_⟩
              rintro _ V17 hV17 ⟨w, rfl, hw⟩
              refine ⟨w.a, w.b, w.c, rfl, (VDot (((hn'.mono hV16).mono hV17).up (show 0 ≤ 0 + 2 + 3 by omega)) hw (by omega)).mono ?_⟩
              rintro _ V18 hV18 ⟨r47, rfl, h47⟩
              refine ⟨r47, rfl, (Tequal ((((h37.mono hV15).mono hV16).mono hV17).mono hV18) (h47.up (show 0 + 2 + 3 + 4 ≤ 9 + 3 by omega)) (by omega)).mono ?_⟩
              rintro _ V19 hV19 rfl
              exact ⟨_, rfl, by simp⟩
end Go.Proofs.YteimfmjojadkfaaDoor
