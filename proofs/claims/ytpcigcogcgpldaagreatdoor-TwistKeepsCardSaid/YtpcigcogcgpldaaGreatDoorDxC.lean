/- A text of this claim's own: Dx.OpsSound3. -/
import Derived.Test.YtpcigcogcgpldaaGreatDoorDxB
set_option linter.unusedVariables false
set_option linter.unusedSimpArgs false
set_option linter.unusedVariables false
set_option linter.unusedSimpArgs false
namespace Go.Dx
open Go.RowKit
section
variable {P : Program} {ρ : Nat → Nat}

theorem ev_le' {a b : SI OV} (h : (SB.le' a b).ev = true) : a.ev ≤ b.ev := by rw [SB.le'_ev] at h; exact of_decide_eq_true h
theorem ev_lt' {a b : SI OV} (h : (SB.lt' a b).ev = true) : a.ev < b.ev := by rw [SB.lt'_ev] at h; exact of_decide_eq_true h
theorem lit0 : (SI.lit 0 : SI OV).ev = 0 := by simp [SI.ev]
theorem isSl_ev {x : OV} (h : (SB.isSl x).ev = true) : ∃ A n c, x.v = .slice A n c := by
  simp only [SB.ev, isSlV] at h
  split at h
  · rename_i A n c hx; exact ⟨A, n, c, hx⟩
  · cases h
theorem hasB_ev {x : OV} (h : (SB.hasB x).ev = true) : ∃ a n c, x.v = .slice (some a) n c := by
  simp only [SB.ev, hasBV] at h
  split at h
  · rename_i A n c hx; exact ⟨A, n, c, hx⟩
  · cases h
theorem addr_add2 (a : Addr) (i j : Nat) : (a.add i).add j = a.add (i + j) := by
  unfold Addr.add
  split <;> split <;> simp_all <;> omega
theorem toNat_add_mul {o l : Int} {s : Nat} (ho : 0 ≤ o) (hl : 0 ≤ l) : (o + l * (s : Int)).toNat = o.toNat + l.toNat * s := by
  obtain ⟨a, rfl⟩ := Int.eq_ofNat_of_zero_le ho
  obtain ⟨b, rfl⟩ := Int.eq_ofNat_of_zero_le hl
  have : ((a : Int) + (b : Int) * (s : Int)) = ((a + b * s : Nat) : Int) := by simp
  rw [this]; simp only [Int.toNat_natCast]

set_option maxHeartbeats 2000000 in
theorem opPure_sound {ev : Operand → AV OV} {re : Operand → Value} {o : Oper} (hev : ∀ x ∈ o.op.operands, re x = (ev x).ev ρ) {reqs : List (SB OV)} {a : AV OV}
    (h : opPure P ev o.op = some (reqs, a)) (hr : ∀ c ∈ reqs, c.ev = true) (w : World) : (execOp re o).run P w = .ok (.value (a.ev ρ)) w := by
  unfold execOp
  cases ho : o.op with
  | move x =>
    rw [ho] at h hev; simp only [opPure, Option.some.injEq, Prod.mk.injEq] at h; obtain ⟨_, rfl⟩ := h
    simp [hev x (by simp [Op.operands])]
  | assign x =>
    rw [ho] at h hev; simp only [opPure, Option.some.injEq, Prod.mk.injEq] at h; obtain ⟨_, rfl⟩ := h
    simp [hev x (by simp [Op.operands])]
  | pick c x y =>
    rw [ho] at h hev; simp only [opPure] at h
    have e1 := hev c (by simp [Op.operands]); have e2 := hev x (by simp [Op.operands]); have e3 := hev y (by simp [Op.operands])
    simp only [e1, e2, e3, Sem.run_bind]
    split at h
    · rename_i hc; simp only [Option.some.injEq, Prod.mk.injEq] at h; obtain ⟨_, rfl⟩ := h
      simp [hc, AV.ev, SC.ev, SB.ev, asBool]
    · rename_i hc; simp only [Option.some.injEq, Prod.mk.injEq] at h; obtain ⟨_, rfl⟩ := h
      simp [hc, AV.ev, SC.ev, SB.ev, asBool]
    · rename_i sc _ _ hc
      split at h
      · rename_i sa sb ha hb
        simp only [Option.some.injEq, Prod.mk.injEq] at h; obtain ⟨_, rfl⟩ := h
        simp only [hc, ha, hb, AV.ev, SC.ev, asBool, Sem.run_pure, Result.andThen_ok, SB.ite'_ev]
        cases sc.ev <;> rfl
      · cases h
    · cases h
  | build t parts =>
    rw [ho] at h hev; simp only [opPure] at h
    split at h
    · rename_i hs
      simp only [Bool.and_eq_true] at hs
      split at h
      · rename_i z pl hz hp
        simp only [Option.map_eq_some_iff, Prod.mk.injEq] at h
        obtain ⟨cs, hf, _, rfl⟩ := h
        have := build_sound (ρ := ρ) hs.1 hz hp hf (by
          intro p hp'
          obtain ⟨q, hq, rfl⟩ := List.mem_map.1 hp'
          exact List.all_eq_true.1 hs.2 q hq) w
        have e : (parts.map fun (i, x) => (i, re x)) = ((parts.toList.map fun p => (p.1, ev p.2)).map fun p => (p.1, p.2.ev ρ)).toArray := by
          apply Array.ext'
          simp only [Array.toList_map, List.map_map]
          apply List.map_congr_left
          intro p hp
          simp only [Function.comp]
          rw [hev p.2 (by simp only [Op.operands, List.mem_toArray]; exact List.mem_map.2 ⟨p, hp, rfl⟩)]
        simp only [Sem.run_bind]
        rw [e, this]
        simp [AV.ev]
      · cases h
    · cases h
  | nilCheck x =>
    rw [ho] at h hev; simp only [opPure] at h
    simp only [hev x (by simp [Op.operands])]
    split at h <;> first
      | (rename_i hx; simp only [Option.some.injEq, Prod.mk.injEq] at h; obtain ⟨_, rfl⟩ := h; rw [hx]; rfl)
      | cases h
  | binOp op t x y yt =>
    rw [ho] at h hev; simp only [opPure] at h
    have := binT_sound (ρ := ρ) h hr x y w
    simp only [hev x (by simp [Op.operands]), hev y (by simp [Op.operands])]
    rw [Sem.run_bind, this]
    rfl
  | unOp op t x =>
    rw [ho] at h hev; simp only [opPure] at h
    simp only [hev x (by simp [Op.operands])]
    split at h
    · rename_i hx; simp only [Option.some.injEq, Prod.mk.injEq] at h; obtain ⟨_, rfl⟩ := h
      simp [hx, AV.ev, SC.ev, Op.unary, Op.intArith, SI.wrap'_ev, SI.sub'_ev, SI.ev]
    · rename_i hx; simp only [Option.some.injEq, Prod.mk.injEq] at h; obtain ⟨_, rfl⟩ := h
      simp [hx, AV.ev, SC.ev, Op.unary, SB.not'_ev]
    · cases h
  | convert src dst x =>
    rw [ho] at h hev; simp only [opPure] at h
    simp only [hev x (by simp [Op.operands])]
    split at h
    · rename_i d k k' n hs hd hx
      simp only [Option.some.injEq, Prod.mk.injEq] at h; obtain ⟨_, rfl⟩ := h
      simp only [hx, AV.ev, SC.ev, Sem.run_bind, SI.wrap'_ev]
      have : (convert src dst (.int k' n.ev)).run P w = .ok (.int k (k.wrap n.ev)) w := by
        unfold convert
        simp only [Sem.run_bind, run_underlying hs, run_underlying hd, Result.andThen_ok]
        cases d <;> rfl
      rw [this]; rfl
    · rename_i d s hs hd hx
      simp only [Option.some.injEq, Prod.mk.injEq] at h; obtain ⟨_, rfl⟩ := h
      simp only [hx, AV.ev, SC.ev, Sem.run_bind]
      have : (convert src dst (.string s.ev)).run P w = .ok (.string s.ev) w := by
        unfold convert
        simp only [Sem.run_bind, run_underlying hs, run_underlying hd, Result.andThen_ok]
        cases d <;> rfl
      rw [this]; rfl
    · cases h
  | sliceToArrayPointer arr x =>
    rw [ho] at h hev; simp only [opPure] at h
    simp only [hev x (by simp [Op.operands])]
    split at h
    · rename_i n e b off len cap hu hx
      split at h
      · rename_i hle
        simp only [Option.some.injEq, Prod.mk.injEq] at h; obtain ⟨_, rfl⟩ := h
        have hl : (SI.lit (Int.ofNat len) : SI OV).ev.toNat = len := by simp [SI.ev]
        simp only [hx, AV.ev, SC.ev, hl, Instr.arrayAt, Sem.run_bind, run_underlying hu, Result.andThen_ok, Sem.run_ite]
        rw [if_neg (by omega)]; rfl
      · cases h
    · rename_i n e xx hu hx
      simp only [Option.some.injEq, Prod.mk.injEq] at h; obtain ⟨rfl, rfl⟩ := h
      obtain ⟨A, m, c, hv⟩ := isSl_ev (hr (SB.isSl xx) (by simp))
      have c1 := ev_le' (hr (SB.le' (natI n) (.lenv xx)) (by simp))
      rw [natI_ev] at c1
      have el : (SI.lenv xx).ev = (m : Int) := by simp [SI.ev, hv, lenV]
      rw [el] at c1
      simp only [hx, AV.ev, SC.ev, hv, Instr.arrayAt, Sem.run_bind, run_underlying hu, Result.andThen_ok, Sem.run_ite, eptrV, natI_ev]
      rw [if_neg (by omega)]
      cases A <;> simp [Addr.add]
    · rename_i n e xx len hu hx
      simp only [Option.some.injEq, Prod.mk.injEq] at h; obtain ⟨rfl, rfl⟩ := h
      obtain ⟨A, m, c, hv⟩ := isSl_ev (hr (SB.isSl xx) (by simp))
      have c1 := ev_le' (hr (SB.le' (natI n) len) (by simp))
      rw [natI_ev] at c1
      simp only [hx, AV.ev, SC.ev, hv, cutV, Instr.arrayAt, Sem.run_bind, run_underlying hu, Result.andThen_ok, Sem.run_ite, eptrV, natI_ev]
      rw [if_neg (by omega)]
      cases A <;> simp [Addr.add]
    · rename_i n e s xx l hh hu hx
      simp only [Option.some.injEq, Prod.mk.injEq] at h; obtain ⟨rfl, rfl⟩ := h
      obtain ⟨A, m, c, hv⟩ := isSl_ev (hr (SB.isSl xx) (by simp))
      have c0 := ev_le' (hr (SB.le' (.lit 0) l) (by simp))
      have c1 := ev_le' (hr (SB.le' (natI n) (SI.sub' hh l)) (by simp))
      have c2 := ev_lt' (hr (SB.lt' l (.capv xx)) (by simp))
      rw [lit0] at c0
      rw [natI_ev, SI.sub'_ev] at c1
      have el : (SI.capv xx).ev = (c : Int) := by simp [SI.ev, hv, capV]
      rw [el] at c2
      simp only [hx, AV.ev, SC.ev, hv, Instr.arrayAt, Sem.run_bind, run_underlying hu, Result.andThen_ok, Sem.run_ite, eptrV, cut2V, SI.mul'_ev, natI_ev]
      rw [if_neg (by omega), if_neg (by omega)]
      have e2 : (l.ev * (s : Int)).toNat = l.ev.toNat * s := by
        have := toNat_add_mul (o := 0) (s := s) (Int.le_refl 0) c0
        simpa using this
      cases A <;> simp [e2]
    · cases h
  | makeFunc fn first captured =>
    rw [ho] at h hev
    cases fn <;> simp only [opPure, reduceCtorEq] at h
    rename_i f
    split at h
    · rename_i hf
      simp only [Option.map_eq_some_iff, Prod.mk.injEq] at h
      obtain ⟨l, hl, _, rfl⟩ := h
      have hf' : first = #[] := by simpa using hf
      have e := capPtrs_ev (ρ := ρ) hl
      have e2 : captured.map re = (l.map (ptrV ρ)).toArray := by
        apply Array.ext'
        rw [← e]
        simp only [Array.toList_map, List.map_map]
        apply List.map_congr_left
        intro x hx
        exact hev x (by simp only [Op.operands, hf']; simpa using hx)
      simp only [Instr.makeFunc, hf', e2, Sem.run_bind, Sem.run_pure, Result.andThen_ok, AV.ev, SC.ev, Array.map_empty]
    · cases h
  | slice t x lo hi mx =>
    rw [ho] at h hev; simp only [opPure] at h
    have ex := hev x (by simp [Op.operands])
    have elo : lo.map re = (lo.map ev).map (AV.ev ρ) := by
      cases lo with
      | none => rfl
      | some l => simp only [Option.map_some]; rw [hev l (by simp [Op.operands])]
    have ehi : hi.map re = (hi.map ev).map (AV.ev ρ) := by
      cases hi with
      | none => rfl
      | some l => simp only [Option.map_some]; rw [hev l (by simp [Op.operands])]
    cases mx with
    | some _ => simp at h
    | none =>
    simp only at h
    simp only [ex, elo, ehi, Option.map_none]
    split at h
    · rename_i n e b off hu hx
      split at h
      · rename_i s l hh hs hl hhi
        simp only [Option.some.injEq, Prod.mk.injEq] at h; obtain ⟨rfl, rfl⟩ := h
        have c0 := ev_le' (hr _ (by simp) : (SB.le' (.lit 0) off).ev = true)
        have c1 := ev_le' (hr (SB.le' (.lit 0) l) (by simp))
        have c2 := ev_le' (hr (SB.le' l hh) (by simp))
        have c3 := ev_le' (hr (SB.le' hh (natI n)) (by simp))
        have c4 := ev_lt' (hr (SB.lt' l (natI n)) (by simp))
        rw [lit0] at c0 c1
        rw [natI_ev] at c3 c4
        simp only [hx, AV.ev, SC.ev, Instr.sliceAt, Sem.run_bind, run_underlying hu, Result.andThen_ok, Instr.sureAddr, Sem.run_pure, run_bounds (isSlice := false) (len := n) (cap := n) hl hhi (natI_ev n) c1 c2 c3, run_size hs, SI.add'_ev, SI.sub'_ev, SI.mul'_ev, natI_ev]
        rw [if_neg (by omega), addr_add, toNat_add_mul c0 c1]
        have e1 : hh.ev.toNat - l.ev.toNat = (hh.ev - l.ev).toNat := by omega
        have e2 : n - l.ev.toNat = ((n : Int) - l.ev).toNat := by omega
        rw [e1, e2]
      · cases h
    · rename_i e b off len cap hu hx
      split at h
      · rename_i s l hh hs hl hhi
        simp only [Option.some.injEq, Prod.mk.injEq] at h; obtain ⟨rfl, rfl⟩ := h
        have c0 := ev_le' (hr _ (by simp) : (SB.le' (.lit 0) off).ev = true)
        have c1 := ev_le' (hr (SB.le' (.lit 0) l) (by simp))
        have c2 := ev_le' (hr (SB.le' l hh) (by simp))
        have c3 := ev_le' (hr (SB.le' hh cap) (by simp))
        have c4 := ev_lt' (hr (SB.lt' l cap) (by simp))
        rw [lit0] at c0 c1
        by_cases hn : hi = none
        · subst hn
          have hlen : hh = len := by simp only [Option.map_none, optI, Option.some.injEq] at hhi; exact hhi.symm
          subst hlen
          have hb := run_bounds (P := P) (ρ := ρ) (isSlice := true) (len := hh.ev.toNat) (cap := cap.ev.toNat) hl hhi (by omega) c1 c2 (by omega) w
          simp only [hx, AV.ev, SC.ev, Instr.sliceAt, Instr.slice, Sem.run_bind, run_underlying hu, Result.andThen_ok, Sem.run_pure, hb, run_size hs, SI.add'_ev, SI.sub'_ev, SI.mul'_ev, natI_ev]
          rw [if_neg (by omega)]
          simp only [Option.map_some, addr_add]
          rw [toNat_add_mul c0 c1]
          have e1 : hh.ev.toNat - l.ev.toNat = (hh.ev - l.ev).toNat := by omega
          have e2 : cap.ev.toNat - l.ev.toNat = (cap.ev - l.ev).toNat := by omega
          rw [e1, e2]
        · obtain ⟨y, rfl⟩ := Option.ne_none_iff_exists'.1 hn
          have hhi' : optI (some (ev y)) (natI len.ev.toNat) = some hh := hhi
          have hb := run_bounds (P := P) (ρ := ρ) (isSlice := true) (len := len.ev.toNat) (cap := cap.ev.toNat) hl hhi' (natI_ev _) c1 c2 (by omega) w
          rw [hx]
          simp only [Option.map_some] at hb ⊢
          generalize AV.ev ρ (ev y) = vy at hb ⊢
          simp only [AV.ev, SC.ev, Instr.sliceAt, Instr.slice, Sem.run_bind, run_underlying hu, Result.andThen_ok, Sem.run_pure, hb, run_size hs, SI.add'_ev, SI.sub'_ev, SI.mul'_ev, natI_ev]
          rw [if_neg (by omega)]
          simp only [Option.map_some, addr_add]
          rw [toNat_add_mul c0 c1]
          have e1 : hh.ev.toNat - l.ev.toNat = (hh.ev - l.ev).toNat := by omega
          have e2 : cap.ev.toNat - l.ev.toNat = (cap.ev - l.ev).toNat := by omega
          rw [e1, e2]
      · cases h
    · rename_i e xx hu hx
      split at h
      · rename_i s0 hh hs hhi
        simp only [Option.some.injEq, Prod.mk.injEq] at h; obtain ⟨rfl, rfl⟩ := h
        obtain ⟨A, n, c, hv⟩ := isSl_ev (hr (SB.isSl xx) (by simp))
        have c1 := ev_le' (hr (SB.le' (.lit 0) hh) (by simp))
        have c3 := ev_le' (hr (SB.le' hh (.capv xx)) (by simp))
        rw [lit0] at c1
        have ec : (SI.capv xx).ev = (c : Int) := by simp [SI.ev, hv, capV]
        rw [ec] at c3
        have hb := run_bounds (P := P) (ρ := ρ) (isSlice := true) (len := n) (cap := c) (l := natI 0) (lo := none) rfl hhi (by simp [SI.ev, hv, lenV]) (by rw [natI_ev]; omega) (by rw [natI_ev]; omega) c3 w
        simp only [Option.map_none] at hb
        simp only [hx, AV.ev, SC.ev, hv, Instr.sliceAt, Instr.slice, Sem.run_bind, run_underlying hu, Result.andThen_ok, Sem.run_pure, Option.map_none, hb, run_size hs, natI_ev, cutV]
        have e1 : (A.map fun x => x.add (((0 : Nat) : Int).toNat * s0)) = A := by
          cases A with
          | none => rfl
          | some ad => simp [Addr.add]
        simp [e1, Addr.add]
      · rename_i lo' s0 hh hs hhi
        split at h
        · rename_i l hl0
          simp only [Option.some.injEq, Prod.mk.injEq] at h; obtain ⟨rfl, rfl⟩ := h
          obtain ⟨A, n, c, hv⟩ := isSl_ev (hr (SB.isSl xx) (by simp))
          have c1 := ev_le' (hr (SB.le' (.lit 0) l) (by simp))
          have c2 := ev_le' (hr (SB.le' l hh) (by simp))
          have c3 := ev_le' (hr (SB.le' hh (.capv xx)) (by simp))
          rw [lit0] at c1
          have ec : (SI.capv xx).ev = (c : Int) := by simp [SI.ev, hv, capV]
          rw [ec] at c3
          have hb := run_bounds (P := P) (ρ := ρ) (isSlice := true) (len := n) (cap := c) (l := l) (lo := some (ev lo')) hl0 hhi (by simp [SI.ev, hv, lenV]) c1 c2 c3 w
          rw [hx]
          simp only [Option.map_some] at hb ⊢
          generalize AV.ev ρ (ev lo') = vy at hb ⊢
          simp only [AV.ev, SC.ev, hv, Instr.sliceAt, Instr.slice, Sem.run_bind, run_underlying hu, Result.andThen_ok, Sem.run_pure, hb, run_size hs, cut2V]
        · cases h
      · cases h
    · rename_i e xx len hu hx
      split at h
      · rename_i s0 hh hs hhi
        simp only [Option.some.injEq, Prod.mk.injEq] at h; obtain ⟨rfl, rfl⟩ := h
        obtain ⟨A, n, c, hv⟩ := isSl_ev (hr (SB.isSl xx) (by simp))
        have c0 := ev_le' (hr (SB.le' (.lit 0) len) (by simp))
        have c1 := ev_le' (hr (SB.le' (.lit 0) hh) (by simp))
        have c3 := ev_le' (hr (SB.le' hh (.capv xx)) (by simp))
        rw [lit0] at c0 c1
        have ec : (SI.capv xx).ev = (c : Int) := by simp [SI.ev, hv, capV]
        rw [ec] at c3
        have hb := run_bounds (P := P) (ρ := ρ) (isSlice := true) (len := len.ev.toNat) (cap := c) (l := natI 0) (lo := none) rfl hhi (by omega) (by rw [natI_ev]; omega) (by rw [natI_ev]; omega) c3 w
        simp only [Option.map_none] at hb
        simp only [hx, AV.ev, SC.ev, hv, cutV, Instr.sliceAt, Instr.slice, Sem.run_bind, run_underlying hu, Result.andThen_ok, Sem.run_pure, Option.map_none, hb, run_size hs, natI_ev]
        have e1 : (A.map fun x => x.add (((0 : Nat) : Int).toNat * s0)) = A := by
          cases A with
          | none => rfl
          | some ad => simp [Addr.add]
        simp [e1, Addr.add]
      · cases h
    · rename_i s hu hx
      split at h
      · rename_i l hh hl hhi
        simp only [Option.some.injEq, Prod.mk.injEq] at h; obtain ⟨rfl, rfl⟩ := h
        have c1 := ev_le' (hr (SB.le' (.lit 0) l) (by simp))
        have c2 := ev_le' (hr (SB.le' l hh) (by simp))
        have c3 := ev_le' (hr (SB.le' hh (SS.len' s)) (by simp))
        rw [lit0] at c1
        rw [SS.len'_ev] at c3
        have hb := run_bounds (P := P) (ρ := ρ) (isSlice := false) (len := s.ev.size) (cap := s.ev.size) hl hhi (SS.len'_ev s) c1 c2 c3 w
        simp only [hx, AV.ev, SC.ev, Instr.sliceAt, Instr.slice, Sem.run_bind, run_underlying hu, Result.andThen_ok, Sem.run_pure, hb, Option.isSome_none, Bool.false_eq_true, if_false, SS.ev]
      · cases h
    · cases h
  | fieldAddr s x f =>
    rw [ho] at h hev; simp only [opPure] at h
    simp only [hev x (by simp [Op.operands])]
    split at h
    · rename_i fs b off hu hx
      split at h
      · rename_i fd hfd
        split at h
        · rename_i n hn
          simp only [Option.some.injEq, Prod.mk.injEq] at h; obtain ⟨rfl, rfl⟩ := h
          have c0 := ev_le' (hr _ (by simp) : (SB.le' (.lit 0) off).ev = true)
          rw [lit0] at c0
          simp only [hx, AV.ev, SC.ev, Instr.fieldAt, Sem.run_bind, run_underlying hu, Result.andThen_ok, hfd, Instr.sureAddr, Sem.run_pure, fieldPlace, run_size hn, Sem.run_ite, SI.add'_ev, natI_ev]
          rw [if_neg (by omega), Result.andThen_ok, addr_add]
          have : (off.ev + (fd.offset : Int)).toNat = off.ev.toNat + fd.offset := by omega
          rw [this]; rfl
        · cases h
      · cases h
    · rename_i fs xx off hu hx
      split at h
      · rename_i fd hfd
        split at h
        · rename_i n hn
          simp only [Option.some.injEq, Prod.mk.injEq] at h; obtain ⟨rfl, rfl⟩ := h
          obtain ⟨ad, m, c, hv⟩ := hasB_ev (hr (SB.hasB xx) (by simp))
          have c0 := ev_le' (hr _ (by simp) : (SB.le' (.lit 0) off).ev = true)
          rw [lit0] at c0
          simp only [hx, AV.ev, SC.ev, hv, eptrV, Instr.fieldAt, Sem.run_bind, run_underlying hu, Result.andThen_ok, hfd, Instr.sureAddr, Sem.run_pure, fieldPlace, run_size hn, Sem.run_ite, SI.add'_ev, natI_ev]
          rw [if_neg (by omega), Result.andThen_ok]
          have : (off.ev + (fd.offset : Int)).toNat = off.ev.toNat + fd.offset := by omega
          rw [this, addr_add2]; rfl
        · cases h
      · cases h
    · cases h
  | field t x f =>
    rw [ho] at h hev; simp only [opPure] at h
    simp only [hev x (by simp [Op.operands])]
    split at h
    · rename_i fs cs hu hx
      split at h
      · rename_i fd hfd
        simp only [Option.map_eq_some_iff, Prod.mk.injEq] at h
        obtain ⟨a', ha, _, rfl⟩ := h
        simp only [hx, AV.ev, Instr.field, Sem.run_bind, run_underlying hu, Result.andThen_ok, hfd, asAgg, Sem.run_pure, run_part ha]
      · cases h
    · cases h
  | indexAddr t x ix =>
    rw [ho] at h hev; simp only [opPure] at h
    simp only [hev x (by simp [Op.operands]), hev ix (by simp [Op.operands])]
    split at h
    · rename_i n e b off i hu hx hi
      split at h
      · rename_i s hs
        simp only [Option.some.injEq, Prod.mk.injEq] at h; obtain ⟨rfl, rfl⟩ := h
        have c0 := ev_le' (hr _ (by simp) : (SB.le' (.lit 0) off).ev = true)
        have c1 := ev_le' (hr (SB.le' (.lit 0) i) (by simp))
        have c2 := ev_lt' (hr (SB.lt' i (natI n)) (by simp))
        rw [lit0] at c0 c1; rw [natI_ev] at c2
        obtain ⟨k, hk⟩ := intA_ev (ρ := ρ) hi
        rw [hk, hx]
        simp only [AV.ev, SC.ev, Instr.indexAt, asIntOf, Sem.run_bind, run_underlying hu, Result.andThen_ok, Instr.sureAddr, Sem.run_pure, Sem.run_ite, run_size hs, SI.add'_ev, SI.mul'_ev, natI_ev]
        rw [if_pos (by omega), toNat_add_mul c0 c1]
        simp [addr_add]
      · cases h
    · rename_i e b off len cap i hu hx hi
      split at h
      · rename_i s hs
        simp only [Option.some.injEq, Prod.mk.injEq] at h; obtain ⟨rfl, rfl⟩ := h
        have c0 := ev_le' (hr _ (by simp) : (SB.le' (.lit 0) off).ev = true)
        have c1 := ev_le' (hr (SB.le' (.lit 0) i) (by simp))
        have c2 := ev_lt' (hr (SB.lt' i len) (by simp))
        rw [lit0] at c0 c1
        obtain ⟨k, hk⟩ := intA_ev (ρ := ρ) hi
        rw [hk, hx]
        simp only [AV.ev, SC.ev, Instr.indexAt, asIntOf, Sem.run_bind, run_underlying hu, Result.andThen_ok, Instr.sureAddr, Sem.run_pure, Sem.run_ite, run_size hs, SI.add'_ev, SI.mul'_ev, natI_ev]
        rw [if_pos (by omega), toNat_add_mul c0 c1]
        simp [addr_add]
      · cases h
    · rename_i e xx i hu hx hi
      have main : ∀ s : Nat, szT P e = some s → (SB.hasB xx).ev = true → (SB.le' (.lit 0) i).ev = true → (SB.lt' i (.lenv xx)).ev = true → (Instr.indexAt t ((ev x).ev ρ) ((ev ix).ev ρ)).run P w = .ok (eptrV xx.v (i.ev * (s : Int))) w := by
        intro s hs h1 h2 h3
        obtain ⟨ad, n, c, hv⟩ := hasB_ev h1
        have c1 := ev_le' h2
        have c2 := ev_lt' h3
        rw [lit0] at c1
        have el : (SI.lenv xx).ev = (n : Int) := by simp [SI.ev, hv, lenV]
        rw [el] at c2
        obtain ⟨k, hk⟩ := intA_ev (ρ := ρ) hi
        rw [hk, hx]
        simp only [AV.ev, SC.ev, hv, eptrV, Instr.indexAt, asIntOf, Sem.run_bind, run_underlying hu, Result.andThen_ok, Sem.run_pure, Sem.run_ite, run_size hs]
        rw [if_pos (by omega)]
        have e2 : (i.ev * (s : Int)).toNat = i.ev.toNat * s := by simpa using toNat_add_mul (o := 0) (s := s) (Int.le_refl 0) c1
        simp [e2]
      split at h
      · rename_i hs _
        simp only [Option.some.injEq, Prod.mk.injEq] at h; obtain ⟨rfl, rfl⟩ := h
        have := main 1 hs (hr _ (by simp)) (hr _ (by simp)) (hr _ (by simp))
        rw [Sem.run_bind, this]
        simp [AV.ev, SC.ev]
      · rename_i s hs _
        simp only [Option.some.injEq, Prod.mk.injEq] at h; obtain ⟨rfl, rfl⟩ := h
        have := main _ hs (hr _ (by simp)) (hr _ (by simp)) (hr _ (by simp))
        rw [Sem.run_bind, this]
        simp [AV.ev, SC.ev, SI.mul'_ev, natI_ev]
      · cases h
    · rename_i e xx len i hu hx hi
      have main : ∀ s : Nat, szT P e = some s → (SB.hasB xx).ev = true → (SB.le' (.lit 0) len).ev = true → (SB.le' (.lit 0) i).ev = true → (SB.lt' i len).ev = true → (Instr.indexAt t ((ev x).ev ρ) ((ev ix).ev ρ)).run P w = .ok (eptrV xx.v (i.ev * (s : Int))) w := by
        intro s hs h1 h0 h2 h3
        obtain ⟨ad, n, c, hv⟩ := hasB_ev h1
        have c0 := ev_le' h0
        have c1 := ev_le' h2
        have c2 := ev_lt' h3
        rw [lit0] at c0 c1
        obtain ⟨k, hk⟩ := intA_ev (ρ := ρ) hi
        rw [hk, hx]
        simp only [AV.ev, SC.ev, hv, cutV, eptrV, Instr.indexAt, asIntOf, Sem.run_bind, run_underlying hu, Result.andThen_ok, Sem.run_pure, Sem.run_ite, run_size hs]
        rw [if_pos (by omega)]
        have e2 : (i.ev * (s : Int)).toNat = i.ev.toNat * s := by simpa using toNat_add_mul (o := 0) (s := s) (Int.le_refl 0) c1
        simp [e2]
      split at h
      · rename_i hs _
        simp only [Option.some.injEq, Prod.mk.injEq] at h; obtain ⟨rfl, rfl⟩ := h
        have := main 1 hs (hr _ (by simp)) (hr _ (by simp)) (hr _ (by simp)) (hr _ (by simp))
        rw [Sem.run_bind, this]
        simp [AV.ev, SC.ev]
      · rename_i s hs _
        simp only [Option.some.injEq, Prod.mk.injEq] at h; obtain ⟨rfl, rfl⟩ := h
        have := main _ hs (hr _ (by simp)) (hr _ (by simp)) (hr _ (by simp)) (hr _ (by simp))
        rw [Sem.run_bind, this]
        simp [AV.ev, SC.ev, SI.mul'_ev, natI_ev]
      · cases h
    · rename_i e s' xx l hh i hu hx hi
      split at h
      · rename_i s hs
        split at h
        · rename_i hse
          subst hse
          simp only [Option.some.injEq, Prod.mk.injEq] at h; obtain ⟨rfl, rfl⟩ := h
          obtain ⟨ad, n, c, hv⟩ := hasB_ev (hr (SB.hasB xx) (by simp))
          have c0 := ev_le' (hr (SB.le' (.lit 0) l) (by simp))
          have c1 := ev_le' (hr (SB.le' (.lit 0) i) (by simp))
          have c2 := ev_lt' (hr (SB.lt' i (SI.sub' hh l)) (by simp))
          have c3 := ev_lt' (hr (SB.lt' l (.capv xx)) (by simp))
          rw [lit0] at c0 c1
          rw [SI.sub'_ev] at c2
          have el : (SI.capv xx).ev = (c : Int) := by simp [SI.ev, hv, capV]
          rw [el] at c3
          obtain ⟨k, hk⟩ := intA_ev (ρ := ρ) hi
          rw [hk, hx]
          simp only [AV.ev, SC.ev, hv, cut2V, eptrV, Instr.indexAt, asIntOf, Sem.run_bind, run_underlying hu, Result.andThen_ok, Sem.run_pure, Sem.run_ite, run_size hs, SI.mul'_ev, SI.add'_ev, natI_ev]
          rw [if_neg (by omega)]
          simp only [Option.map_some]
          rw [if_pos (by omega)]
          have e2 : ((l.ev + i.ev) * (s : Int)).toNat = l.ev.toNat * s + i.ev.toNat * s := by
            have h1 := toNat_add_mul (o := 0) (l := l.ev + i.ev) (s := s) (Int.le_refl 0) (by omega)
            have h2 : (l.ev + i.ev).toNat = l.ev.toNat + i.ev.toNat := by omega
            rw [h2, Nat.add_mul] at h1
            simpa using h1
          rw [e2]
          simp only [Sem.run_bind, run_size hs, Result.andThen_ok, Sem.run_pure, addr_add2]
        · cases h
      · cases h
    · rename_i n e xx off i hu hx hi
      split at h
      · rename_i s hs
        simp only [Option.some.injEq, Prod.mk.injEq] at h; obtain ⟨rfl, rfl⟩ := h
        obtain ⟨ad, m, c, hv⟩ := hasB_ev (hr (SB.hasB xx) (by simp))
        have c0 := ev_le' (hr (SB.le' (.lit 0) off) (by simp))
        have c1 := ev_le' (hr (SB.le' (.lit 0) i) (by simp))
        have c2 := ev_lt' (hr (SB.lt' i (natI n)) (by simp))
        rw [lit0] at c0 c1; rw [natI_ev] at c2
        obtain ⟨k, hk⟩ := intA_ev (ρ := ρ) hi
        rw [hk, hx]
        simp only [AV.ev, SC.ev, hv, eptrV, Instr.indexAt, asIntOf, Sem.run_bind, run_underlying hu, Result.andThen_ok, Instr.sureAddr, Sem.run_pure, Sem.run_ite, run_size hs, SI.add'_ev, SI.mul'_ev, natI_ev]
        rw [if_pos (by omega), toNat_add_mul c0 c1]
        simp [addr_add2]
      · cases h
    · cases h
  | index t x ix =>
    rw [ho] at h hev; simp only [opPure] at h
    simp only [hev x (by simp [Op.operands]), hev ix (by simp [Op.operands])]
    split at h
    · rename_i n e cs hu hx
      split at h
      · rename_i i s hi hs
        split at h
        · rename_i hlt
          simp only [Option.map_eq_some_iff, Prod.mk.injEq] at h
          obtain ⟨a', ha, _, rfl⟩ := h
          obtain ⟨k, hk⟩ := litN_ev (ρ := ρ) hi
          rw [hk, hx]
          simp only [AV.ev, Instr.index, asIntOf, Sem.run_bind, run_underlying hu, Result.andThen_ok, Sem.run_pure, Sem.run_ite, run_size hs]
          rw [if_pos (by omega)]
          simp only [Result.andThen_ok, Int.toNat_natCast, run_part ha]
          cases a' <;> rfl
        · cases h
      · cases h
    · rename_i s hu hx
      split at h
      · rename_i i hi
        simp only [Option.some.injEq, Prod.mk.injEq] at h; obtain ⟨rfl, rfl⟩ := h
        have c1 := ev_le' (hr (SB.le' (.lit 0) i) (by simp))
        have c2 := ev_lt' (hr (SB.lt' i (SS.len' s)) (by simp))
        rw [lit0] at c1; rw [SS.len'_ev] at c2
        obtain ⟨k, hk⟩ := intA_ev (ρ := ρ) hi
        rw [hk, hx]
        have hlt : i.ev.toNat < s.ev.size := by omega
        have hb : s.ev[i.ev.toNat]? = some (s.ev[i.ev.toNat]'hlt) := by simp [hlt]
        simp only [AV.ev, SC.ev, Instr.index, asIntOf, Sem.run_bind, run_underlying hu, Result.andThen_ok, Sem.run_pure, SI.ev, btV, hb]
        rw [if_pos c1]
        rfl
      · cases h
    · cases h
  | extract x i =>
    rw [ho] at h hev; simp only [opPure] at h
    simp only [hev x (by simp [Op.operands])]
    split at h
    · rename_i vs hx
      split at h
      · rename_i cs hi
        simp only [Option.some.injEq, Prod.mk.injEq] at h; obtain ⟨_, rfl⟩ := h
        simp [hx, AV.ev, Instr.extract, hi, aggV]
      · rename_i c hi
        simp only [Option.some.injEq, Prod.mk.injEq] at h; obtain ⟨_, rfl⟩ := h
        simp [hx, AV.ev, Instr.extract, hi, aggV]
      · cases h
    · cases h
  | call c =>
    obtain ⟨callee, args, ts⟩ := c
    rw [ho] at h hev
    cases callee with
    | value f => simp [opPure] at h
    | invoke r m => simp [opPure] at h
    | builtin b =>
      cases b <;> simp only [opPure, reduceCtorEq] at h
      case len =>
        split at h
        · rename_i x t hx ht
          have hx' : args = #[x] := by apply Array.ext'; simpa using hx
          have ht' : ts = #[t] := by apply Array.ext'; simpa using ht
          subst hx'; subst ht'
          have ex := hev x (by simp [Op.operands, Call.operands])
          split at h
          · rename_i s hu hxe
            simp only [Option.some.injEq, Prod.mk.injEq] at h; obtain ⟨_, rfl⟩ := h
            simp [resolve, invoke, builtin, Builtin.len_, ex, hxe, AV.ev, SC.ev, run_underlying hu, goInt, SS.len'_ev]
          · rename_i e b off len cap hu hxe
            simp only [Option.some.injEq, Prod.mk.injEq] at h; obtain ⟨rfl, rfl⟩ := h
            have c0 := ev_le' (hr (SB.le' (.lit 0) len) (by simp))
            rw [lit0] at c0
            have e : ((len.ev.toNat : Nat) : Int) = len.ev := by omega
            simp [resolve, invoke, builtin, Builtin.len_, ex, hxe, AV.ev, SC.ev, run_underlying hu, goInt]; omega
          · rename_i e xx hu hxe
            simp only [Option.some.injEq, Prod.mk.injEq] at h; obtain ⟨rfl, rfl⟩ := h
            obtain ⟨A, n, c, hv⟩ := isSl_ev (hr (SB.isSl xx) (by simp))
            simp [resolve, invoke, builtin, Builtin.len_, ex, hxe, AV.ev, SC.ev, hv, run_underlying hu, goInt, SI.ev, lenV]
          · rename_i e xx len hu hxe
            simp only [Option.some.injEq, Prod.mk.injEq] at h; obtain ⟨rfl, rfl⟩ := h
            obtain ⟨A, n, c, hv⟩ := isSl_ev (hr (SB.isSl xx) (by simp))
            have c0 := ev_le' (hr (SB.le' (.lit 0) len) (by simp))
            rw [lit0] at c0
            simp [resolve, invoke, builtin, Builtin.len_, ex, hxe, AV.ev, SC.ev, hv, cutV, run_underlying hu, goInt]; omega
          · rename_i e s' xx l hh hu hxe
            simp only [Option.some.injEq, Prod.mk.injEq] at h; obtain ⟨rfl, rfl⟩ := h
            obtain ⟨A, n, c, hv⟩ := isSl_ev (hr (SB.isSl xx) (by simp))
            have c0 := ev_le' (hr (SB.le' (.lit 0) l) (by simp))
            have c1 := ev_le' (hr (SB.le' l hh) (by simp))
            rw [lit0] at c0
            simp [resolve, invoke, builtin, Builtin.len_, ex, hxe, AV.ev, SC.ev, hv, cut2V, run_underlying hu, goInt, SI.sub'_ev]; omega
          · rename_i e hu hxe
            simp only [Option.some.injEq, Prod.mk.injEq] at h; obtain ⟨_, rfl⟩ := h
            simp [resolve, invoke, builtin, Builtin.len_, ex, hxe, AV.ev, SC.ev, run_underlying hu, goInt, natI_ev]
          · rename_i n e hu
            simp only [Option.some.injEq, Prod.mk.injEq] at h; obtain ⟨_, rfl⟩ := h
            simp [resolve, invoke, builtin, Builtin.len_, ex, AV.ev, SC.ev, run_underlying hu, goInt, natI_ev]
          · cases h
        · cases h
      case max =>
        split at h
        · rename_i x y hx
          have hx' : args = #[x, y] := by apply Array.ext'; simpa using hx
          subst hx'
          have ex := hev x (by simp [Op.operands, Call.operands])
          have ey := hev y (by simp [Op.operands, Call.operands])
          split at h
          · rename_i k a k' b hxe hye
            simp only [Option.some.injEq, Prod.mk.injEq] at h; obtain ⟨_, rfl⟩ := h
            simp [resolve, invoke, builtin, Builtin.max_, Builtin.max2, ex, ey, hxe, hye, AV.ev, SC.ev, SI.ev]
          · cases h
        · cases h
      case min =>
        split at h
        · rename_i x y hx
          have hx' : args = #[x, y] := by apply Array.ext'; simpa using hx
          subst hx'
          have ex := hev x (by simp [Op.operands, Call.operands])
          have ey := hev y (by simp [Op.operands, Call.operands])
          split at h
          · rename_i k a k' b hxe hye
            simp only [Option.some.injEq, Prod.mk.injEq] at h; obtain ⟨_, rfl⟩ := h
            simp [resolve, invoke, builtin, Builtin.min_, Builtin.min2, ex, ey, hxe, hye, AV.ev, SC.ev, SI.ev]
          · cases h
        · cases h
  | _ => rw [ho] at h; simp [opPure] at h
end
end Go.Dx
