/- A text of this claim's own: Dx.Sound3. -/
import Derived.Test.YtpcigcogcgpldaaGreatDoorDxE
set_option linter.unusedVariables false
set_option linter.unusedSimpArgs false
set_option linter.unusedVariables false
set_option linter.unusedSimpArgs false
namespace Go.Dx
open Go.RowKit

/-- the functions that may be called -/
def Callable (C : Cfg) : Prop := ∀ f, memB f C.cal = true → ∃ fn, C.P.funcs[f]? = some fn ∧ (fn.name == "runtime.NumGoroutine") = false ∧ fn.body.isNone = false

section
variable {C : Cfg} {R : Value → VH → Option (List Int) → Prop} {B : Option Nat} {w0 : World} {V0 : VH} {P : Program} {S : List LF}

theorem bindsT_sound {v : Value} {V : VH} {ρ : Nat → Nat} : ∀ (l : List (Bool × List RK)) {k : List (Bool × List (SC OV)) → Tree OV}, sem P R (bindsT l k) v V ρ S → ∃ cs, sem P R (k cs) v V ρ S
  | [], k, h => ⟨[], h⟩
  | (b, l) :: r, k, h => by
    simp only [bindsT] at h
    obtain ⟨cs, h⟩ := binds_sound l h
    obtain ⟨vs, h⟩ := bindsT_sound r h
    exact ⟨_, h⟩
theorem results_sound {t : TypeId} {v : Value} {V : VH} {ρ : Nat → Nat} {k : AV OV → Tree OV} (h : sem P R (results? P t k) v V ρ S) : ∃ a : AV OV, v = a.ev ρ ∧ sem P R (k a) v V ρ S := by
  unfold results? at h
  split at h
  · split at h
    · obtain ⟨vs, h⟩ := bindsT_sound _ h; exact ⟨_, h.1, h.2⟩
    · cases h
  · split at h
    · obtain ⟨cs, h⟩ := binds_sound _ h; exact ⟨_, h.1, h.2⟩
    · obtain ⟨cs, h⟩ := binds_sound _ h
      split at h
      · exact ⟨_, h.1, h.2⟩
      · cases h
    · cases h

/-- what a stretch of code leaves as it was -/
structure Mv (ds : List Nat) (st : St OV) (ρ : Nat → Nat) (a : Act) (V : VH) (st' : St OV) (ρ' : Nat → Nat) (a' : Act) (V' : VH) : Prop where
  nb : st.nb ≤ st'.nb
  ag : ∀ b, b < st.nb → ρ b = ρ' b
  tm : ∀ t, t ∉ ds → a'.tmps.getD t undef = a.tmps.getD t undef
  bk : ∀ b blk, getA st.bl b = some blk → (∃ blk', getA st'.bl b = some blk' ∧ blk'.T = blk.T ∧ blk'.ct.kind = blk.ct.kind ∧ blk.ver ≤ blk'.ver ∧ (blk'.ver = blk.ver → blk'.ct = blk.ct)) ∨ (getA st'.bl b = none ∧ b < st'.nb)
  vl : V.le V'
  rm : ∀ b, b < st.nb → getA st.bl b = none → getA st'.bl b = none
theorem rm_cons {bl : List (Nat × Blk OV)} {b : Nat} {blk blk1 : Blk OV} (hb : getA bl b = some blk) (c : Nat) (h : getA bl c = none) : getA ((b, blk1) :: bl) c = none := by
  rw [getA_cons, if_neg]
  · exact h
  · rintro rfl; rw [hb] at h; cases h
theorem rm_new {bl : List (Nat × Blk OV)} {n : Nat} {blk1 : Blk OV} (c : Nat) (hc : c < n) (h : getA bl c = none) : getA ((n, blk1) :: bl) c = none := by
  rw [getA_cons, if_neg (by omega)]; exact h
theorem Mv.refl (ds : List Nat) (st : St OV) (ρ : Nat → Nat) (a : Act) (V : VH) : Mv ds st ρ a V st ρ a V :=
  ⟨Nat.le_refl _, fun _ _ => rfl, fun _ _ => rfl, fun b blk h => .inl ⟨blk, h, rfl, rfl, Nat.le_refl _, fun _ => rfl⟩, VH.le_refl _, fun _ _ h => h⟩
theorem Mv.trans {ds : List Nat} {st st1 st2 : St OV} {ρ ρ1 ρ2 : Nat → Nat} {a a1 a2 : Act} {V V1 V2 : VH} (h : Mv ds st ρ a V st1 ρ1 a1 V1) (k : Mv ds st1 ρ1 a1 V1 st2 ρ2 a2 V2) : Mv ds st ρ a V st2 ρ2 a2 V2 := by
  refine ⟨Nat.le_trans h.nb k.nb, fun b hb => (h.ag b hb).trans (k.ag b (Nat.lt_of_lt_of_le hb h.nb)), fun t ht => (k.tm t ht).trans (h.tm t ht), ?_, VH.le_trans h.vl k.vl, fun b hb h0 => k.rm b (Nat.lt_of_lt_of_le hb h.nb) (h.rm b hb h0)⟩
  intro b blk hb
  rcases h.bk b blk hb with ⟨b1, e1, e2, e3, e4, e5⟩ | ⟨h0, h1⟩
  · rcases k.bk b b1 e1 with ⟨b2, f1, f2, f3, f4, f5⟩ | h0
    · refine .inl ⟨b2, f1, f2.trans e2, f3.trans e3, Nat.le_trans e4 f4, fun he => ?_⟩
      have : b1.ver = blk.ver := by omega
      rw [f5 (by omega), e5 this]
    · exact .inr h0
  · exact .inr ⟨k.rm b h1 h0, Nat.lt_of_lt_of_le h1 k.nb⟩
theorem Mv.mono {ds es : List Nat} {st st1 : St OV} {ρ ρ1 : Nat → Nat} {a a1 : Act} {V V1 : VH} (h : Mv ds st ρ a V st1 ρ1 a1 V1) (hs : ∀ t ∈ ds, t ∈ es) : Mv es st ρ a V st1 ρ1 a1 V1 :=
  { h with tm := fun t ht => h.tm t (fun h' => ht (hs t h')) }
theorem put_tm (a : Act) (d : Option Nat) (v : Value) : ∀ t, t ∉ d.toList → (a.put d v).tmps.getD t undef = a.tmps.getD t undef := by
  intro t ht
  cases d with
  | none => rfl
  | some d =>
    simp only [Option.toList, List.mem_singleton] at ht
    simp [Act.put, Array.getD_eq_getD_getElem?, Array.getElem?_setIfInBounds_ne (show d ≠ t from fun e' => ht e'.symm)]
theorem put_bl (st : St OV) (d : Option Nat) (v : AV OV) : (st.put d v).bl = st.bl := by cases d <;> rfl
theorem put_nb (st : St OV) (d : Option Nat) (v : AV OV) : (st.put d v).nb = st.nb := by cases d <;> rfl
theorem Mv.put {st st1 : St OV} {ρ ρ1 : Nat → Nat} {a : Act} {V V1 : VH} (d : Option Nat) (v : AV OV) (u : Value) (h : Mv d.toList st ρ a V st1 ρ1 a V1) : Mv d.toList st ρ a V (st1.put d v) ρ1 (a.put d u) V1 :=
  ⟨by rw [put_nb]; exact h.nb, h.ag, put_tm a d u, by rw [put_bl, put_nb]; exact h.bk, h.vl, by rw [put_bl]; exact h.rm⟩

theorem giveAll_sound {N : Nat} {a : Act} {w : World} {ρ : Nat → Nat} {v : Value} : ∀ (n : Nat) (bs : List Nat) (st : St OV) (V : VH) {k : St OV → Tree OV}, Rel N B w0 V0 st V ρ a w → sem P R (giveAll n bs st k) v V ρ S →
    ∃ st' V', Rel N B w0 V0 st' V' ρ a w ∧ st'.fr = st.fr ∧ Mv [] st ρ a V st' ρ a V' ∧
      (∀ m, V.f m = none → (∀ b blk, getA st.bl b = some blk → blk.giv = false → ρ b ≠ m) → V'.f m = none ∧ ∀ b blk, getA st'.bl b = some blk → blk.giv = false → ρ b ≠ m) ∧ (∀ b blk, getA st.bl b = some blk → ∃ blk', getA st'.bl b = some blk') ∧ sem P R (k st') v V' ρ S
  | 0, bs, st, V, k, h, hs => by cases bs <;> exact hs.elim
  | n + 1, [], st, V, k, h, hs => ⟨st, V, h, rfl, Mv.refl _ _ _ _ _, fun m h1 h2 => ⟨h1, h2⟩, fun b blk h => ⟨blk, h⟩, hs⟩
  | n + 1, b :: bs, st, V, k, h, hs => by
    simp only [giveAll] at hs
    split at hs
    · exact hs.elim
    · rename_i blk hb
      split at hs
      · exact giveAll_sound n bs st V h hs
      · rename_i hg
        have hg' : blk.giv = false := by simpa using hg
        have hn := (h.own b blk hb hg').2.1
        have h1 := hs hn
        obtain ⟨st', V', r1, r2, r4, rk, rx, r5⟩ := giveAll_sound n _ _ _ (h.give hb hg') h1
        refine ⟨st', V', r1, r2, Mv.trans (st1 := { st with bl := (b, { blk with giv := true }) :: st.bl }) (ρ1 := ρ) (a1 := a) (V1 := V.put (ρ b) (.cells (blk.ct.ev ρ).toArray blk.T)) ?_ r4, ?_, fun c blk1 hc => ?_, r5⟩
        rotate_left 2
        · by_cases e : c = b
          · exact rx c { blk with giv := true } (by simp [getA_cons, e])
          · exact rx c blk1 (by simp [getA_cons, e]; exact hc)
        rotate_right
        · intro m q1 q2
          refine rk m ?_ fun c blk1 hc hg1 => ?_
          · simp only [VH.put]
            rw [if_neg fun e => q2 b blk hb hg' e.symm]; exact q1
          · simp only [getA_cons] at hc
            split at hc
            · injection hc with hc; subst hc; cases hg1
            · exact q2 c blk1 hc hg1
        refine ⟨Nat.le_refl _, fun _ _ => rfl, fun _ _ => rfl, ?_, VH.le_put hn _, fun c _ h0 => rm_cons hb c h0⟩
        intro c blk1 hc
        by_cases e : c = b
        · subst e
          rw [hb] at hc; injection hc with hc; subst hc
          exact .inl ⟨{ blk with giv := true }, by simp [getA_cons], rfl, rfl, Nat.le_refl _, fun _ => rfl⟩
        · exact .inl ⟨blk1, by simp [getA_cons, e]; exact hc, rfl, rfl, Nat.le_refl _, fun _ => rfl⟩

theorem target_sound {ρ : Nat → Nat} {fv : AV OV} {g : Nat} {extra : List (AV OV)} (h : target fv = some (g, extra)) : ∃ cap : Array Value, fv.ev ρ = .func (.func g) #[] cap ∧ cap.toList = extra.map (AV.ev ρ) := by
  unfold target at h
  split at h
  · rename_i f first cap
    split at h
    · rename_i hc
      simp only [Bool.and_eq_true, Array.isEmpty_iff] at hc
      obtain ⟨rfl, rfl⟩ := hc
      simp only [Option.some.injEq, Prod.mk.injEq] at h; obtain ⟨rfl, rfl⟩ := h
      exact ⟨#[], rfl, rfl⟩
    · cases h
  · rename_i f caps
    simp only [Option.some.injEq, Prod.mk.injEq] at h; obtain ⟨rfl, rfl⟩ := h
    refine ⟨_, rfl, ?_⟩
    simp only [List.map_map]
    apply List.map_congr_left
    intro p _
    simp [AV.ev, SC.ev, ptrV, natI_ev]
  · cases h

def tgtOf (o : Oper) (st : St OV) : Option Nat :=
  match o.op with
  | .store _ a _ => match evO st a with
    | .one (.ptr b _) => some b
    | _ => none
  | .call { callee := .builtin .append, args := args, argTypes := _ } => match args.toList with
    | a :: _ => match evO st a with
      | .one (.slice b _ _ _) => some b
      | _ => none
    | [] => none
  | _ => none
/-- what an operation leaves as it was -/
structure Mo (C : Cfg) (o : Oper) (st : St OV) (ρ : Nat → Nat) (a : Act) (V : VH) (w : World) (st' : St OV) (ρ' : Nat → Nat) (a' : Act) (V' : VH) (w' : World) : Prop where
  mv : Mv o.dst.toList st ρ a V st' ρ' a' V'
  heap : ∀ L : List (Nat × Blk OV), borOut C L o st = true → L.isEmpty = false → ∀ n, n < w.heap.size → (∀ b, tgtOf o st = some b → n ≠ ρ b) → w'.heap[n]? = w.heap[n]?
  clean : isCall o = false → V' = V
  tgt : ∀ b, tgtOf o st = some b → ∃ blk, getA st.bl b = some blk ∧ blk.giv = false
  keep : ∀ n, n < w.heap.size → V.f n = none → (∀ b blk, getA st.bl b = some blk → blk.giv = false → ρ b ≠ n) →
    w'.heap[n]? = w.heap[n]? ∧ V'.f n = none ∧ ∀ b blk, getA st'.bl b = some blk → blk.giv = false → ρ' b ≠ n
  nf : ∀ t, t ∉ o.dst.toList → getA st.fr t = none → getA st'.fr t = none
  gone : ∀ b blk, getA st.bl b = some blk → getA st'.bl b = none → tgtOf o st = some b
theorem put_nf (st : St OV) (d : Option Nat) (v : AV OV) : ∀ t, t ∉ d.toList → getA st.fr t = none → getA (st.put d v).fr t = none := by
  intro t ht h
  cases d with
  | none => exact h
  | some d =>
    show getA ((d, v) :: st.fr) t = none
    simp only [Option.toList, List.mem_singleton] at ht
    rw [getA_cons, if_neg ht]; exact h
theorem gone_put {st : St OV} {d : Option Nat} {v : AV OV} {b : Nat} {blk : Blk OV} (h1 : getA st.bl b = some blk) (h2 : getA (st.put d v).bl b = none) : False := by
  rw [put_bl, h1] at h2; cases h2
theorem gone_cput {fr : List (Nat × AV OV)} {bl : List (Nat × Blk OV)} {n c : Nat} {x : Blk OV} {d : Option Nat} {v : AV OV} {b : Nat} {blk : Blk OV} (h1 : getA bl b = some blk) (h2 : getA (St.put { fr := fr, bl := (c, x) :: bl, nb := n } d v).bl b = none) : False := by
  rw [put_bl] at h2
  simp only [getA_cons] at h2
  split at h2
  · cases h2
  · rw [h1] at h2; cases h2
theorem dom_keep {V V' : VH} {w : World} (hd : ∀ k, V'.f k ≠ none → V.f k ≠ none ∨ w.heap.size ≤ k) {n : Nat} (hn : n < w.heap.size) (hv : V.f n = none) : V'.f n = none := by
  cases hc : V'.f n with
  | none => rfl
  | some o => rcases hd n (by rw [hc]; simp) with h | h
              · exact absurd hv h
              · omega

set_option maxHeartbeats 1000000 in
/-- ONE OPERATION -/
theorem doOp_sound (hC : Callable C) {o : Oper} {st : St OV} {V : VH} {ρ : Nat → Nat} {a : Act} {w : World} {v : Value} {k : St OV → Tree OV} {K : Act → World → Prop} {Q : Exit → Act → World → Prop}
    (h : Rel C.N B w0 V0 st V ρ a w) (hs : sem C.P R (doOp C o st k) v V ρ S)
    (hk : ∀ st' V' ρ' a' w' v', Rel C.N B w0 V0 st' V' ρ' a' w' → Mo C o st ρ a V w st' ρ' a' V' w' → sem C.P R (k st') v' V' ρ' S → K a' w') : o.wp C.P a w K Q := by
  unfold Oper.wp
  unfold doOp at hs
  split at hs
  · cases hs
  rename_i hops
  have hops : opsOk st o.op = true := by simpa using hops
  have hev := h.evals hops
  split at hs
  · rename_i reqs v1 hp
    split at hs
    · rename_i hput
      obtain ⟨hr, hs⟩ := needs_sem hs
      rw [opPure_sound (ρ := ρ) hev hp hr w]
      refine hk _ _ _ _ _ _ (h.put hput) ⟨Mv.put _ _ _ (Mv.refl _ _ _ _ _), fun _ _ _ _ _ _ => rfl, fun _ => rfl, ?_, fun n q1 q2 q3 => ⟨rfl, q2, by rw [put_bl]; exact q3⟩, put_nf _ _ _, fun b blk h1 h2 => (gone_put h1 h2).elim⟩ hs
      intro b hb
      unfold tgtOf at hb
      split at hb
      · rename_i t x y ho
        rw [ho] at hp; simp [opPure] at hp
      · rename_i args ats ho
        rw [ho] at hp; simp [opPure] at hp
      · cases hb
    · cases hs
  · rename_i hp
    split at hs
    · rename_i t x ho
      have hnt : ∀ b, tgtOf o st = some b → ∃ blk, getA st.bl b = some blk ∧ blk.giv = false := by
        intro b hb; unfold tgtOf at hb; rw [ho] at hb; cases hb
      have hevx : a.eval x = (evO st x).ev ρ := hev x (by rw [ho]; simp [Op.operands])
      split at hs
      · rename_i reqs v1 hl
        split at hs
        · rename_i hput
          obtain ⟨hr, hs⟩ := needs_sem hs
          have hrun : (execOp a.eval o).run C.P w = .ok (.value (v1.ev ρ)) w := by
            unfold execOp
            rw [ho]
            have := load_sound (V := V) (fun b blk hb => h.heapOf hb) (fun _ _ _ => h.vw) hl hr (fun _ _ _ _ e => by cases e) (fun _ _ _ _ _ e => by cases e)
            simp only [hevx, Sem.run_bind, this, Result.andThen_ok, Sem.run_pure, Ld.v]
          rw [hrun]
          exact hk _ _ _ _ _ _ (h.put hput) ⟨Mv.put _ _ _ (Mv.refl _ _ _ _ _), fun _ _ _ _ _ _ => rfl, fun _ => rfl, hnt, fun n q1 q2 q3 => ⟨rfl, q2, by rw [put_bl]; exact q3⟩, put_nf _ _ _, fun b blk h1 h2 => (gone_put h1 h2).elim⟩ hs
        · cases hs
      · rename_i kd y reqs v1 hl
        split at hs
        · rename_i hput
          obtain ⟨hrd, hs⟩ := hs
          obtain ⟨hr, hs⟩ := needs_sem hs
          have hrun : (execOp a.eval o).run C.P w = .ok (.value (v1.ev ρ)) w := by
            unfold execOp
            rw [ho]
            have := load_sound (V := V) (fun b blk hb => h.heapOf hb) (fun _ _ _ => h.vw) hl hr (fun _ _ _ _ e => by injection e with e1 e2 e3 e4; subst e1; subst e2; exact hrd) (fun _ _ _ _ _ e => by cases e)
            simp only [hevx, Sem.run_bind, this, Result.andThen_ok, Sem.run_pure, Ld.v]
          rw [hrun]
          exact hk _ _ _ _ _ _ (h.put hput) ⟨Mv.put _ _ _ (Mv.refl _ _ _ _ _), fun _ _ _ _ _ _ => rfl, fun _ => rfl, hnt, fun n q1 q2 q3 => ⟨rfl, q2, by rw [put_bl]; exact q3⟩, put_nf _ _ _, fun b blk h1 h2 => (gone_put h1 h2).elim⟩ hs
        · cases hs
      · rename_i g y ofs ks agg hl
        obtain ⟨cs, hlen, hat, hs⟩ := opqK_sound hs
        split at hs
        · rename_i hput
          have hrun : (execOp a.eval o).run C.P w = .ok (.value ((mkA agg cs).ev ρ)) w := by
            unfold execOp
            rw [ho]
            have := load_opq (V := V) (fun b blk hb => h.heapOf hb) h.vw hl hlen hat
            simp only [hevx, Sem.run_bind, this, Result.andThen_ok, Sem.run_pure]
          rw [hrun]
          exact hk _ _ _ _ _ _ (h.put hput) ⟨Mv.put _ _ _ (Mv.refl _ _ _ _ _), fun _ _ _ _ _ _ => rfl, fun _ => rfl, hnt, fun n q1 q2 q3 => ⟨rfl, q2, by rw [put_bl]; exact q3⟩, put_nf _ _ _, fun b blk h1 h2 => (gone_put h1 h2).elim⟩ hs
        · cases hs
      · cases hs
    · rename_i t x y ho
      have hevx : a.eval x = (evO st x).ev ρ := hev x (by rw [ho]; simp [Op.operands])
      have hevy : a.eval y = (evO st y).ev ρ := hev y (by rw [ho]; simp [Op.operands])
      split at hs
      · rename_i reqs b blk hst
        split at hs
        · rename_i hput
          simp only [Bool.and_eq_true] at hput
          obtain ⟨hr, hs⟩ := needs_sem hs
          obtain ⟨blk0, off, hb, hg, hg1, hT, hkd, hver, hx, hrun0⟩ := store_sound (ρ := ρ) hst hr (fun blk0 hb0 => h.heapOf hb0)
          have hrun : (execOp a.eval o).run C.P w = .ok .skip (w.setRow (ρ b) (blk.ct.ev ρ).toArray) := by
            unfold execOp
            rw [ho]
            simp only [hevx, hevy, Sem.run_bind, hrun0]
            rfl
          rw [hrun]
          have ht : tgtOf o st = some b := by unfold tgtOf; rw [ho]; simp only [hx]
          have hm : Mv o.dst.toList st ρ a V { st with bl := (b, blk) :: st.bl } ρ a V := by
            refine ⟨Nat.le_refl _, fun _ _ => rfl, fun _ _ => rfl, fun c blk1 hc => ?_, VH.le_refl _, fun c _ h0 => rm_cons hb c h0⟩
            by_cases e : c = b
            · subst e; rw [hb] at hc; injection hc with hc; subst hc
              exact .inl ⟨blk, by simp [getA_cons], hT, hkd, by omega, fun e => by omega⟩
            · exact .inl ⟨blk1, by simp [getA_cons, e]; exact hc, rfl, rfl, Nat.le_refl _, fun _ => rfl⟩
          have hrel := h.store hb hg hg1 hT hput.1
          have hput' : putOk C.N { st with bl := (b, blk) :: st.bl } o.dst (.tup []) = true := hput.2
          refine hk _ _ _ _ _ _ (hrel.put hput') ⟨Mv.put _ _ _ hm, fun _ _ _ n hn hne => setRow_other w _ n _ (hne b ht), fun _ => rfl, ?_, fun n q1 q2 q3 => ⟨setRow_other w _ n _ (q3 b blk0 hb hg).symm, q2, ?_⟩, put_nf { st with bl := (b, blk) :: st.bl } _ _, fun b blk h1 h2 => (gone_cput h1 h2).elim⟩ hs
          rotate_left
          · intro c blk1 hc hg2
            rw [put_bl] at hc
            simp only [getA_cons] at hc
            split at hc
            · rename_i e; subst e; exact q3 c blk0 hb hg
            · exact q3 c blk1 hc hg2
          intro b' hb'; rw [ht] at hb'; injection hb' with hb'; subst hb'; exact ⟨blk0, hb, hg⟩
        · cases hs
      · cases hs
    · rename_i f args ats ho
      have hnt : ∀ b, tgtOf o st = some b → ∃ blk, getA st.bl b = some blk ∧ blk.giv = false := by
        intro b hb; unfold tgtOf at hb; rw [ho] at hb; cases hb
      have hevf : a.eval f = (evO st f).ev ρ := hev f (by rw [ho]; simp [Op.operands, Call.operands])
      have hic : isCall o = true := by unfold isCall; rw [ho]
      split at hs
      · rename_i g extra ht
        obtain ⟨cap, hcv, hcap⟩ := target_sound (ρ := ρ) ht
        split at hs
        · rename_i hmem
          obtain ⟨fn, hfn, hname, hbody⟩ := hC g hmem
          have e' : args.map a.eval ++ cap = ((args.toList.map (evO st) ++ extra).map (AV.ev ρ)).toArray := by
            apply Array.ext'
            simp only [Array.toList_append, Array.toList_map, hcap, List.map_append, List.map_map]
            congr 1
            apply List.map_congr_left
            intro x hx
            exact hev x (by rw [ho]; simp only [Op.operands, Call.operands]; simp; right; simpa using hx)
          have hrun : (execOp a.eval o).run C.P w = .ok (.enter g ((args.toList.map (evO st) ++ extra).map (AV.ev ρ)).toArray) w := by
            unfold execOp
            rw [ho]
            simp only [resolve, hevf, hcv, Deferred.ofValue, Sem.run_bind, Sem.run_pure, Result.andThen_ok, invoke, callFunc, run_program, hfn, hname, hbody, Bool.false_eq_true, if_false, Array.empty_append]
            rw [e']
          split at hs
          · rename_i hbor
            split at hs
            · rename_i b bs hptr
              split at hs
              · rename_i T kd l ver hb
                rw [hrun]
                have hsp : CSpecB C.P g ((args.toList.map (evO st) ++ extra).map (AV.ev ρ)).toArray V (ρ b) T kd l.ev _ := hs
                have hh := h.own b _ hb rfl
                refine (hsp.out w h.vw hh.2.1 hh.1).mono ?_
                rintro e w' ⟨v1, V1, L1, rfl, hbl, hl, hi, hd, hat, hq⟩
                obtain ⟨av, rfl, hq⟩ := results_sound hq
                split at hq
                · rename_i hput
                  have hrel := h.lend (blk1 := ⟨T, .arr kd (.var (OV.lst L1)), false, ver + 1⟩) hb rfl rfl rfl rfl hbl hl hi hd hat
                  have hput' : putOk C.N { st with bl := (b, ⟨T, .arr kd (.var (OV.lst L1)), false, ver + 1⟩) :: st.bl } o.dst av = true := hput
                  refine hk _ _ _ _ _ _ (hrel.put hput') ⟨Mv.put _ _ _ ?_, ?_, fun hc => (by rw [hic] at hc; cases hc), hnt, fun n q1 q2 q3 => ⟨hbl.block n q1 (fun e => q3 b _ hb rfl (by injection e)), dom_keep hd q1 q2, fun c blk1 hc hg2 => ?_⟩, put_nf { st with bl := (b, ⟨T, .arr kd (.var (OV.lst L1)), false, ver + 1⟩) :: st.bl } _ _, fun b blk h1 h2 => (gone_cput h1 h2).elim⟩ hq
                  rotate_left 2
                  · rw [put_bl] at hc
                    simp only [getA_cons] at hc
                    split at hc
                    · rename_i e; subst e; exact q3 c _ hb rfl
                    · exact q3 c blk1 hc hg2
                  · refine ⟨Nat.le_refl _, fun _ _ => rfl, fun _ _ => rfl, fun c blk1 hc => ?_, hl, fun c _ h0 => rm_cons hb c h0⟩
                    by_cases e : c = b
                    · subst e; rw [hb] at hc; injection hc with hc; subst hc
                      exact .inl ⟨⟨T, .arr kd (.var (OV.lst L1)), false, ver + 1⟩, by simp [getA_cons], rfl, rfl, by simp, fun e => by simp at e⟩
                    · exact .inl ⟨blk1, by simp [getA_cons, e]; exact hc, rfl, rfl, Nat.le_refl _, fun _ => rfl⟩
                  · intro L hL hne
                    unfold borOut at hL
                    rw [ho] at hL
                    simp only [ht, hbor, hne] at hL
                    cases hL
                · cases hq
              · rename_i T sz x0 t0 ver hb
                rw [hrun]
                have hsp : CSpecG C.P g ((args.toList.map (evO st) ++ extra).map (AV.ev ρ)).toArray V (ρ b) T (x0.cs ++ t0.cs) _ := hs
                have hh := h.own b _ hb rfl
                refine (hsp.out w h.vw hh.2.1 hh.1).mono ?_
                rintro e w' ⟨v1, V1, L1, rfl, hbl, hl, hi, hd, hat, hq⟩
                obtain ⟨cs1, rfl, hcl, hq⟩ := hq
                obtain ⟨av, rfl, hq⟩ := results_sound hq
                split at hq
                · rename_i hput
                  have hrel := h.lend (blk1 := ⟨T, .gr sz (OV.gs cs1) t0, false, ver + 1⟩) hb rfl rfl rfl rfl hbl hl hi hd hat
                  have hput' : putOk C.N { st with bl := (b, ⟨T, .gr sz (OV.gs cs1) t0, false, ver + 1⟩) :: st.bl } o.dst av = true := hput
                  refine hk _ _ _ _ _ _ (hrel.put hput') ⟨Mv.put _ _ _ ?_, ?_, fun hc => (by rw [hic] at hc; cases hc), hnt, fun n q1 q2 q3 => ⟨hbl.block n q1 (fun e => q3 b _ hb rfl (by injection e)), dom_keep hd q1 q2, fun c blk1 hc hg2 => ?_⟩, put_nf { st with bl := (b, ⟨T, .gr sz (OV.gs cs1) t0, false, ver + 1⟩) :: st.bl } _ _, fun b blk h1 h2 => (gone_cput h1 h2).elim⟩ hq
                  rotate_left 2
                  · rw [put_bl] at hc
                    simp only [getA_cons] at hc
                    split at hc
                    · rename_i e; subst e; exact q3 c _ hb rfl
                    · exact q3 c blk1 hc hg2
                  · refine ⟨Nat.le_refl _, fun _ _ => rfl, fun _ _ => rfl, fun c blk1 hc => ?_, hl, fun c _ h0 => rm_cons hb c h0⟩
                    by_cases e : c = b
                    · subst e; rw [hb] at hc; injection hc with hc; subst hc
                      exact .inl ⟨⟨T, .gr sz (OV.gs cs1) t0, false, ver + 1⟩, by simp [getA_cons], rfl, rfl, by simp, fun e => by simp at e⟩
                    · exact .inl ⟨blk1, by simp [getA_cons, e]; exact hc, rfl, rfl, Nat.le_refl _, fun _ => rfl⟩
                  · intro L hL hne
                    unfold borOut at hL
                    rw [ho] at hL
                    simp only [ht, hbor, hne] at hL
                    cases hL
                · cases hq
              · cases hs
            · cases hs
          · rename_i hbor
            split at hs
            · rename_i sure hown
              split at hs
              · rename_i te htu
                split at hs
                · rename_i kd hkd
                  obtain ⟨st', V', r1, r2, r4, rk, rx, hs⟩ := giveAll_sound 60 _ st V h hs
                  rw [hrun]
                  have hsp : CSpecO C.P g ((args.toList.map (evO st) ++ extra).map (AV.ev ρ)).toArray V' te kd _ _ := hs
                  refine (hsp.out w r1.vw).mono ?_
                  rintro e w' ⟨v1, V1, rfl, hb, hl, hi, hd, (hq | ⟨n0, L0, hge, hvn, hat, hq⟩)⟩
                  · cases sure with
                    | true => exact hq.elim
                    | false =>
                    obtain ⟨av, rfl, hq⟩ := results_sound hq
                    split at hq
                    · rename_i hput
                      have hrel := (r1.world hb hl hi hd).put hput
                      refine hk _ _ _ _ _ _ hrel ⟨Mv.put _ _ _ ?_, fun _ _ _ n hn _ => hb.block n hn, fun hc => (by rw [hic] at hc; cases hc), hnt, fun n q1 q2 q3 => ⟨hb.block n q1, dom_keep hd q1 (rk n q2 q3).1, by rw [put_bl]; exact (rk n q2 q3).2⟩, fun t q1 q2 => put_nf _ _ _ t q1 (by rw [r2]; exact q2), fun b blk h1 h2 => (by obtain ⟨blk', e⟩ := rx b blk h1; exact (gone_put e h2).elim)⟩ hq
                      exact ⟨r4.nb, r4.ag, fun _ _ => rfl, r4.bk, VH.le_trans r4.vl hl, r4.rm⟩
                    · cases hq
                  · obtain ⟨n, c, rfl, hq⟩ := hq
                    split at hq
                    · rename_i hput
                      have hw' := r1.world hb hl hi hd
                      have hrel := hw'.adopt (T := te) (ct := .arr kd (.var (OV.lst L0))) (ver := 0) (n0 := n0) rfl (fun b blk hbb => by have := r1.lt hbb; omega) hat hvn (.inl (Nat.le_trans h.below.size hge))
                      have hput' : putOk C.N { st' with bl := (st'.nb, ⟨te, .arr kd (.var (OV.lst L0)), false, 0⟩) :: st'.bl, nb := st'.nb + 1 } o.dst (.one (.slice st'.nb (.lit 0) (.var (OV.int .i64 n)) (.var (OV.int .i64 c)))) = true := by
                        simp only [putOk, Bool.and_eq_true]; exact ⟨blt_iff.2 (Nat.lt_succ_self _), hput⟩
                      refine hk _ _ _ _ _ _ (hrel.put hput') ⟨Mv.put _ _ _ ?_, fun _ _ _ n hn _ => hb.block n hn, fun hc => (by rw [hic] at hc; cases hc), hnt, fun m q1 q2 q3 => ⟨hb.block m q1, dom_keep hd q1 (rk m q2 q3).1, fun c blk1 hc hg2 => ?_⟩, fun t q1 q2 => put_nf { st' with bl := (st'.nb, ⟨te, .arr kd (.var (OV.lst L0)), false, 0⟩) :: st'.bl, nb := st'.nb + 1 } _ _ t q1 (by show getA st'.fr t = none; rw [r2]; exact q2), fun b blk h1 h2 => (by obtain ⟨blk', e⟩ := rx b blk h1; exact (gone_cput e h2).elim)⟩ hq
                      rotate_left
                      · rw [put_bl] at hc
                        simp only [getA_cons] at hc
                        split at hc
                        · rename_i e; subst e; rw [upd_eq, if_pos rfl]; omega
                        · rename_i e; rw [upd_eq, if_neg e]; exact (rk m q2 q3).2 c blk1 hc hg2
                      refine ⟨Nat.le_trans r4.nb (Nat.le_succ _), ?_, fun _ _ => rfl, ?_, VH.le_trans r4.vl hl, fun c hc h0 => rm_new c (Nat.lt_of_lt_of_le hc r4.nb) (r4.rm c hc h0)⟩
                      · intro b hb'
                        rw [upd_eq, if_neg (by have := r4.nb; omega)]
                      · intro b blk hb'
                        rcases r4.bk b blk hb' with ⟨blk', q1, q2⟩ | ⟨q1, q2⟩
                        · have hne : b ≠ st'.nb := by have := (hw'.blt b blk' q1).1; omega
                          exact .inl ⟨blk', by simp [getA_cons, hne, q1], q2⟩
                        · exact .inr ⟨rm_new b q2 q1, Nat.lt_succ_of_lt q2⟩
                    · cases hq
                · cases hs
              · cases hs
            · rename_i hown
              split at hs
              · rename_i nn hgiv
                split at hs
                · rename_i te htu
                  split at hs
                  · rename_i bb ks hks
                    obtain ⟨st', V', r1, r2, r4, rk, rx, hs⟩ := giveAll_sound 60 _ st V h hs
                    rw [hrun]
                    have hsp : CSpec C.P g ((args.toList.map (evO st) ++ extra).map (AV.ev ρ)).toArray V' _ := hs
                    refine (hsp.out w r1.vw).mono ?_
                    rintro e w' ⟨v1, V1, rfl, hb, hl, hi, hd, hq⟩
                    obtain ⟨n0, hq⟩ := hq
                    obtain ⟨cs, hq⟩ := binds_sound _ hq
                    obtain ⟨c, hq⟩ := hq
                    obtain ⟨rfl, hat, hq⟩ := hq
                    split at hq
                    · rename_i hput
                      simp only [Bool.and_eq_true] at hput
                      have hw' := r1.world hb hl hi hd
                      have hn0 : upd ρ st'.nb n0 st'.nb = n0 := by rw [upd_eq, if_pos rfl]
                      rw [hn0] at hat
                      have hrel := hw'.know (ver := 0) hput.1 hat
                      have hput' : putOk C.N { st' with bl := (st'.nb, ⟨te, .cells cs, true, 0⟩) :: st'.bl, nb := st'.nb + 1 } o.dst (.one (.slice st'.nb (.lit 0) (natI nn) (.var (OV.int .i64 c)))) = true := by
                        simp only [putOk, Bool.and_eq_true]; exact ⟨blt_iff.2 (Nat.lt_succ_self _), hput.2⟩
                      refine hk _ _ _ _ _ _ (hrel.put hput') ⟨Mv.put _ _ _ ?_, fun _ _ _ n hn _ => hb.block n hn, fun hc => (by rw [hic] at hc; cases hc), hnt, fun m q1 q2 q3 => ⟨hb.block m q1, dom_keep hd q1 (rk m q2 q3).1, fun c blk1 hc hg2 => ?_⟩, fun t q1 q2 => put_nf { st' with bl := (st'.nb, ⟨te, .cells cs, true, 0⟩) :: st'.bl, nb := st'.nb + 1 } _ _ t q1 (by show getA st'.fr t = none; rw [r2]; exact q2), fun b blk h1 h2 => (by obtain ⟨blk', e⟩ := rx b blk h1; exact (gone_cput e h2).elim)⟩ hq
                      rotate_left
                      · rw [put_bl] at hc
                        simp only [getA_cons] at hc
                        split at hc
                        · injection hc with hc; subst hc; cases hg2
                        · rename_i e; rw [upd_eq, if_neg e]; exact (rk m q2 q3).2 c blk1 hc hg2
                      refine ⟨Nat.le_trans r4.nb (Nat.le_succ _), ?_, fun _ _ => rfl, ?_, VH.le_trans r4.vl hl, fun c hc h0 => rm_new c (Nat.lt_of_lt_of_le hc r4.nb) (r4.rm c hc h0)⟩
                      · intro b hb'
                        rw [upd_eq, if_neg (by have := r4.nb; omega)]
                      · intro b blk hb'
                        rcases r4.bk b blk hb' with ⟨blk', q1, q2⟩ | ⟨q1, q2⟩
                        · have hne : b ≠ st'.nb := by have := (hw'.blt b blk' q1).1; omega
                          exact .inl ⟨blk', by simp [getA_cons, hne, q1], q2⟩
                        · exact .inr ⟨rm_new b q2 q1, Nat.lt_succ_of_lt q2⟩
                    · cases hq
                  · cases hs
                · cases hs
              · rename_i hgiv
                obtain ⟨st', V', r1, r2, r4, rk, rx, hs⟩ := giveAll_sound 60 _ st V h hs
                rw [hrun]
                have hsp : CSpec C.P g ((args.toList.map (evO st) ++ extra).map (AV.ev ρ)).toArray V' _ := hs
                refine (hsp.out w r1.vw).mono ?_
                rintro e w' ⟨v1, V1, rfl, hb, hl, hi, hd, hq⟩
                obtain ⟨av, rfl, hq⟩ := results_sound hq
                split at hq
                · rename_i hput
                  have hrel := (r1.world hb hl hi hd).put hput
                  refine hk _ _ _ _ _ _ hrel ⟨Mv.put _ _ _ ?_, fun _ _ _ n hn _ => hb.block n hn, fun hc => (by rw [hic] at hc; cases hc), hnt, fun n q1 q2 q3 => ⟨hb.block n q1, dom_keep hd q1 (rk n q2 q3).1, by rw [put_bl]; exact (rk n q2 q3).2⟩, fun t q1 q2 => put_nf _ _ _ t q1 (by rw [r2]; exact q2), fun b blk h1 h2 => (by obtain ⟨blk', e⟩ := rx b blk h1; exact (gone_put e h2).elim)⟩ hq
                  exact ⟨r4.nb, r4.ag, fun _ _ => rfl, r4.bk, VH.le_trans r4.vl hl, r4.rm⟩
                · cases hq
        · cases hs
      · cases hs
    · rename_i args ats ho
      have hic : isCall o = true := by unfold isCall; rw [ho]
      split at hs
      · rename_i so xo t t' hgw hal htl
        split at hs
        · rename_i reqs e n src news happ
          split at hs
          · rename_i hdst
            obtain ⟨hr, hs⟩ := needs_sem hs
            have hargs : args = #[so, xo] := by apply Array.ext'; simpa using hal
            have hats : ats = #[t, t'] := by apply Array.ext'; simpa using htl
            have hes : a.eval so = (evO st so).ev ρ := hev so (by rw [ho, hargs]; simp [Op.operands, Call.operands])
            have hex : a.eval xo = (evO st xo).ev ρ := hev xo (by rw [ho, hargs]; simp [Op.operands, Call.operands])
            obtain ⟨rfl, w', m, cs, tl, hrun0, hK, hgok, hat, hgb, hloc, hsrc⟩ := grow_run (P := C.P) (ρ := ρ) (V := V) (w := w) (ty := o.type) (fun b blk hb => h.heapOf hb) h.vw happ hr hs
            have hrun : (execOp a.eval o).run C.P w = .ok (.value (.slice (some ⟨m, 0, none⟩) (cs.length / n) ((cs.length + tl.length) / n))) w' := by
              unfold execOp
              simp only [ho, hargs, hats, resolve, invoke, builtin, Sem.run_bind, Sem.run_pure, Result.andThen_ok, List.map_toArray, List.map_cons, List.map_nil, hes, hex, hrun0]
            rw [hrun]
            have hs1 := hK m tl hgok
            have htg : ∀ b, tgtOf o st = some b → ∃ ct ver, src.blk = [b] ∧ getA st.bl b = some ⟨e, ct, false, ver⟩ ∧ ((evO st so).ev ρ).ownBlock = some (ρ b) := by
              intro b hb
              unfold tgtOf at hb
              rw [ho] at hb
              simp only [hal] at hb
              split at hb
              · rename_i b' off nn c hso
                injection hb with hb; subst hb
                rcases hsrc with ⟨_, _, hno⟩ | ⟨b1, off1, n1, c1, ct, ver, q1, q2, q3, q4⟩
                · exact absurd hso (hno _ _ _ _)
                · rw [hso] at q1; injection q1 with q1; injection q1 with q1; subst q1
                  exact ⟨ct, ver, q2, q3, q4⟩
              · cases hb
            have htg2 : ∀ b, b ∈ src.blk → tgtOf o st = some b ∧ ∃ ct ver, getA st.bl b = some ⟨e, ct, false, ver⟩ ∧ ((evO st so).ev ρ).ownBlock = some (ρ b) := by
              intro b hb
              rcases hsrc with ⟨q0, _, _⟩ | ⟨b1, off1, n1, c1, ct, ver, q1, q2, q3, q4⟩
              · rw [q0] at hb; cases hb
              · rw [q2, List.mem_singleton] at hb; subst hb
                refine ⟨?_, ct, ver, q3, q4⟩
                unfold tgtOf
                rw [ho]
                simp only [hal, q1]
            have hrow : ∀ k, ((evO st so).ev ρ).ownBlock = some k → ∃ b ct ver, b ∈ src.blk ∧ getA st.bl b = some ⟨e, ct, false, ver⟩ ∧ k = ρ b := by
              intro k hk
              rcases hsrc with ⟨_, q0, _⟩ | ⟨b1, off1, n1, c1, ct, ver, q1, q2, q3, q4⟩
              · rw [q0] at hk; cases hk
              · rw [q4] at hk; injection hk with hk
                exact ⟨b1, ct, ver, by rw [q2]; simp, q3, hk.symm⟩
            have hd := h.drop src.blk
            have hw1 : Rel C.N B w0 V0 { st with bl := dropB src.blk st.bl } V ρ a w' := by
              cases hob : ((evO st so).ev ρ).ownBlock with
              | none =>
                rw [hob] at hgb
                exact hd.away (m := w.heap.size) (fun b blk hb hg => by have := hd.lt hb; omega) (vnone h) (.inl h.below.size) ⟨hgb.os, hgb.tape, hgb.output, hgb.size, fun k hk _ => hgb.block k hk (by simp)⟩
              | some k =>
                obtain ⟨b1, ct, ver, p1, p2, rfl⟩ := hrow k hob
                have hown := h.own b1 _ p2 rfl
                rw [hob] at hgb
                refine hd.away (m := ρ b1) (fun b blk hb hg e => ?_) hown.2.1 hown.2.2 ⟨hgb.os, hgb.tape, hgb.output, hgb.size, fun k hk hne => hgb.block k hk (fun e => hne e.symm)⟩
                obtain ⟨r1, r2⟩ := getA_dropB_some hb
                have := h.inj b b1 blk _ r2 hg p2 rfl e
                exact r1 (by rw [this]; exact p1)
            have hm : (∀ b blk, getA (dropB src.blk st.bl) b = some blk → ρ b ≠ m) ∧ V.f m = none ∧ (w0.heap.size ≤ m ∨ B = some m) := by
              rcases hloc with rfl | hl
              · exact ⟨fun b blk hb => by have := hd.lt hb; omega, vnone h, .inl h.below.size⟩
              · obtain ⟨b1, ct, ver, p1, p2, rfl⟩ := hrow m hl
                have hown := h.own b1 _ p2 rfl
                refine ⟨fun b blk hb e => ?_, hown.2.1, hown.2.2⟩
                obtain ⟨r1, r2⟩ := getA_dropB_some hb
                cases hg : blk.giv with
                | false => exact r1 (by rw [h.inj b b1 blk _ r2 hg p2 rfl e]; exact p1)
                | true => have := h.giv b blk r2 hg; rw [e, hown.2.1] at this; cases this
            have hrel := hw1.adopt (T := e) (ct := .gr n (OV.gs cs) (OV.gs tl)) (ver := 0) (n0 := m) rfl hm.1 hat hm.2.1 hm.2.2
            have hput' : putOk C.N { st with bl := (st.nb, ⟨e, .gr n (OV.gs cs) (OV.gs tl), false, 0⟩) :: dropB src.blk st.bl, nb := st.nb + 1 } o.dst (.one (.slice st.nb (.lit 0) (.clen n (OV.gs cs)) (.ctot n (OV.gs cs) (OV.gs tl)))) = true := by
              simp only [putOk, Bool.and_eq_true]; exact ⟨blt_iff.2 (Nat.lt_succ_self _), hdst⟩
            have hval : (AV.one (SC.slice st.nb (.lit 0) (.clen n (OV.gs cs)) (.ctot n (OV.gs cs) (OV.gs tl)))).ev (upd ρ st.nb m) = .slice (some ⟨m, 0, none⟩) (cs.length / n) ((cs.length + tl.length) / n) := by
              simp only [AV.ev, SC.ev, SI.ev, OV.gs, glen, gtot, upd_eq, if_true, Int.toNat_natCast, Int.toNat_zero]
            have hrel2 := hrel.put hput'
            rw [hval] at hrel2
            refine hk _ _ _ _ _ _ hrel2 ⟨Mv.put _ _ _ ⟨Nat.le_succ _, fun b hb => by rw [upd_eq]; exact (if_neg (Nat.ne_of_lt hb)).symm, fun _ _ => rfl, fun b blk hb => ?_, VH.le_refl _, fun b hb h0 => ?_⟩, fun _ _ _ k hk2 hne => ?_, fun _ => rfl, fun b hb => ?_, fun k q1 q2 q3 => ⟨?_, q2, fun c blk1 hc hg2 => ?_⟩,
              put_nf { st with bl := (st.nb, ⟨e, .gr n (OV.gs cs) (OV.gs tl), false, 0⟩) :: dropB src.blk st.bl, nb := st.nb + 1 } _ _, fun b blk h1 h2 => ?_⟩ hs1
            · have hbn := (h.blt b blk hb).1
              have hne : b ≠ st.nb := by omega
              by_cases hin : memB b src.blk = true
              · refine .inr ⟨?_, Nat.lt_succ_of_lt hbn⟩
                show getA ((st.nb, _) :: dropB src.blk st.bl) b = none
                rw [getA_cons, if_neg hne, getA_dropB, if_pos hin]
              · refine .inl ⟨blk, ?_, rfl, rfl, Nat.le_refl _, fun _ => rfl⟩
                show getA ((st.nb, _) :: dropB src.blk st.bl) b = some blk
                rw [getA_cons, if_neg hne, getA_dropB, if_neg hin]; exact hb
            · show getA ((st.nb, _) :: dropB src.blk st.bl) b = none
              rw [getA_cons, if_neg (by omega), getA_dropB]
              split
              · rfl
              · exact h0
            · refine hgb.block k hk2 fun e => ?_
              obtain ⟨b1, ct, ver, p1, p2, p3⟩ := hrow k e.symm
              exact hne b1 (htg2 b1 p1).1 p3
            · obtain ⟨ct, ver, _, p2, _⟩ := htg b hb
              exact ⟨_, p2, rfl⟩
            · refine hgb.block k q1 fun e => ?_
              obtain ⟨b1, ct, ver, p1, p2, p3⟩ := hrow k e.symm
              exact q3 b1 _ p2 rfl p3.symm
            · rw [put_bl] at hc
              simp only [getA_cons] at hc
              split at hc
              · rename_i e0; subst e0
                rw [upd_eq, if_pos rfl]
                rcases hloc with rfl | hl
                · omega
                · obtain ⟨b1, ct, ver, p1, p2, rfl⟩ := hrow m hl
                  exact q3 b1 _ p2 rfl
              · rename_i e0
                rw [upd_eq, if_neg e0]
                exact q3 c blk1 (getA_dropB_some hc).2 hg2
            · rw [put_bl] at h2
              simp only [getA_cons] at h2
              split at h2
              · cases h2
              · rw [getA_dropB] at h2
                split at h2
                · rename_i hin; exact (htg2 b ((memB_iff _ _).1 hin)).1
                · rw [h1] at h2; cases h2
          · cases hs
        · cases hs
      · rename_i so xo t t' hgw hal htl
        split at hs
        · rename_i b o0 n cp e hso hxo hu
          have hnt : ∀ b, tgtOf o st = some b → ∃ blk, getA st.bl b = some blk ∧ blk.giv = false := by
            intro b hb; unfold tgtOf at hb; rw [ho] at hb; simp only [hal, hso] at hb; cases hb
          split at hs
          · rename_i T0 cs gv vr i zz hb hi hz
            split at hs
            · rename_i hc
              simp only [Bool.and_eq_true] at hc
              obtain ⟨⟨⟨⟨⟨c1, c2⟩, c3⟩, c4⟩, c5⟩, c6⟩ := hc
              have c1 := Nat.eq_of_beq_eq_true c1
              subst c1
              have c2 := blt_lt c2
              have c3 := Nat.le_of_ble_eq_true c3
              have c4 := Nat.le_of_ble_eq_true c4
              have c5 := Nat.le_of_ble_eq_true c5
              have hargs : args = #[so, xo] := by apply Array.ext'; simpa using hal
              have hats : ats = #[t, t] := by apply Array.ext'; simpa using htl
              have hes : a.eval so = .slice none 0 0 := by
                rw [hev so (by rw [ho, hargs]; simp [Op.operands, Call.operands]), hso]; rfl
              have hex : a.eval xo = .slice (some ⟨ρ b, o0, none⟩) n cp.ev.toNat := by
                rw [hev xo (by rw [ho, hargs]; simp [Op.operands, Call.operands]), hxo]; simp [AV.ev, SC.ev, SI.ev]
              obtain ⟨zv, hzv⟩ : ∃ zv, i.zero = some zv := by
                unfold zeroT at hz; rw [hi] at hz
                simp only [Option.map_eq_some_iff] at hz
                obtain ⟨zv, h1, _⟩ := hz; exact ⟨zv, h1⟩
              have hrow := h.heapOf hb
              have hnews : ∀ j u, (evL ρ ((cs.drop o0).take (n * i.size)))[j]? = some u → w.cell? ((⟨ρ b, o0, none⟩ : Addr).add j) = some u := by
                intro j u hj
                rw [addr_add, cell_of_row w (ρ b) (o0 + j) _ T0 _ hrow]
                simp only [Ct.ev, evL, List.getElem?_map, List.getElem?_take, List.getElem?_drop] at hj ⊢
                split at hj
                · simpa using hj
                · simp at hj
              have hr := run_append_nil (P := C.P) w t o.type e i zv hu hi hzv ⟨ρ b, o0, none⟩ n cp.ev.toNat (evL ρ ((cs.drop o0).take (n * i.size))) (by simp [evL]; omega) hnews c2 (by omega) (by omega)
              have hrun : (execOp a.eval o).run C.P w = .ok (.value (.slice (some ⟨w.heap.size, 0, none⟩) n (grownCap w n 0 e))) (w.drew.alloc (.cells ((evL ρ ((cs.drop o0).take (n * i.size))).toArray ++ Builtin.zeroCells zv.cells (grownCap w n 0 e - n)) e)) := by
                unfold execOp
                simp only [ho, hargs, hats, resolve, invoke, builtin, Sem.run_bind, Sem.run_pure, Result.andThen_ok, List.map_toArray, List.map_cons, List.map_nil, hes, hex, hr]
              rw [hrun]
              have hs1 := hs w.heap.size (grownCap w n 0 e) (Builtin.zeroCells zv.cells (grownCap w n 0 e - n)).toList (vnone h)
              have hobj : (evL ρ ((cs.drop o0).take (n * i.size)) ++ (Builtin.zeroCells zv.cells (grownCap w n 0 e - n)).toList).toArray = (evL ρ ((cs.drop o0).take (n * i.size))).toArray ++ Builtin.zeroCells zv.cells (grownCap w n 0 e - n) := by
                apply Array.ext'; simp
              rw [hobj] at hs1
              have hrel := h.made (.cells ((evL ρ ((cs.drop o0).take (n * i.size))).toArray ++ Builtin.zeroCells zv.cells (grownCap w n 0 e - n)) e)
              have hput' : putOk C.N st o.dst (.one (.val (OV.slc w.heap.size n (grownCap w n 0 e)))) = true := by
                simp only [putOk, Bool.and_eq_true]; exact ⟨rfl, c6⟩
              refine hk _ _ _ _ _ _ (hrel.put hput') ⟨Mv.put _ _ _ ⟨Nat.le_refl _, fun _ _ => rfl, fun _ _ => rfl, fun b blk h => .inl ⟨blk, h, rfl, rfl, Nat.le_refl _, fun _ => rfl⟩, VH.le_put (vnone h) _, fun _ _ h => h⟩, fun _ _ _ m hm _ => ?_, fun hc => (by rw [hic] at hc; cases hc), hnt, fun m q1 q2 q3 => ⟨?_, ?_, by rw [put_bl]; exact q3⟩, put_nf _ _ _, fun b blk h1 h2 => (gone_put h1 h2).elim⟩ hs1
              · show (w.heap.push _)[m]? = _
                rw [Array.getElem?_push, if_neg (by omega)]
              · show (w.heap.push _)[m]? = _
                rw [Array.getElem?_push, if_neg (by omega)]
              · simp only [VH.put]
                rw [if_neg (by omega)]; exact q2
            · cases hs
          · cases hs
        · cases hs
      · cases hs
    · rename_i op hno1 hno2 hno3 hno4
      split at hs
      · rename_i reqs T ct v1 hnew
        split at hs
        · rename_i hput
          simp only [Bool.and_eq_true] at hput
          obtain ⟨hr, hs⟩ := needs_sem hs
          have hs1 := hs w.heap.size
          rw [new_sound (ρ := ρ) (w := w) hev hnew hr]
          have hrel := h.new hput.1.1 (T := T) (ver := 0)
          have hput' : putOk C.N { st with bl := (st.nb, ⟨T, ct, false, 0⟩) :: st.bl, nb := st.nb + 1 } o.dst v1 = true := by
            simp only [putOk, Bool.and_eq_true]; exact ⟨hput.2, hput.1.2⟩
          refine hk _ _ _ _ _ _ (hrel.put hput') ⟨Mv.put _ _ _ ?_, ?_, fun _ => rfl, ?_, fun n q1 q2 q3 => ⟨?_, q2, fun c blk1 hc hg2 => ?_⟩, put_nf { st with bl := (st.nb, ⟨T, ct, false, 0⟩) :: st.bl, nb := st.nb + 1 } _ _, fun b blk h1 h2 => (gone_cput h1 h2).elim⟩ hs1
          rotate_left 3
          · show (w.heap.push _)[n]? = _
            rw [Array.getElem?_push, if_neg (by omega)]
          · rw [put_bl] at hc
            simp only [getA_cons] at hc
            split at hc
            · rename_i e; subst e; rw [upd_eq, if_pos rfl]; omega
            · rename_i e; rw [upd_eq, if_neg e]; exact q3 c blk1 hc hg2
          · refine ⟨Nat.le_succ _, ?_, fun _ _ => rfl, ?_, VH.le_refl _, fun c hc h0 => rm_new c hc h0⟩
            · intro b hb; rw [upd_eq, if_neg (by omega)]
            · intro b blk hb'
              have hne : b ≠ st.nb := by have := (h.blt b blk hb').1; omega
              exact .inl ⟨blk, by simp [getA_cons, hne, hb'], rfl, rfl, Nat.le_refl _, fun _ => rfl⟩
          · intro _ _ _ n hn _
            show (w.heap.push _)[n]? = _
            rw [Array.getElem?_push, if_neg (by omega)]
          · intro b hb
            unfold tgtOf at hb
            split at hb
            · rename_i t x y ho; exact absurd ho (hno2 t x y)
            · rename_i args ats ho; exact absurd ho (hno4 args ats)
            · cases hb
        · cases hs
      · cases hs
end
end Go.Dx
