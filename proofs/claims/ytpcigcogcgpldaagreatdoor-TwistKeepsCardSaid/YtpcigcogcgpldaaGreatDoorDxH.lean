/- A text of this claim's own: Dx.Loop, Dx.Last, Dx.Sound5, Dx.Sound6. -/
import Derived.Test.YtpcigcogcgpldaaGreatDoorDxG
import Derived.LoopN
import Derived.KernelRfl
set_option linter.unusedVariables false
set_option linter.unusedSimpArgs false
set_option linter.unusedVariables false
set_option linter.unusedSimpArgs false
namespace Go.Dx
open Go.RowKit
/-- a loop, from its body's begin on -/
def LW (P : Program) (c : Code) (Q : Exit → Act → World → Prop) (a : Act) (w : World) : Prop :=
  ∀ b k cs, ∃ e a' w', Q e a' w' ∧ Arrives P (lone (b.at a (.code c :: .inLoop c :: k)) cs w) b k cs e a' w'
theorem LW.wp {P : Program} {c : Code} {Q : Exit → Act → World → Prop} {a : Act} {w : World} (h : LW P c Q a w) : (Code.loop c).wp P Q a w := by
  intro b k cs
  obtain ⟨e, a', w', hq, harr⟩ := h b k cs
  exact ⟨e, a', w', hq, .of_steps (.one step_loop) harr⟩
theorem LW.round {P : Program} {c : Code} {Q : Exit → Act → World → Prop} {a : Act} {w : World} (h : c.wp P (Exit.then (LW P c Q) Q) a w) : LW P c Q a w := by
  intro b k cs
  obtain ⟨e, a₁, w₁, hq, harr⟩ := h b (.inLoop c :: k) cs
  cases e with
  | normal =>
    obtain ⟨e₂, a₂, w₂, hq₂, harr₂⟩ := hq b k cs
    exact ⟨e₂, a₂, w₂, hq₂, .of_steps (Steps.trans harr (.one step_inLoop)) harr₂⟩
  | exit id => exact ⟨_, a₁, w₁, hq, .pass (x := .inLoop c) rfl (fun _ _ => .inl (by simp)) harr⟩
  | goto l => exact ⟨_, a₁, w₁, hq, .pass (x := .inLoop c) rfl (fun _ _ => .inl (by simp)) harr⟩
  | ret => exact ⟨_, a₁, w₁, hq, .pass (x := .inLoop c) rfl (fun _ _ => .inl (by simp)) harr⟩
  | panic ch => exact ⟨_, a₁, w₁, hq, .pass (x := .inLoop c) rfl (fun _ _ => .inl (by simp)) harr⟩
  | outgrown => exact ⟨_, a₁, w₁, hq, .pass (x := .inLoop c) rfl (fun _ _ => .inl (by simp)) harr⟩
theorem then_mono {next next' : Act → World → Prop} {Q : Exit → Act → World → Prop} (h : ∀ a w, next a w → next' a w) : ∀ e a w, Exit.then next Q e a w → Exit.then next' Q e a w := by
  intro e a w hq
  cases e <;> first | exact h _ _ hq | exact hq
theorem LW.ghost {P : Program} {c : Code} {Q : Exit → Act → World → Prop} (J : Nat → Act → World → Prop) (round : ∀ n a w, J n a w → c.wp P (Exit.then (fun a' w' => ∃ n', n' < n ∧ J n' a' w') Q) a w) : ∀ n a w, J n a w → LW P c Q a w := by
  intro n
  induction n using Nat.strongRecOn with
  | _ n ih =>
    intro a w hJ
    exact LW.round (wp_mono (round n a w hJ) (then_mono fun a' w' ⟨n', hlt, hJ'⟩ => ih n' hlt a' w' hJ'))

section
variable {C : Cfg} {R : Value → VH → Option (List Int) → Prop} {B : Option Nat} {w0 : World} {V0 : VH} {P : Program} {S : List LF}

/-- what a loop's variable may stand for -/
def okU : UK → OV → Prop
  | .i k, x => ∃ n, x = OV.int k n
  | .b, x => ∃ b, x = OV.bool b
  | .s, x => ∃ s, x = OV.str s
  | .x, _ => True
  | .l, x => ∃ l, x = OV.lst l
def okUs : List UK → List OV → Prop
  | [], [] => True
  | u :: us, x :: xs => okU u x ∧ okUs us xs
  | _, _ => False
theorem ubinds_sem {v : Value} {V : VH} {ρ : Nat → Nat} : ∀ (us : List UK) (xs : List OV) {k : List OV → Tree OV}, sem P R (ubinds us k) v V ρ S → okUs us xs → sem P R (k xs) v V ρ S
  | [], [], k, h, _ => h
  | [], _ :: _, k, h, hok => hok.elim
  | _ :: _, [], k, h, hok => by cases hok
  | u :: us, x :: xs, k, h, hok => by
    obtain ⟨h1, h2⟩ := hok
    cases u with
    | i kd => obtain ⟨n, rfl⟩ := h1; exact ubinds_sem us xs (h n) h2
    | b => obtain ⟨n, rfl⟩ := h1; exact ubinds_sem us xs (h n) h2
    | s => obtain ⟨n, rfl⟩ := h1; exact ubinds_sem us xs (h n) h2
    | x => exact ubinds_sem us xs (h x) h2
    | l => obtain ⟨n, rfl⟩ := h1; exact ubinds_sem us xs (h n) h2
theorem ukOf_ok {lv : LV OV} {u : UK} (h : ukOf lv = some u) : okU u lv.ov := by
  unfold ukOf at h
  split at h <;> first
    | (injection h with h; subst h; first | exact ⟨_, rfl⟩ | trivial)
    | cases h
theorem mapM_some {α β : Type} {f : α → Option β} : ∀ {l : List α} {r : List β}, l.mapM f = some r → l.length = r.length ∧ ∀ (i : Nat) (x : α), l[i]? = some x → ∃ y, r[i]? = some y ∧ f x = some y
  | [], r, h => by simp at h; subst h; exact ⟨rfl, fun i x h => by simp at h⟩
  | a :: l, r, h => by
    simp only [List.mapM_cons, Option.bind_eq_bind, Option.pure_def] at h
    cases h1 : f a with
    | none => simp [h1] at h
    | some y =>
      cases h2 : l.mapM f with
      | none => simp [h1, h2] at h
      | some ys =>
        simp [h1, h2] at h
        subst h
        obtain ⟨e1, e2⟩ := mapM_some h2
        refine ⟨by simp [e1], fun i x hi => ?_⟩
        cases i with
        | zero => simp at hi; subst hi; exact ⟨y, rfl, h1⟩
        | succ i => simp at hi; exact e2 i x hi
theorem uks_ok : ∀ {vs : List (LV OV)} {us : List UK}, vs.mapM ukOf = some us → okUs us (vs.map LV.ov)
  | [], us, h => by simp at h; subst h; trivial
  | a :: l, us, h => by
    simp only [List.mapM_cons, Option.bind_eq_bind, Option.pure_def] at h
    cases h1 : ukOf a with
    | none => simp [h1] at h
    | some y =>
      cases h2 : l.mapM ukOf with
      | none => simp [h1, h2] at h
      | some ys =>
        simp [h1, h2] at h
        subst h
        exact ⟨ukOf_ok h1, uks_ok h2⟩

theorem getA_drop {ds : List Nat} : ∀ {fr : List (Nat × AV OV)} {t : Nat} {v : AV OV}, getA (dropFr ds fr) t = some v → t ∉ ds ∧ getA fr t = some v
  | [], t, v, h => by simp [dropFr, getA] at h
  | (j, x) :: fr, t, v, h => by
    unfold dropFr at h
    rw [List.filter_cons] at h
    split at h
    · rename_i hm
      rw [getA_cons] at h
      split at h
      · rename_i e
        subst e
        injection h with h; subst h
        refine ⟨fun h' => ?_, by rw [getA_cons, if_pos rfl]⟩
        have := (memB_iff _ _).2 h'
        simp [this] at hm
      · rename_i e
        obtain ⟨h1, h2⟩ := getA_drop (fr := fr) h
        exact ⟨h1, by rw [getA_cons, if_neg e]; exact h2⟩
    · rename_i hm
      obtain ⟨h1, h2⟩ := getA_drop (fr := fr) h
      refine ⟨h1, ?_⟩
      rw [getA_cons]
      have : t ≠ j := by
        intro e; subst e
        have : memB t ds = true := by simpa using hm
        exact h1 ((memB_iff _ _).1 this)
      rw [if_neg this]; exact h2

theorem getA_headFr : ∀ {ts : List Nat} {us : List UK} {xs : List OV} {fr : List (Nat × AV OV)} {t : Nat} {v : AV OV}, getA (headFr ts us xs fr) t = some v →
    (∃ (i : Nat) (u : UK) (x : OV), ts[i]? = some t ∧ us[i]? = some u ∧ xs[i]? = some x ∧ v = .one (varC u x)) ∨ getA fr t = some v
  | [], us, xs, fr, t, v, h => .inr (by cases us <;> cases xs <;> exact h)
  | t0 :: ts, [], xs, fr, t, v, h => .inr (by cases xs <;> exact h)
  | t0 :: ts, u :: us, [], fr, t, v, h => .inr h
  | t0 :: ts, u :: us, x :: xs, fr, t, v, h => by
    simp only [headFr, getA_cons] at h
    split at h
    · rename_i e
      subst e
      injection h with h; subst h
      exact .inl ⟨0, u, x, rfl, rfl, rfl, rfl⟩
    · rcases getA_headFr h with ⟨i, u', x', h1, h2, h3, h4⟩ | h
      · exact .inl ⟨i + 1, u', x', h1, h2, h3, h4⟩
      · exact .inr h
theorem getA_headBl {bl0 : List (Nat × Blk OV)} : ∀ {bs : List Nat} {xs : List OV} {bl : List (Nat × Blk OV)} {b : Nat} {blk : Blk OV}, bs.length = xs.length → (∀ b ∈ bs, ∃ T k l g v, getA bl0 b = some ⟨T, .arr k l, g, v⟩) → getA (headBl bl0 bs xs bl) b = some blk →
    (∃ (i : Nat) (x : OV) (T : TypeId) (k : IntKind) (l : SL OV) (g : Bool) (v : Nat), bs[i]? = some b ∧ xs[i]? = some x ∧ getA bl0 b = some ⟨T, .arr k l, g, v⟩ ∧ blk = ⟨T, .arr k (.var x), g, v + 1⟩) ∨ (b ∉ bs ∧ getA bl b = some blk)
  | [], xs, bl, b, blk, hl, ha, h => .inr ⟨by simp, by cases xs <;> exact h⟩
  | b0 :: bs, [], bl, b, blk, hl, ha, h => by simp at hl
  | b0 :: bs, x :: xs, bl, b, blk, hl, ha, h => by
    obtain ⟨T, k, l, g, v, hb⟩ := ha b0 (by simp)
    simp only [headBl, hb, getA_cons] at h
    split at h
    · rename_i e
      subst e
      injection h with h; subst h
      exact .inl ⟨0, x, T, k, l, g, v, rfl, rfl, hb, rfl⟩
    · rename_i e
      rcases getA_headBl (by simpa using hl) (fun b hb => ha b (by simp [hb])) h with ⟨i, x', T', k', l', g', v', h1, h2, h3, h4⟩ | ⟨h1, h2⟩
      · exact .inl ⟨i + 1, x', T', k', l', g', v', h1, h2, h3, h4⟩
      · exact .inr ⟨by simp [h1, e], h2⟩
/-- .. and the other way -/
theorem headBl_getA {bl0 : List (Nat × Blk OV)} : ∀ {bs : List Nat} {xs : List OV} {bl : List (Nat × Blk OV)} {b : Nat}, bs.length = xs.length → (∀ b ∈ bs, ∃ T k l g v, getA bl0 b = some ⟨T, .arr k l, g, v⟩) →
    (b ∉ bs → getA (headBl bl0 bs xs bl) b = getA bl b) ∧ (b ∈ bs → ∃ x T k l g v, getA bl0 b = some ⟨T, .arr k l, g, v⟩ ∧ getA (headBl bl0 bs xs bl) b = some ⟨T, .arr k (.var x), g, v + 1⟩)
  | [], xs, bl, b, hl, ha => ⟨fun _ => by cases xs <;> rfl, fun h => by cases h⟩
  | b0 :: bs, [], bl, b, hl, ha => by simp at hl
  | b0 :: bs, x :: xs, bl, b, hl, ha => by
    obtain ⟨T, k, l, g, v, hb⟩ := ha b0 (by simp)
    have ih := headBl_getA (bl := bl) (b := b) (show bs.length = xs.length by simpa using hl) (fun b hb => ha b (by simp [hb]))
    simp only [headBl, hb, getA_cons]
    by_cases e : b = b0
    · subst e
      exact ⟨fun h => absurd (by simp) h, fun _ => ⟨x, T, k, l, g, v, hb, by rw [if_pos rfl]⟩⟩
    · rw [if_neg e]
      exact ⟨fun h => ih.1 (fun h' => h (by simp [h'])), fun h => ih.2 (by simpa [e] using h)⟩

theorem slotLV_some {st : St OV} {t : Nat} {lv : LV OV} (h : slotLV st t = some lv) : ∃ c, lv = .cell c ∧ getA st.fr t = some (.one c) ∧ c.wf 0 = true := by
  unfold slotLV at h
  split at h
  · rename_i c hg
    split at h
    · rename_i hw
      injection h with h; subst h; exact ⟨c, rfl, hg, hw⟩
    · cases h
  · cases h
theorem blkLV_some {st : St OV} {b : Nat} {lv : LV OV} (h : blkLV st b = some lv) : ∃ T k l v, lv = .lst l ∧ getA st.bl b = some ⟨T, .arr k l, false, v⟩ := by
  unfold blkLV at h
  split at h
  · rename_i T k l v hg
    injection h with h; subst h; exact ⟨T, k, l, v, rfl, hg⟩
  · cases h
theorem lvs_some {st : St OV} {slots blks : List Nat} {vs : List (LV OV)} (h : lvs st slots blks = some vs) : ∃ A E, slots.mapM (slotLV st) = some A ∧ blks.mapM (blkLV st) = some E ∧ vs = A ++ E := by
  unfold lvs at h
  split at h
  · rename_i A E hA hE
    injection h with h; exact ⟨A, E, hA, hE, h.symm⟩
  · cases h
theorem varC_ev {c : SC OV} {u : UK} (h : ukOf (.cell c) = some u) (ρ ρ' : Nat → Nat) : (varC u (LV.ov (.cell c))).ev ρ = c.ev ρ' := by
  unfold ukOf at h
  split at h <;> first
    | (rename_i heq; cases heq; injection h with h; subst h; rfl)
    | (rename_i heq; cases heq; done)
    | cases h
theorem varC_wf (u : UK) (x : OV) (n : Nat) : (varC u x).wf n = true := by cases u <;> rfl

/-- the state at a loop's head -/
theorem head_rel {N : Nat} {st st' : St OV} {V V' : VH} {ρ ρ' : Nat → Nat} {a a' : Act} {w w' : World} {ds slots blks : List Nat} {init vs : List (LV OV)} {uks : List UK}
    (h0 : Rel N B w0 V0 st V ρ a w) (h : Rel N B w0 V0 st' V' ρ' a' w') (hi : lvs st slots blks = some init) (hlv : lvs st' slots blks = some vs) (hu : vs.mapM ukOf = some uks)
    (ag : ∀ b, b < st.nb → ρ b = ρ' b) (tm : ∀ t, t ∉ ds → a'.tmps.getD t undef = a.tmps.getD t undef)
    (bk : ∀ b blk, getA st.bl b = some blk → ∃ blk', getA st'.bl b = some blk' ∧ blk'.T = blk.T ∧ blk'.ct.kind = blk.ct.kind ∧ (b ∉ blks → blk'.ct = blk.ct ∧ blk'.giv = blk.giv)) :
    Rel N B w0 V0 (headSt st ds slots blks uks (vs.map LV.ov)) V' ρ a' w' := by
  obtain ⟨A0, E0, hA0, hE0, rfl⟩ := lvs_some hi
  obtain ⟨A, E, hA, hE, rfl⟩ := lvs_some hlv
  have hlA := (mapM_some hA).1
  have hlE := (mapM_some hE).1
  have hlU := (mapM_some hu).1
  have harr : ∀ b ∈ blks, ∃ T k l g v, getA st.bl b = some ⟨T, .arr k l, g, v⟩ := by
    intro b hb
    obtain ⟨i, hi⟩ := List.getElem?_of_mem hb
    obtain ⟨lv, _, h2⟩ := (mapM_some hE0).2 i b hi
    obtain ⟨T, k, l, v, _, h4⟩ := blkLV_some h2
    exact ⟨T, k, l, false, v, h4⟩
  have harr0 : ∀ b ∈ blks, ∀ blk, getA st.bl b = some blk → blk.giv = false := by
    intro b hb blk hblk
    obtain ⟨i, hi⟩ := List.getElem?_of_mem hb
    obtain ⟨lv, _, h2⟩ := (mapM_some hE0).2 i b hi
    obtain ⟨T, k, l, v, _, h4⟩ := blkLV_some h2
    rw [h4] at hblk; injection hblk with hblk; subst hblk; rfl
  have hdrop : ((A ++ E).map LV.ov).drop slots.length = E.map LV.ov := by
    rw [List.map_append, hlA]; simp
  have hlen : blks.length = (((A ++ E).map LV.ov).drop slots.length).length := by rw [hdrop]; simp [hlE]
  -- every block of the head's: what stands in the state behind
  have key : ∀ b blk, getA (headSt st ds slots blks uks ((A ++ E).map LV.ov)).bl b = some blk → b < st.nb ∧ blk.ct.wf st.nb = true ∧ ∃ blk', getA st'.bl b = some blk' ∧ blk'.T = blk.T ∧ blk'.ct.ev ρ' = blk.ct.ev ρ ∧ blk'.giv = blk.giv := by
    intro b blk hb
    rcases getA_headBl hlen harr hb with ⟨i, x, T, k, l, g, v, h1, h2, h3, rfl⟩ | ⟨h1, h2⟩
    · have hmem : b ∈ blks := List.mem_of_getElem? h1
      have hbl := h0.blt b _ h3
      refine ⟨hbl.1, rfl, ?_⟩
      obtain ⟨lv, q1, q2⟩ := (mapM_some hE).2 i b h1
      obtain ⟨T', k', l', v', rfl, q4⟩ := blkLV_some q2
      obtain ⟨blk', r1, r2, r3, _⟩ := bk b _ h3
      rw [q4] at r1; injection r1 with r1; subst r1
      simp only at r2; subst r2
      simp only [Ct.kind, CK.arr.injEq] at r3; subst r3
      refine ⟨_, q4, rfl, ?_, (harr0 b hmem _ h3).symm⟩
      rw [hdrop] at h2
      simp only [List.getElem?_map, q1, Option.map_some, Option.some.injEq] at h2
      subst h2
      simp [Ct.ev, SL.ev, LV.ov, OV.lst]
    · have hbl := h0.blt b _ h2
      obtain ⟨blk', r1, r2, r3, r4⟩ := bk b _ h2
      obtain ⟨r5, r6⟩ := r4 h1
      exact ⟨hbl.1, hbl.2, blk', r1, r2, by rw [r5]; exact (Ct.ev_congr ag hbl.2).symm, r6⟩
  refine { fr := ?_, sz := h.sz, df := h.df, wfF := ?_, blt := fun b blk hb => ⟨(key b blk hb).1, (key b blk hb).2.1⟩, vw := h.vw, own := ?_, giv := ?_, inj := ?_, below := h.below, vdom := h.vdom, vle := h.vle }
  · intro t v hv
    rcases getA_headFr hv with ⟨i, u, x, h1, h2, h3, rfl⟩ | hv
    · obtain ⟨lv, q1, q2⟩ := (mapM_some hA).2 i t h1
      obtain ⟨c, rfl, q4, q5⟩ := slotLV_some q2
      have hlt : i < A.length := (List.getElem?_eq_some_iff.1 q1).1
      have e1 : (A ++ E)[i]? = some (.cell c) := by rw [List.getElem?_append_left hlt]; exact q1
      obtain ⟨u', r1, r2⟩ := (mapM_some hu).2 i _ e1
      rw [h2] at r1; injection r1 with r1; subst r1
      simp only [List.getElem?_map, e1, Option.map_some, Option.some.injEq] at h3
      subst h3
      rw [h.fr t _ q4]
      exact (varC_ev r2 ρ ρ').symm
    · obtain ⟨h1, h2⟩ := getA_drop hv
      rw [tm t h1]; exact h0.fr t v h2
  · intro t v hv
    rcases getA_headFr hv with ⟨i, u, x, h1, h2, h3, rfl⟩ | hv
    · exact varC_wf _ _ _
    · exact h0.wfF t v (getA_drop hv).2
  · intro b blk hb hg
    obtain ⟨k1, k2, blk', k3, k4, k5, k6⟩ := key b blk hb
    have := h.own b blk' k3 (by rw [k6]; exact hg)
    rw [ag b k1, ← k5, ← k4]; exact this
  · intro b blk hb hg
    obtain ⟨k1, k2, blk', k3, k4, k5, k6⟩ := key b blk hb
    have := h.giv b blk' k3 (by rw [k6]; exact hg)
    rw [ag b k1, ← k5, ← k4]; exact this
  · intro b1 b2 c1 c2 h1 g1 h2 g2 e
    obtain ⟨k1, k2, blk', k3, k4, k5, k6⟩ := key b1 c1 h1
    obtain ⟨m1, m2, blk2', m3, m4, m5, m6⟩ := key b2 c2 h2
    rw [ag b1 k1, ag b2 m1] at e
    exact h.inj b1 b2 blk' blk2' k3 (by rw [k6]; exact g1) m3 (by rw [m6]; exact g2) e

/-! ### a loop in which a row grows -/
theorem growLV_spec {T : TypeId} {s : Nat} {st : St OV} {g : Nat} {ge : GE OV} (h : growLV T s st g = some ge) (hr : ∀ c ∈ ge.reqs, c.ev = true) :
    (ge = .nil ∧ getA st.fr g = some nilC) ∨ ∃ b x t r ver off n c, ge = .gr b x t r ∧ getA st.fr g = some (.one (.slice b off n c)) ∧ getA st.bl b = some ⟨T, .gr s x t, false, ver⟩ ∧ off.ev = 0 ∧ n.ev = glen s x.cs ∧ c.ev = gtot s x.cs t.cs ∧ GOk s x.cs t.cs := by
  unfold growLV at h
  split at h
  · rename_i hg
    injection h with h; subst h
    exact .inl ⟨rfl, hg⟩
  · rename_i b off n c hg
    simp only [Option.map_eq_some_iff] at h
    obtain ⟨⟨r, x, t⟩, h1, rfl⟩ := h
    obtain ⟨ver, q1, q2, q3, q4, q5⟩ := growA_spec h1 hr
    exact .inr ⟨b, x, t, r, ver, off, n, c, rfl, hg, q1, q2, q3, q4, q5⟩
  · cases h
theorem Rel.consFr {N : Nat} {st : St OV} {V : VH} {ρ : Nat → Nat} {a : Act} {w : World} (h : Rel N B w0 V0 st V ρ a w) {t : Nat} {v : AV OV} (hv : a.tmps.getD t undef = v.ev ρ) (hw : v.wf st.nb = true) : Rel N B w0 V0 { st with fr := (t, v) :: st.fr } V ρ a w := by
  refine { h with fr := ?_, wfF := ?_ }
  · intro u x hx
    rw [getA_cons] at hx
    split at hx
    · rename_i e; subst e; injection hx with hx; subst hx; exact hv
    · exact h.fr u x hx
  · intro u x hx
    rw [getA_cons] at hx
    split at hx
    · injection hx with hx; subst hx; exact hw
    · exact h.wfF u x hx
/-- the head, with the row that grows: none yet, or a row of our own -/
def HeadOk (N : Nat) (B : Option Nat) (w0 : World) (V0 : VH) (hd : St OV) (g : Nat) (T : TypeId) (s : Nat) (nil : Bool) (y : OV) (V : VH) (ρ : Nat → Nat) (a : Act) (w : World) : Prop :=
  (nil = true ∧ y = OV.gs [] ∧ Rel N B w0 V0 (headN hd g) V ρ a w) ∨ ∃ (m : Nat) (cs tl : List Value), y = OV.gs cs ∧ GOk s cs tl ∧ Rel N B w0 V0 (headG hd g T s (OV.gs cs) (OV.gs tl)) V (upd ρ hd.nb m) a w
theorem grow_head {N : Nat} {st0 st' : St OV} {V V' : VH} {ρ ρ' : Nat → Nat} {a a' : Act} {w w' : World} {ds slots blks : List Nat} {init vs : List (LV OV)} {uks : List UK} {T : TypeId} {s g : Nat} {ge : GE OV}
    (h0 : Rel N B w0 V0 st0 V ρ a w) (h : Rel N B w0 V0 st' V' ρ' a' w') (hi : lvs st0 slots blks = some init) (hlv : lvs st' slots blks = some vs) (hu : vs.mapM ukOf = some uks)
    (ag : ∀ b, b < st0.nb → ρ b = ρ' b) (tm : ∀ t, t ∉ ds → a'.tmps.getD t undef = a.tmps.getD t undef)
    (bk : ∀ b blk, getA st0.bl b = some blk → ∃ blk', getA st'.bl b = some blk' ∧ blk'.T = blk.T ∧ blk'.ct.kind = blk.ct.kind ∧ (b ∉ blks → blk'.ct = blk.ct ∧ blk'.giv = blk.giv))
    (hge : growLV T s st' g = some ge) (hrq : ∀ c ∈ ge.reqs, c.ev = true) (hout : ∀ b ∈ ge.blk, getA st0.bl b = none) {nil : Bool} (hnil : ge.isNil = true → nil = true) :
    HeadOk N B w0 V0 (headSt st0 ds slots blks uks (vs.map LV.ov)) g T s nil ge.lv.ov V' ρ a' w' := by
  have hb := head_rel (ds := ds) h0 h hi hlv hu ag tm bk
  rcases growLV_spec hge hrq with ⟨rfl, hg⟩ | ⟨b', x, t, r, ver, off, n, c, rfl, hg, q1, q2, q3, q4, q5⟩
  · exact .inl ⟨hnil rfl, rfl, hb.consFr (h.fr g _ hg) rfl⟩
  · refine .inr ⟨ρ' b', x.cs, t.cs, rfl, q5, ?_⟩
    obtain ⟨o1, o2, o3⟩ := h.own b' _ q1 rfl
    have hb0 : getA st0.bl b' = none := hout b' (by simp [GE.blk])
    have hne : ∀ b blk, getA (headSt st0 ds slots blks uks (vs.map LV.ov)).bl b = some blk → ρ b ≠ ρ' b' := by
      intro b blk hbl e
      cases hgv : blk.giv with
      | true =>
        have := hb.giv b blk hbl hgv
        rw [e, o2] at this; cases this
      | false =>
        obtain ⟨A0, E0, hA0, hE0, rfl⟩ := lvs_some hi
        obtain ⟨A, E, hA, hE, rfl⟩ := lvs_some hlv
        have hlA := (mapM_some hA).1
        have hlE := (mapM_some hE).1
        have harr : ∀ b ∈ blks, ∃ T k l g v, getA st0.bl b = some ⟨T, .arr k l, g, v⟩ := by
          intro b hb
          obtain ⟨i, hi⟩ := List.getElem?_of_mem hb
          obtain ⟨lv, _, h2⟩ := (mapM_some hE0).2 i b hi
          obtain ⟨T, k, l, v, _, h4⟩ := blkLV_some h2
          exact ⟨T, k, l, false, v, h4⟩
        have hdrop : ((A ++ E).map LV.ov).drop slots.length = E.map LV.ov := by
          rw [List.map_append, hlA]; simp
        have hlen : blks.length = (((A ++ E).map LV.ov).drop slots.length).length := by rw [hdrop]; simp [hlE]
        have hst : ∃ blk0, getA st0.bl b = some blk0 ∧ (b ∉ blks → blk0.giv = false) := by
          rcases getA_headBl hlen harr hbl with ⟨i, x, T, k, l, g, v, h1, h2, h3, rfl⟩ | ⟨h1, h2⟩
          · exact ⟨_, h3, fun hn => absurd (List.mem_of_getElem? h1) hn⟩
          · exact ⟨_, h2, fun _ => hgv⟩
        obtain ⟨blk0, p1, p2⟩ := hst
        obtain ⟨blk1, r1, r2, r3, r4⟩ := bk b blk0 p1
        have hg1 : blk1.giv = false := by
          by_cases hm : b ∈ blks
          · obtain ⟨i, hi⟩ := List.getElem?_of_mem hm
            obtain ⟨lv, _, h2⟩ := (mapM_some hE).2 i b hi
            obtain ⟨T, k, l, v, _, h4⟩ := blkLV_some h2
            rw [r1] at h4; injection h4 with h4; subst h4; rfl
          · rw [(r4 hm).2]; exact p2 hm
        have hlt := (h0.blt b blk0 p1).1
        rw [ag b hlt] at e
        have := h.inj b b' blk1 _ r1 hg1 q1 rfl e
        subst this
        rw [hb0] at p1; cases p1
    have had := hb.adopt (T := T) (ct := .gr s (OV.gs x.cs) (OV.gs t.cs)) (ver := 0) (n0 := ρ' b') rfl hne o1 o2 o3
    refine had.consFr ?_ (blt_iff.2 (Nat.lt_succ_self _))
    have hv := h.fr g _ hg
    have hv' : a'.tmps.getD g undef = .slice (some ⟨ρ' b', off.ev.toNat, none⟩) n.ev.toNat c.ev.toNat := hv
    rw [hv', q2, q3, q4]
    simp only [AV.ev, SC.ev, SI.ev, upd_eq, if_true, OV.gs]
end
end Go.Dx

set_option linter.unusedVariables false
namespace Go.Dx
open Go.RowKit
section
variable {P : Program} {ops : Array Oper} {Q : Exit → Act → World → Prop} {S : World → Prop}

/-- the last operation waits for all the others, none of them looks at it, and each waits for earlier ones alone -/
structure LastX (ops : Array Oper) (oz : Oper) : Prop where
  at_ : ops[ops.size - 1]? = some oz
  pos : 0 < ops.size
  all : ∀ j, j < ops.size - 1 → ∃ e ∈ oz.after, Region.binds .any e = true ∧ e.on = j
  gd : ∀ j o, j < ops.size - 1 → ops[j]? = some o → ∀ g b, o.guard = some (g, b) → g < ops.size - 1
  back : ∀ j o, ops[j]? = some o → ∀ e ∈ o.after, Region.binds .any e = true → e.on < j

theorem pop_get {i : Nat} : ops.pop[i]? = if i < ops.size - 1 then ops[i]? else none := by
  rw [Array.getElem?_pop]
theorem pop_some {i : Nat} {o : Oper} (h : ops.pop[i]? = some o) : i < ops.size - 1 ∧ ops[i]? = some o := by
  rw [pop_get] at h
  split at h
  · rename_i hi; exact ⟨hi, h⟩
  · cases h
theorem getD_push {l : Array Bool} {j : Nat} : (l.push false).getD j false = l.getD j false := by
  simp only [Array.getD_eq_getD_getElem?, Array.getElem?_push]
  split
  · rename_i h; subst h; simp
  · rfl
theorem getD_push' {l : Array Bool} {j : Nat} (h : j ≠ l.size) : (l.push false).getD j true = l.getD j true := by
  simp only [Array.getD_eq_getD_getElem?, Array.getElem?_push, if_neg h]
theorem ready_pop {l : Array Bool} (hs : l.size = ops.size - 1) {j : Nat} (hj : j < ops.size - 1) :
    j ∈ Region.ready .any ops (l.push false) ↔ j ∈ Region.ready .any ops.pop l := by
  rw [mem_ready, mem_ready, getD_push' (by omega), pop_get, if_pos hj]
  simp only [getD_push]
/-- all have come up -/
theorem ready_nil {l : Array Bool} {oz : Oper} (hX : LastX ops oz) (hs : l.size = ops.size - 1) (h : Region.ready .any ops.pop l = []) : ∀ j, j < ops.size - 1 → l.getD j false = true := by
  intro j
  induction j using Nat.strongRecOn with
  | ind j ih =>
    intro hj
    cases hc : l.getD j false with
    | true => rfl
    | false =>
      exfalso
      have : j ∈ Region.ready .any ops.pop l := by
        have hlt : j < ops.size := by omega
        refine mem_ready.2 ⟨?_, ops[j], by rw [pop_get, if_pos hj]; simp [hlt], fun e he hb => ?_⟩
        · simp only [Array.getD_eq_getD_getElem?] at hc ⊢
          rw [Array.getElem?_eq_getElem (by omega)] at hc ⊢
          exact hc
        · have := hX.back j ops[j] (by simp [hlt]) e he hb
          exact ih e.on this (by omega)
      rw [h] at this
      cases this
/-- what comes behind the others: the last one -/
def lastQ (P : Program) (ops : Array Oper) (oz : Oper) (Q : Exit → Act → World → Prop) : Exit → Act → World → Prop
  | .normal => wpList P ops Q [oz]
  | e => Q e
theorem wp_Q {Q Q' : Exit → Act → World → Prop} (hp : ∀ c a w, Q (.panic c) a w → Q' (.panic c) a w) (ho : ∀ a w, Q .outgrown a w → Q' .outgrown a w) {o : Oper} {a : Act} {w : World} {K : Act → World → Prop} (h : o.wp P a w K Q) : o.wp P a w K Q' := by
  have hlo : LetsOut Q → LetsOut Q' := fun ⟨a, w, hq⟩ => ⟨a, w, ho a w hq⟩
  unfold Oper.wp at *
  generalize (execOp a.eval o).run P w = r at *
  cases r with
  | ok n w' =>
    cases n <;> simp only [Oper.upon] at h ⊢ <;>
      first
        | exact h
        | exact Calls.mono h (fun e w'' he => by cases e <;> first | exact he | exact hp _ _ _ he | exact hlo he)
  | halt x w' => cases x <;> simp only [Oper.upon] at h ⊢ <;> first | exact h | exact hp _ _ _ h
theorem wpOp_pop {oz : Oper} (hX : LastX ops oz) {i : Nat} (hi : i < ops.size - 1) {K K' : Act → World → Prop} (hK : ∀ a w, K a w → K' a w) {a : Act} {w : World}
    (h : wpOp P ops.pop (lastQ P ops oz Q) i K a w) : wpOp P ops Q i K' a w := by
  refine wpOp_mono hK ?_
  have hlt : i < ops.size := by omega
  unfold wpOp at h ⊢
  rw [pop_get, if_pos hi] at h
  have ho : ops[i]? = some ops[i] := by simp [hlt]
  rw [ho] at h ⊢
  simp only at h ⊢
  have hw : Region.wanted ops[i] (yielded ops.pop a.tmps) = Region.wanted ops[i] (yielded ops a.tmps) := by
    unfold Region.wanted
    split
    · rfl
    · rename_i j want hg
      have hj := hX.gd i ops[i] hi ho j want hg
      unfold yielded
      rw [pop_get, if_pos hj]
  rw [hw] at h
  split
  · rename_i hq
    rw [if_pos hq] at h
    rcases h with h | ⟨h1, h2⟩
    · exact .inl (wp_Q (fun _ _ _ h => h) (fun _ _ h => h) h)
    · obtain ⟨a', w', h2⟩ := h2
      exact .inr ⟨h1, a', w', h2⟩
  · rename_i hq
    rw [if_neg hq] at h
    exact h
theorem ready_all {oz : Oper} (hX : LastX ops oz) {l : Array Bool} (hs : l.size = ops.size - 1) (h : ∀ j, j < ops.size - 1 → l.getD j false = true) :
    ∀ j, j ∈ Region.ready .any ops (l.push false) → j = ops.size - 1 := by
  intro j hj
  obtain ⟨h1, o, ho, _⟩ := mem_ready.1 hj
  have hlt := (Array.getElem?_eq_some_iff.1 ho).1
  by_cases e : j = ops.size - 1
  · exact e
  · exfalso
    rw [getD_push' (by omega)] at h1
    have h2 := h j (by omega)
    simp only [Array.getD_eq_getD_getElem?] at h1 h2
    rw [Array.getElem?_eq_getElem (by omega)] at h1 h2
    simp only [Option.getD_some] at h1 h2
    rw [h1] at h2; cases h2
theorem last_ready {oz : Oper} (hX : LastX ops oz) {l : Array Bool} (hs : l.size = ops.size - 1) (h : ops.size - 1 ∈ Region.ready .any ops (l.push false)) : ∀ j, j < ops.size - 1 → l.getD j false = true := by
  intro j hj
  obtain ⟨h1, o, ho, hall⟩ := mem_ready.1 h
  rw [hX.at_] at ho
  injection ho with ho; subst ho
  obtain ⟨e, he, hb, rfl⟩ := hX.all j hj
  rw [← getD_push]; exact hall e he hb
theorem last_done {oz : Oper} (hX : LastX ops oz) {l : Array Bool} (hs : l.size = ops.size - 1) (h : ∀ j, j < ops.size - 1 → l.getD j false = true) {a : Act} {w : World}
    (hq : wpList P ops Q [oz] a w) : ∀ fuel, wpAny P .any ops Q (fuel + 1) (l.push false) a w := by
  intro fuel
  have hz : ops.size - 1 ∈ Region.ready .any ops (l.push false) := by
    refine mem_ready.2 ⟨by simp [Array.getD_eq_getD_getElem?, ← hs], oz, hX.at_, fun e he hb => ?_⟩
    rw [getD_push]
    exact h _ (hX.back _ oz hX.at_ e he hb)
  refine ⟨fun h0 => (by rw [h0] at hz; cases hz), fun j hj => ?_⟩
  obtain rfl := ready_all hX hs h j hj
  unfold wpOp
  rw [hX.at_]
  simp only
  unfold wpList at hq
  have hfin : ∀ a w, Q .normal a w → wpAny P .any ops Q fuel ((l.push false).setIfInBounds (ops.size - 1) true) a w := fun a w hn => by
    refine wpAny_done ?_ hn fuel
    refine List.eq_nil_iff_forall_not_mem.2 fun j hj => ?_
    obtain ⟨h1, o, ho, _⟩ := mem_ready.1 hj
    have hlt := (Array.getElem?_eq_some_iff.1 ho).1
    by_cases e : j = ops.size - 1
    · subst e
      simp [Array.getD_eq_getD_getElem?, hs] at h1
    · rw [getD_set_ne true (Ne.symm e), getD_push' (by omega)] at h1
      have h2 := h j (by omega)
      simp only [Array.getD_eq_getD_getElem?] at h1 h2
      rw [Array.getElem?_eq_getElem (by omega)] at h1 h2
      simp only [Option.getD_some] at h1 h2
      rw [h1] at h2; cases h2
  split
  · rename_i hw
    rw [if_pos hw] at hq
    exact hq.imp (Oper.wp_mono hfin) id
  · rename_i hw
    rw [if_neg hw] at hq
    exact hfin _ _ hq
/-- THE OTHERS FIRST, THEN THE LAST -/
theorem wpAny_last {oz : Oper} (hX : LastX ops oz) : ∀ (fuel : Nat) (l : Array Bool) (a : Act) (w : World), l.size = ops.size - 1 → wpAnyH P .any ops.pop (lastQ P ops oz Q) S fuel l a w → wpAny P .any ops Q (fuel + 1) (l.push false) a w
  | 0, l, a, w, hs, h => last_done hX hs (ready_nil hX hs h.1) h.2 0
  | fuel + 1, l, a, w, hs, h => by
    by_cases hr : Region.ready .any ops.pop l = []
    · exact last_done hX hs (ready_nil hX hs hr) (h.1 hr) (fuel + 1)
    · have hne : ∃ j, j ∈ Region.ready .any ops.pop l := List.exists_mem_of_ne_nil _ hr
      have hlt : ∀ j, j ∈ Region.ready .any ops.pop l → j < ops.size - 1 := fun j hj => by
        obtain ⟨_, o, ho, _⟩ := mem_ready.1 hj
        exact (pop_some ho).1
      have hnz : ∀ j, j ∈ Region.ready .any ops (l.push false) → j < ops.size - 1 := fun j hj => by
        obtain ⟨h1, o, ho, _⟩ := mem_ready.1 hj
        have hl := (Array.getElem?_eq_some_iff.1 ho).1
        by_cases e : j = ops.size - 1
        · exfalso
          subst e
          have hall := last_ready hX hs hj
          obtain ⟨i, hi⟩ := hne
          have h2 := (mem_ready.1 hi).1
          have h3 := hall i (hlt i hi)
          have := hlt i hi
          simp only [Array.getD_eq_getD_getElem?] at h2 h3
          rw [Array.getElem?_eq_getElem (by omega)] at h2 h3
          simp only [Option.getD_some] at h2 h3
          rw [h2] at h3; cases h3
        · omega
      obtain ⟨i0, hi0⟩ := hne
      refine ⟨fun h0 => ?_, fun j hj => ?_⟩
      · exfalso
        have := (ready_pop hs (hlt i0 hi0)).2 hi0
        rw [h0] at this; cases this
      · have hj' := hnz j hj
        refine wpOp_pop hX hj' (fun a' w' hk => ?_) (h.2 j ((ready_pop hs hj').1 hj))
        have := wpAny_last hX fuel (l.setIfInBounds j true) a' w' (by simpa using hs) hk.2
        have e : (l.push false).setIfInBounds j true = (l.setIfInBounds j true).push false := by
          apply Array.ext_getElem?
          intro i
          simp only [Array.getElem?_setIfInBounds, Array.getElem?_push, Array.size_push, Array.size_setIfInBounds]
          by_cases e1 : j = i
          · subst e1
            rw [if_pos rfl, if_pos (by omega), if_neg (by omega), if_pos rfl, if_pos (by omega)]
          · rw [if_neg e1, if_neg e1]
        rw [e]; exact this
theorem lastOk_spec {oz : Oper} (h : lastOk ops = some oz) : LastX ops oz := by
  unfold lastOk at h
  split at h
  · rename_i o ho
    split at h
    · rename_i hc
      injection h with h; subst h
      simp only [Bool.and_eq_true] at hc
      obtain ⟨h1, h2⟩ := hc
      have h1 := List.all_eq_true.1 h1
      have hlt := (Array.getElem?_eq_some_iff.1 ho).1
      have back : ∀ (o : Oper) j, backOk o j = true → ∀ e ∈ o.after, Region.binds .any e = true → e.on < j := by
        intro o j hb e he hbi
        have := List.all_eq_true.1 hb e (by simpa using he)
        simp only [hbi, Bool.not_true, Bool.false_or] at this
        exact blt_lt this
      refine ⟨ho, by omega, fun j hj => ?_, fun j o' hj ho' g b hg => ?_, fun j o' ho' e he hb => ?_⟩
      · have := h1 j (List.mem_range.2 hj)
        simp only [Bool.and_eq_true] at this
        exact waits_spec this.1
      · have := h1 j (List.mem_range.2 hj)
        simp only [Bool.and_eq_true, ho', hg] at this
        exact blt_lt this.2.1
      · have hl := (Array.getElem?_eq_some_iff.1 ho').1
        by_cases hj : j < ops.size - 1
        · have := h1 j (List.mem_range.2 hj)
          simp only [Bool.and_eq_true, ho'] at this
          exact back o' j this.2.2 e he hb
        · have hj : j = ops.size - 1 := by omega
          subst hj
          rw [ho] at ho'; injection ho' with ho'; subst ho'
          exact back o _ h2 e he hb
    · cases h
  · cases h
end
section
variable {C : Cfg} {R : Value → VH → Option (List Int) → Prop} {B : Option Nat} {w0 : World} {V0 : VH} {S : List LF}
theorem forceS_eq {α β : Type} : ∀ (l : List α) (k : List α → β), forceS l k = k l
  | [], k => rfl
  | a :: l, k => forceS_eq l _
/-- A REGION THAT DRAWS, from its begin -/
theorem regD_sound (hC : Callable C) {ops : Array Oper} (hsel : Region.noSelect ops = true) {Q : Exit → Act → World → Prop} (hQ : ∀ c a w, ¬ Q (.panic c) a w) {st : St OV} {V : VH} {ρ : Nat → Nat} {a : Act} {w : World} {v : Value} {hh : Hints} {k : St OV → Hints → Tree OV}
    (h : Rel C.N B w0 V0 st V ρ a w) (hs : sem C.P R (regD C ops st hh k) v V ρ S)
    (hk : ∀ st' V' ρ' a' w' v' h', Rel C.N B w0 V0 st' V' ρ' a' w' → Mv (ops.toList.filterMap (·.dst)) st ρ a V st' ρ' a' V' → sem C.P R (k st' h') v' V' ρ' S → Q .normal a' w') :
    wpAnyH C.P .any ops Q (Held (heldB C.bor ops st) ρ V) ops.size (Array.replicate ops.size false) a { w with drawn := w.drawn + 1 } := by
  unfold regD at hs
  have hinv : Inv (heldB C.bor ops st) st.nb ρ V true { st with fr := dropFr (dstX ops (lateX ops)) st.fr } ρ V :=
    ⟨fun b blk hb => ⟨(h.blt b blk (getA_held (st := st) hb)).1, (h.blt b blk (getA_held (st := st) hb)).2, blk, getA_held (st := st) hb⟩, fun _ _ => rfl, Nat.le_refl _, VH.le_refl _, fun _ => rfl⟩
  have hheld : Held (heldB C.bor ops st) ρ V { w with drawn := w.drawn + 1 } := ⟨fun b blk hb => h.heapOf (getA_held hb), h.vw⟩
  split at hs
  · rename_i hlate
    have hX := lateOk_spec hlate
    have hrel : Rel C.N B w0 V0 { st with fr := dropFr (dstX ops (lateX ops)) st.fr } V ρ a { w with drawn := w.drawn + 1 } :=
      { h.drew with fr := fun t u hu => h.fr t u (getA_drop hu).2, wfF := fun t u hu => h.wfF t u (getA_drop hu).2 }
    have hlen := lateX_le ops
    have hdr : ∀ d ∈ dstX ops (lateX ops), getA (dropFr (dstX ops (lateX ops)) st.fr) d = none := by
      intro d hd
      cases hc : getA (dropFr (dstX ops (lateX ops)) st.fr) d with
      | none => rfl
      | some u => exact absurd hd (getA_drop hc).1
    have hun : ∀ i ∈ lateX ops, (Array.replicate ops.size false).getD i true = false := by
      intro i hi
      have := List.mem_range.1 (List.mem_filter.1 hi).1
      simp [this]
    exact execA_sound hC hsel hX hQ (n0 := st.nb) (ρ0 := ρ) ops.size (ops.size - (lateX ops).length) true (Array.replicate ops.size false) [] (lateX ops) _ V ρ a _ v hh (fun _ => 0) (by omega) (fun i => by simp) (fun i hi => by cases hi) hX.nd hun Closed.init none_listed hrel hinv hheld
      Early.nil hdr hs (fun st' V' ρ' a' w' v' h' hr hm hs' => hk _ _ _ _ _ _ _ hr ⟨hm.nb, hm.ag, hm.tm, hm.bk, hm.vl, hm.rm⟩ hs')
  · refine execD_sound hC hsel hQ (n0 := st.nb) (ρ0 := ρ) _ true _ st V ρ a _ v hh h.drew ?_ ?_ hs (fun st' V' ρ' a' w' v' h' hr hm hs' => hk _ _ _ _ _ _ _ hr hm hs')
    · exact ⟨fun b blk hb => ⟨(h.blt b blk (getA_held hb)).1, (h.blt b blk (getA_held hb)).2, blk, getA_held hb⟩, fun _ _ => rfl, Nat.le_refl _, VH.le_refl _, fun _ => rfl⟩
    · exact ⟨fun b blk hb => h.heapOf (getA_held hb), h.vw⟩
theorem noSelect_pop {ops : Array Oper} (h : Region.noSelect ops = true) : Region.noSelect ops.pop = true := by
  unfold Region.noSelect at *
  rw [Array.all_eq_true_iff_forall_mem] at *
  exact fun o ho => h o (by simp only [Array.mem_def, Array.toList_pop] at ho ⊢; exact List.dropLast_subset _ ho)
/-- A REGION THAT DRAWS, its last operation apart -/
theorem last_sound (hC : Callable C) (hmix : C.P.follows .mixedOrders = true) {ops : Array Oper} (hsel : Region.noSelect ops = true) {Q : Exit → Act → World → Prop} (hQ : ∀ c a w, ¬ Q (.panic c) a w) {oz : Oper} (hX : LastX ops oz) {id : Nat} {st : St OV} {V : VH} {ρ : Nat → Nat} {a : Act} {w : World} {v : Value} {hh : Hints} {k : St OV → Hints → Tree OV}
    (h : Rel C.N B w0 V0 st V ρ a w) (hs : sem C.P R (regD C ops.pop st hh fun st h => execL C ops [oz] st h k) v V ρ S)
    (hk : ∀ st' V' ρ' a' w' v' h', Rel C.N B w0 V0 st' V' ρ' a' w' → Mv (ops.toList.filterMap (·.dst)) st ρ a V st' ρ' a' V' → sem C.P R (k st' h') v' V' ρ' S → Q .normal a' w') :
    (Code.region id ops true).wp C.P Q a w := by
  refine wp_region_any hmix ?_
  have e1 : ops.size = (ops.size - 1) + 1 := by have := hX.pos; omega
  have e2 : Array.replicate ops.size false = (Array.replicate (ops.size - 1) false).push false := by
    conv => lhs; rw [e1, Array.replicate_succ]
  rw [e2]
  have e3 : ops.pop.size = ops.size - 1 := by simp
  have key := regD_sound (Q := lastQ C.P ops oz Q) (ops := ops.pop) hC (noSelect_pop hsel) (fun c a w hq => hQ c a w hq) h hs (fun st' V' ρ' a' w' v' h' hr hm hs' => by
    refine execL_sound hC (ds := ops.toList.filterMap (·.dst)) [oz] (fun o ho => ?_) st' V' ρ' a' w' v' h' hr hs' (fun st2 V2 ρ2 a2 w2 v2 h2 hr2 hm2 hs2 => hk st2 V2 ρ2 a2 w2 v2 h2 hr2 ((hm.mono ?_).trans hm2) hs2)
    · simp only [List.mem_singleton] at ho; subst ho
      exact ops_ds hX.at_
    · intro t ht
      obtain ⟨o, ho, ht⟩ := List.mem_filterMap.1 ht
      exact List.mem_filterMap.2 ⟨o, List.dropLast_subset _ (by simpa using ho), ht⟩)
  rw [e3] at key
  have := wpAny_last hX (ops.size - 1) (Array.replicate (ops.size - 1) false) a _ (by simp) key
  rwa [← e1] at this
/-- ways that only reckon -/
theorem pureL_sound {ops : Array Oper} {Q : Exit → Act → World → Prop} {ds : List Nat} : ∀ (l : List Oper) (hds : ∀ o ∈ l, ∀ t ∈ o.dst.toList, t ∈ ds) (st st' : St OV) (V : VH) (ρ : Nat → Nat) (a : Act) (w : World),
    Rel C.N B w0 V0 st V ρ a w → pureL C l st = some st' → (∀ a', Rel C.N B w0 V0 st' V ρ a' w → (∀ t, t ∉ ds → a'.tmps.getD t undef = a.tmps.getD t undef) → Q .normal a' w) → wpList C.P ops Q l a w
  | [], hds, st, st', V, ρ, a, w, h, hp, hk => by
    simp only [pureL, Option.some.injEq] at hp; subst hp
    exact hk a h (fun _ _ => rfl)
  | o :: rest, hds, st, st', V, ρ, a, w, h, hp, hk => by
    simp only [pureL] at hp
    split at hp
    · rename_i hc
      simp only [Bool.and_eq_true] at hc
      split at hp
      · rename_i v0 hv
        split at hp
        · rename_i hput
          have hg : o.guard = none := by simpa using hc.1
          unfold wpList
          rw [if_pos (by unfold Region.wanted; rw [hg])]
          left
          have hrun := opPure_sound (ρ := ρ) (h.evals hc.2) hv (fun c hc => by cases hc) w
          unfold Oper.wp
          rw [hrun]
          simp only [Oper.upon]
          refine pureL_sound rest (fun o ho => hds o (List.mem_cons_of_mem _ ho)) _ st' V ρ _ w (h.put hput) hp (fun a' hr ht => hk a' hr fun t htd => ?_)
          rw [ht t htd]
          exact put_tm a o.dst _ t (fun hc => htd (hds o List.mem_cons_self t hc))
        · cases hp
      · cases hp
    · cases hp
theorem pureC_sound : ∀ (c : Code) (Q : Exit → Act → World → Prop) (st st' : St OV) (V : VH) (ρ : Nat → Nat) (a : Act) (w : World),
    Rel C.N B w0 V0 st V ρ a w → pureC C c st = some st' → (∀ a', Rel C.N B w0 V0 st' V ρ a' w → (∀ t, t ∉ dstsC c → a'.tmps.getD t undef = a.tmps.getD t undef) → Q .normal a' w) → c.wp C.P Q a w := by
  intro c
  induction c with
  | skip =>
    intro Q st st' V ρ a w h hp hk
    simp only [pureC, Option.some.injEq] at hp; subst hp
    exact wp_skip (hk a h fun _ _ => rfl)
  | seq x y ihx ihy =>
    intro Q st st' V ρ a w h hp hk
    simp only [pureC] at hp
    split at hp
    · rename_i s1 h1
      refine wp_seq (ihx _ st s1 V ρ a w h h1 fun a1 hr1 ht1 => ?_)
      exact ihy Q s1 st' V ρ a1 w hr1 hp fun a2 hr2 ht2 => hk a2 hr2 fun t ht => by
        simp only [dstsC, List.mem_append, not_or] at ht
        rw [ht2 t ht.2, ht1 t ht.1]
    · cases hp
  | region id ops draw =>
    intro Q st st' V ρ a w h hp hk
    cases draw with
    | true => simp only [pureC] at hp; cases hp
    | false =>
      simp only [pureC] at hp
      exact wp_region_list (pureL_sound ops.toList (fun o ho t ht => by
          obtain ⟨i, hi⟩ := List.getElem?_of_mem ho
          exact ops_ds (i := i) (by simpa using hi) t ht) st st' V ρ a w h hp hk)
  | _ => intro Q st st' V ρ a w h hp hk; simp only [pureC] at hp; cases hp
theorem getA_mergeF {f : SI OV → SI OV → SI OV} {s1 s2 : St OV} {rest : List (Nat × AV OV)} {t : Nat} {v : AV OV} : ∀ (ds : List Nat), getA (mergeF f s1 s2 ds ++ rest) t = some v →
    (∃ k a b, getA s1.fr t = some (.one (.int k a)) ∧ getA s2.fr t = some (.one (.int k b)) ∧ v = .one (.int k (f a b))) ∨ getA rest t = some v
  | [], h => .inr h
  | d :: ds, h => by
    simp only [mergeF] at h
    split at h
    · rename_i k a k' b h1 h2
      split at h
      · rename_i e
        subst e
        rw [List.cons_append, getA_cons] at h
        split at h
        · rename_i e
          subst e
          injection h with h; subst h
          exact .inl ⟨k, a, b, h1, h2, rfl⟩
        · exact getA_mergeF ds h
      · exact getA_mergeF ds h
    · exact getA_mergeF ds h
theorem merge_rel {c : SB OV} {st s1 s2 s : St OV} {ds : List Nat} {V : VH} {ρ : Nat → Nat} {a a' : Act} {w : World} (h : Rel C.N B w0 V0 st V ρ a w) (hm : mergeS c st s1 s2 ds = some s)
    (hb : (c.ev = true ∧ Rel C.N B w0 V0 s1 V ρ a' w) ∨ (c.ev = false ∧ Rel C.N B w0 V0 s2 V ρ a' w)) (ht : ∀ t, t ∉ ds → a'.tmps.getD t undef = a.tmps.getD t undef) :
    Rel C.N B w0 V0 s V ρ a' w ∧ s.bl = st.bl ∧ s.nb = st.nb := by
  unfold mergeS at hm
  split at hm
  · rename_i l r
    injection hm with hm; subst hm
    refine ⟨{ fr := ?_, sz := ?_, df := ?_, wfF := ?_, blt := h.blt, vw := h.vw, own := h.own, giv := h.giv, inj := h.inj, below := h.below, vdom := h.vdom, vle := h.vle }, rfl, rfl⟩
    · intro t v hv
      rcases getA_mergeF _ hv with ⟨k, x, y, g1, g2, rfl⟩ | hv
      · rcases hb with ⟨e, hr⟩ | ⟨e, hr⟩
        · rw [hr.fr t _ g1]
          simp only [SB.ev, decide_eq_true_eq] at e
          simp only [AV.ev, SC.ev, SI.ev, if_pos e]
        · rw [hr.fr t _ g2]
          simp only [SB.ev, decide_eq_false_iff_not] at e
          simp only [AV.ev, SC.ev, SI.ev, if_neg e]
      · obtain ⟨h1, h2⟩ := getA_drop hv
        rw [ht t h1]; exact h.fr t v h2
    · rcases hb with ⟨_, hr⟩ | ⟨_, hr⟩ <;> exact hr.sz
    · rcases hb with ⟨_, hr⟩ | ⟨_, hr⟩ <;> exact hr.df
    · intro t v hv
      rcases getA_mergeF _ hv with ⟨k, x, y, g1, g2, rfl⟩ | hv
      · rfl
      · exact h.wfF t v (getA_drop hv).2
  · rename_i l r
    injection hm with hm; subst hm
    refine ⟨{ fr := ?_, sz := ?_, df := ?_, wfF := ?_, blt := h.blt, vw := h.vw, own := h.own, giv := h.giv, inj := h.inj, below := h.below, vdom := h.vdom, vle := h.vle }, rfl, rfl⟩
    · intro t v hv
      rcases getA_mergeF _ hv with ⟨k, x, y, g1, g2, rfl⟩ | hv
      · rcases hb with ⟨e, hr⟩ | ⟨e, hr⟩
        · rw [hr.fr t _ g1]
          simp only [SB.ev, beq_iff_eq] at e
          simp only [AV.ev, SC.ev, SI.ev, if_pos e]
        · rw [hr.fr t _ g2]
          simp only [SB.ev, beq_eq_false_iff_ne] at e
          simp only [AV.ev, SC.ev, SI.ev, if_neg e]
      · obtain ⟨h1, h2⟩ := getA_drop hv
        rw [ht t h1]; exact h.fr t v h2
    · rcases hb with ⟨_, hr⟩ | ⟨_, hr⟩ <;> exact hr.sz
    · rcases hb with ⟨_, hr⟩ | ⟨_, hr⟩ <;> exact hr.df
    · intro t v hv
      rcases getA_mergeF _ hv with ⟨k, x, y, g1, g2, rfl⟩ | hv
      · rfl
      · exact h.wfF t v (getA_drop hv).2
  · cases hm
end
end Go.Dx

set_option linter.unusedVariables false
set_option linter.unusedSimpArgs false
namespace Go.Dx
open Go.RowKit
section
variable {C : Cfg} {R : Value → VH → Option (List Int) → Prop} {B : Option Nat} {w0 : World} {V0 : VH} {P : Program}

def exitOf : Ex → Exit
  | .nrm => .normal
  | .exit id => .exit id
  | .ret => .ret

theorem sameBl_spec {st st' : St OV} {blks : List Nat} (h : sameBl st st' blks = true) : ∀ b blk, getA st.bl b = some blk → b ∉ blks → ∃ blk', getA st'.bl b = some blk' ∧ blk'.ver = blk.ver ∧ blk'.giv = blk.giv := by
  intro b blk hb hn
  have hm : ∀ (l : List (Nat × Blk OV)), getA l b = some blk → (b, blk) ∈ l := by
    intro l
    induction l with
    | nil => intro h; simp [getA] at h
    | cons p l ih =>
      intro h
      obtain ⟨j, x⟩ := p
      rw [getA_cons] at h
      split at h
      · rename_i e; subst e; injection h with h; subst h; simp
      · exact List.mem_cons_of_mem _ (ih h)
  have := List.all_eq_true.1 h _ (hm _ hb)
  have hmb : memB b blks = false := by
    cases hc : memB b blks with
    | true => exact absurd ((memB_iff _ _).1 hc) hn
    | false => rfl
  simp only [hmb, Bool.false_or, hb] at this
  split at this
  · rename_i b1 b2 h1 h2
    injection h1 with h1; subst h1
    simp only [Bool.and_eq_true] at this
    exact ⟨b2, h2, Nat.eq_of_beq_eq_true this.1, by simpa using this.2⟩
  · cases this

theorem headSt_mv {st : St OV} {ds slots blks : List Nat} {uks : List UK} {xs : List OV} {init : List (LV OV)} {ρ : Nat → Nat} {a a' : Act} {V V' : VH} (hi : lvs st slots blks = some init) (hx : xs.length = init.length) (tm : ∀ t, t ∉ ds → a'.tmps.getD t undef = a.tmps.getD t undef) (hv : V.le V') :
    Mv ds st ρ a V (headSt st ds slots blks uks xs) ρ a' V' := by
  obtain ⟨A0, E0, hA0, hE0, rfl⟩ := lvs_some hi
  have hlA := (mapM_some hA0).1
  have hlE := (mapM_some hE0).1
  have harr : ∀ b ∈ blks, ∃ T k l g v, getA st.bl b = some ⟨T, .arr k l, g, v⟩ := by
    intro b hb
    obtain ⟨i, hi⟩ := List.getElem?_of_mem hb
    obtain ⟨lv, _, h2⟩ := (mapM_some hE0).2 i b hi
    obtain ⟨T, k, l, v, _, h4⟩ := blkLV_some h2
    exact ⟨T, k, l, false, v, h4⟩
  have hlen : blks.length = (xs.drop slots.length).length := by simp only [List.length_drop, hx, List.length_append]; omega
  refine ⟨Nat.le_refl _, fun _ _ => rfl, tm, ?_, hv, fun b _ h0 => ?_⟩
  rotate_left
  · have := (headBl_getA (bl := st.bl) (b := b) hlen harr).1 (fun hm => by obtain ⟨T, k, l, g, v, h4⟩ := harr b hm; rw [h0] at h4; cases h4)
    exact this.trans h0
  intro b blk hb
  obtain ⟨h1, h2⟩ := headBl_getA (bl := st.bl) (b := b) hlen harr
  by_cases hm : b ∈ blks
  · obtain ⟨x, T, k, l, g, v, q1, q2⟩ := h2 hm
    rw [hb] at q1; injection q1 with q1; subst q1
    exact .inl ⟨_, q2, rfl, rfl, Nat.le_succ _, fun e => by simp at e⟩
  · exact .inl ⟨blk, by rw [← hb]; exact h1 hm, rfl, rfl, Nat.le_refl _, fun _ => rfl⟩

theorem growSlot_lv {P : Program} {b : Code} {st : St OV} {gs : List Nat} {g : Nat} {T : TypeId} {s : Nat} {ge : GE OV} (h : growSlot P b st gs = some (g, T, s, ge)) : growLV T s st g = some ge := by
  unfold growSlot at h
  split at h
  · split at h
    · simp only [Option.map_eq_some_iff, Prod.mk.injEq] at h
      obtain ⟨x, h1, rfl, rfl, rfl, rfl⟩ := h
      exact h1
    · simp only [Option.map_eq_some_iff, Prod.mk.injEq] at h
      obtain ⟨x, h1, rfl, rfl, rfl, rfl⟩ := h
      exact h1
    · cases h
  · cases h
theorem okUs_len : ∀ (us : List UK) (xs : List OV), okUs us xs → us.length = xs.length
  | [], [], _ => rfl
  | [], _ :: _, h => h.elim
  | _ :: _, [], h => (by cases h)
  | u :: us, x :: xs, h => by simp [okUs_len us xs h.2]
theorem mapM_congr_some {α β : Type} {f f' : α → Option β} : ∀ {l : List α} {r : List β}, l.mapM f = some r → (∀ x y, f x = some y → f' x = some y) → l.mapM f' = some r
  | [], r, h, _ => h
  | a :: l, r, h, hc => by
    simp only [List.mapM_cons, Option.bind_eq_bind, Option.pure_def] at h ⊢
    cases h1 : f a with
    | none => simp [h1] at h
    | some y =>
      cases h2 : l.mapM f with
      | none => simp [h1, h2] at h
      | some ys =>
        simp [h1, h2] at h
        subst h
        rw [hc a y h1, mapM_congr_some h2 hc]; rfl
theorem lvs_undrop {st st0 : St OV} {ge : GE OV} {slots blks : List Nat} {init : List (LV OV)} (hst : gSt st ge = st0) (h : lvs st0 slots blks = some init) : lvs st slots blks = some init := by
  subst hst
  obtain ⟨A, E, hA, hE, rfl⟩ := lvs_some h
  unfold lvs
  have h1 : slots.mapM (slotLV st) = some A := hA
  have h2 : blks.mapM (blkLV st) = some E := by
    refine mapM_congr_some hE fun b y hy => ?_
    obtain ⟨T, k, l, v, rfl, q⟩ := blkLV_some hy
    unfold blkLV
    rw [(getA_dropB_some q).2]
  rw [h1, h2]
/-- the blocks stay, at a round's end -/
theorem lvs_none {st st' : St OV} {slots blks : List Nat} {vs init : List (LV OV)} {b : Nat} {blk : Blk OV} {P : Prop} (_ : P) (hvs : lvs st' slots blks = some vs) (hb : getA st.bl b = some blk) (hn : getA st'.bl b = none) (hs : sameBl st st' blks = true) (_ : lvs st slots blks = some init) : False := by
  by_cases hm : b ∈ blks
  · obtain ⟨A, E, hA, hE, rfl⟩ := lvs_some hvs
    obtain ⟨i, hi⟩ := List.getElem?_of_mem hm
    obtain ⟨lv, _, h2⟩ := (mapM_some hE).2 i b hi
    obtain ⟨T, k, l, v, _, h4⟩ := blkLV_some h2
    rw [hn] at h4; cases h4
  · obtain ⟨blk3, t1, t2, t3⟩ := sameBl_spec hs b blk hb hm
    rw [hn] at t1; cases t1
theorem Mv.drop {st : St OV} {ρ : Nat → Nat} {a : Act} {V : VH} {N : Nat} {w : World} (h : Rel N B w0 V0 st V ρ a w) (ds bs : List Nat) : Mv ds st ρ a V { st with bl := dropB bs st.bl } ρ a V := by
  refine ⟨Nat.le_refl _, fun _ _ => rfl, fun _ _ => rfl, fun b blk hb => ?_, VH.le_refl _, fun b _ h0 => ?_⟩
  · by_cases hm : memB b bs = true
    · exact .inr ⟨by show getA (dropB bs st.bl) b = none; rw [getA_dropB, if_pos hm], (h.blt b blk hb).1⟩
    · exact .inl ⟨blk, by show getA (dropB bs st.bl) b = some blk; rw [getA_dropB, if_neg hm]; exact hb, rfl, rfl, Nat.le_refl _, fun _ => rfl⟩
  · show getA (dropB bs st.bl) b = none
    rw [getA_dropB]
    split
    · rfl
    · exact h0
theorem headG_mv {st hd : St OV} {ds : List Nat} {ρ : Nat → Nat} {a a' : Act} {V V' : VH} (h : Mv ds st ρ a V hd ρ a' V') (hn : hd.nb = st.nb) (hlt : ∀ b blk, getA st.bl b = some blk → b < st.nb) (g : Nat) (T : TypeId) (s : Nat) (x t : OV) (m : Nat) :
    Mv ds st ρ a V (headG hd g T s x t) (upd ρ hd.nb m) a' V' := by
  refine ⟨Nat.le_trans h.nb (Nat.le_succ _), fun b hb => by rw [upd_eq, if_neg (by omega)], h.tm, fun b blk hb => ?_, h.vl, fun b hb h0 => rm_new b (by omega) (h.rm b hb h0)⟩
  have hl := hlt b blk hb
  rcases h.bk b blk hb with ⟨blk', q1, q2⟩ | ⟨q1, q2⟩
  · refine .inl ⟨blk', ?_, q2⟩
    show getA ((hd.nb, _) :: hd.bl) b = some blk'
    rw [getA_cons, if_neg (by omega)]; exact q1
  · exact .inr ⟨rm_new b (by omega) q1, Nat.lt_succ_of_lt q2⟩

set_option maxHeartbeats 1000000 in
theorem exec_sound' (hC : Callable C) (hmix : C.P.follows .mixedOrders = true) : ∀ n : Nat,
    (∀ (c : Code) (Q : Exit → Act → World → Prop) (hQ : ∀ ch a w, ¬ Q (.panic ch) a w) (S : List LF) (st : St OV) (V : VH) (ρ : Nat → Nat) (a : Act) (w : World) (v : Value) (hh : Hints) (k : Ex → St OV → Hints → Tree OV),
      Rel C.N B w0 V0 st V ρ a w → sem C.P R (exec C n c st hh k) v V ρ S →
      (∀ e st' V' ρ' a' w' v' h', Rel C.N B w0 V0 st' V' ρ' a' w' → Mv (dstsC c) st ρ a V st' ρ' a' V' → sem C.P R (k e st' h') v' V' ρ' S → Q (exitOf e) a' w') → c.wp C.P Q a w) ∧
    (∀ (b : Code) (Q : Exit → Act → World → Prop) (hQ : ∀ ch a w, ¬ Q (.panic ch) a w) (S : List LF) (st : St OV) (V : VH) (ρ : Nat → Nat) (a : Act) (w : World) (v : Value) (hh : Hints) (k : Ex → St OV → Hints → Tree OV),
      Rel C.N B w0 V0 st V ρ a w → sem C.P R (exec C n (.loop b) st hh k) v V ρ S →
      (∀ e st' V' ρ' a' w' v' h', Rel C.N B w0 V0 st' V' ρ' a' w' → Mv (dstsC b) st ρ a V st' ρ' a' V' → sem C.P R (k e st' h') v' V' ρ' S → Q (exitOf e) a' w') → LW C.P b Q a w) := by
  intro n
  induction n with
  | zero =>
    constructor
    · intro c Q hQ S st V ρ a w v hh k h hs hk
      cases c <;> exact hs.elim
    · intro b Q hQ S st V ρ a w v hh k h hs hk
      exact hs.elim
  | succ n ih =>
    obtain ⟨ihc, ihl⟩ := ih
    have loop : ∀ (b : Code) (Q : Exit → Act → World → Prop) (hQ : ∀ ch a w, ¬ Q (.panic ch) a w) (S : List LF) (st : St OV) (V : VH) (ρ : Nat → Nat) (a : Act) (w : World) (v : Value) (hh : Hints) (k : Ex → St OV → Hints → Tree OV),
      Rel C.N B w0 V0 st V ρ a w → sem C.P R (exec C (n + 1) (.loop b) st hh k) v V ρ S →
      (∀ e st' V' ρ' a' w' v' h', Rel C.N B w0 V0 st' V' ρ' a' w' → Mv (dstsC b) st ρ a V st' ρ' a' V' → sem C.P R (k e st' h') v' V' ρ' S → Q (exitOf e) a' w') → LW C.P b Q a w := by
      intro b Q hQ S st V ρ a w v hh k h hs hk
      unfold exec at hs
      split at hs
      · -- a row grows
        rename_i gs h' hoh
        split at hs
        rotate_left
        · cases hs
        rename_i g T s ge hgs
        split at hs
        rotate_left
        · cases hs
        rename_i hgN
        split at hs
        rotate_left
        · cases hs
        rename_i init hi
        split at hs
        rotate_left
        · cases hs
        rename_i uks hu
        obtain ⟨hrq, hs⟩ := needs_sem hs
        obtain ⟨I, μ, hI, hbody⟩ := hs
        have hgl : growLV T s st g = some ge := growSlot_lv hgs
        have h0 : Rel C.N B w0 V0 (gSt st ge) V ρ a w := h.drop ge.blk
        have hdrop : Mv (dstsC b) st ρ a V (gSt st ge) ρ a V := Mv.drop h _ _
        generalize hst0 : gSt st ge = st0 at hi hbody h0 hdrop
        have hnb0 : st0.nb = st.nb := by rw [← hst0]; rfl
        generalize gSlots b st0 g = slots at hi hbody
        generalize gBlks st0 = blks at hi hbody
        have hlt0 : ∀ b blk, getA st0.bl b = some blk → b < st0.nb := fun b blk hb => (h0.blt b blk hb).1
        have hlenI : ∀ xs, okUs uks xs → xs.length = init.length := by
          intro xs hok
          have h1 := (mapM_some hu).1
          rw [← okUs_len uks xs hok, h1]
        refine LW.ghost (fun m a1 w1 => ∃ xs V1 y, okUs uks xs ∧ I (xs ++ [y]) V1 ∧ V.le V1 ∧ HeadOk C.N B w0 V0 (headSt st0 (dstsC b) slots blks uks xs) g T s ge.isNil y V1 ρ a1 w1 ∧ (∀ t, t ∉ dstsC b → a1.tmps.getD t undef = a.tmps.getD t undef) ∧ m = μ (xs ++ [y])) ?_ (μ ((init ++ [ge.lv]).map LV.ov)) a w ?_
        · rintro m a1 w1 ⟨xs, V1, y, hok, hIx, hle, hhok, htm, rfl⟩
          have hs1 := ubinds_sem _ _ (hbody V1 hle) hok
          have hhead := headSt_mv (ds := dstsC b) (uks := uks) (ρ := ρ) hi (hlenI xs hok) htm hle
          -- what comes behind a round
          have fin : ∀ (H : St OV) (ρH : Nat → Nat), Mv (dstsC b) st0 ρ a V H ρH a1 V1 → ∀ e st' V' ρ' a' w' v' h2, Rel C.N B w0 V0 st' V' ρ' a' w' → Mv (dstsC b) H ρH a1 V1 st' ρ' a' V' → sem C.P R (kbG T s g st0 slots blks uks ge.isNil k e st' h2) v' V' ρ' (⟨I, μ, xs ++ [y]⟩ :: S) →
              Exit.then (fun a' w' => ∃ n', n' < μ (xs ++ [y]) ∧ ∃ xs V1 y, okUs uks xs ∧ I (xs ++ [y]) V1 ∧ V.le V1 ∧ HeadOk C.N B w0 V0 (headSt st0 (dstsC b) slots blks uks xs) g T s ge.isNil y V1 ρ a' w' ∧ (∀ t, t ∉ dstsC b → a'.tmps.getD t undef = a.tmps.getD t undef) ∧ n' = μ (xs ++ [y])) Q (exitOf e) a' w' := by
            intro H ρH hH e st' V' ρ' a' w' v' h2 hr hm hs3
            cases e with
            | nrm =>
              unfold kbG at hs3
              simp only at hs3
              split at hs3
              · rename_i vs ge' hvs hge'
                split at hs3
                · rename_i hcond
                  obtain ⟨hc1, hc2, hc3⟩ := hcond
                  obtain ⟨hrq', hs3⟩ := needs_sem hs3
                  obtain ⟨q1, q2⟩ := hs3
                  rw [List.map_append] at q1 q2
                  refine ⟨_, q2, vs.map LV.ov, V', ge'.lv.ov, uks_ok hc1, q1, VH.le_trans hle hm.vl, ?_, fun t ht => (hm.tm t ht).trans (htm t ht), rfl⟩
                  refine grow_head h0 hr hi hvs hc1 (fun b hb => (hH.ag b hb).trans (hm.ag b (Nat.lt_of_lt_of_le hb hH.nb))) (fun t ht => (hm.tm t ht).trans (htm t ht)) ?_ hge' hrq' ?_ ?_
                  · intro b' blk hb'
                    rcases hH.bk b' blk hb' with ⟨blk1, r1, r2, r3, r4, r5⟩ | ⟨r1, r2⟩
                    rotate_left
                    · exact (lvs_none trivial hvs hb' (hm.rm b' r2 r1) hc2 hi).elim
                    rcases hm.bk b' blk1 r1 with ⟨blk2, s1, s2, s3, s4, s5⟩ | ⟨s1, _⟩
                    rotate_left
                    · exact (lvs_none trivial hvs hb' s1 hc2 hi).elim
                    refine ⟨blk2, s1, s2.trans r2, s3.trans r3, fun hn => ?_⟩
                    obtain ⟨blk3, t1, t2, t3⟩ := sameBl_spec hc2 b' blk hb' hn
                    rw [s1] at t1; injection t1 with t1; subst t1
                    exact ⟨by rw [s5 (by omega), r5 (by omega)], t3⟩
                  · intro b' hb'
                    cases ge' with
                    | nil => cases hb'
                    | gr b1 x t r =>
                      simp only [GE.blk, List.mem_singleton] at hb'
                      subst hb'
                      have hge1 : st0.nb ≤ b' := Nat.le_of_ble_eq_true hc3
                      cases hgb : getA st0.bl b' with
                      | none => rfl
                      | some blk => have := hlt0 b' blk hgb; omega
                  · intro hn
                    cases ge' with
                    | nil => exact hc3
                    | gr b1 x t r => cases hn
                · cases hs3
              · cases hs3
            | exit id => exact hk (.exit id) _ _ _ _ _ _ _ hr ((hdrop.trans hH).trans hm) hs3
            | ret => exact hk .ret _ _ _ _ _ _ _ hr ((hdrop.trans hH).trans hm) hs3
          rcases hhok with ⟨hnil, rfl, hrel⟩ | ⟨mm, cs, tl, rfl, hgok, hrel⟩
          · have hs1' := hs1.1 hnil
            split at hs1'
            rotate_left
            · cases hs1'
            have hs2 : sem C.P R _ v V1 ρ (⟨I, μ, xs ++ [OV.gs []]⟩ :: S) := hs1' hIx
            refine ihc b _ ?_ _ _ V1 ρ a1 w1 v h' _ hrel hs2 (fin (headN (headSt st0 (dstsC b) slots blks uks xs) g) ρ (hhead.same rfl rfl))
            intro ch a w hq; exact hQ _ _ _ hq
          · have hs2 : sem C.P R _ v V1 (upd ρ st.nb mm) (⟨I, μ, xs ++ [OV.gs cs]⟩ :: S) := (hs1.2 mm cs tl hgok) hIx
            have hn1 : (headSt st0 (dstsC b) slots blks uks xs).nb = st.nb := hnb0
            rw [hn1] at hrel
            refine ihc b _ ?_ _ _ V1 (upd ρ st.nb mm) a1 w1 v h' _ hrel hs2 (fin (headG (headSt st0 (dstsC b) slots blks uks xs) g T s (OV.gs cs) (OV.gs tl)) (upd ρ st.nb mm) ?_)
            · intro ch a w hq; exact hQ _ _ _ hq
            have := headG_mv hhead rfl hlt0 g T s (OV.gs cs) (OV.gs tl) mm
            rwa [hn1] at this
        · refine ⟨init.map LV.ov, V, ge.lv.ov, uks_ok hu, ?_, VH.le_refl _, ?_, fun _ _ => rfl, ?_⟩
          · rw [List.map_append] at hI; exact hI
          · refine grow_head h0 h hi (lvs_undrop hst0 hi) hu (fun _ _ => rfl) (fun _ _ => rfl) ?_ hgl hrq ?_ (fun hn => hn)
            · intro b blk hb
              rw [← hst0] at hb
              exact ⟨blk, (getA_dropB_some hb).2, rfl, rfl, fun _ => ⟨rfl, rfl⟩⟩
            · intro b hb
              rw [← hst0]
              show getA (dropB ge.blk st.bl) b = none
              rw [getA_dropB, if_pos ((memB_iff _ _).2 hb)]
          · rw [List.map_append]; rfl
      split at hs
      · -- an invariant
        rename_i slots blks h' hlh
        split at hs
        · rename_i init hi
          split at hs
          · rename_i uks hu
            obtain ⟨I, μ, hI, hbody⟩ := hs
            have hlenI : ∀ xs, okUs uks xs → xs.length = init.length := by
              intro xs hok
              have h1 := (mapM_some hu).1
              have : ∀ (us : List UK) (xs : List OV), okUs us xs → us.length = xs.length := by
                intro us
                induction us with
                | nil => intro xs h; cases xs with
                  | nil => rfl
                  | cons _ _ => exact h.elim
                | cons u us ih => intro xs h; cases xs with
                  | nil => cases h
                  | cons x xs => simp [ih xs h.2]
              rw [← this uks xs hok, h1]
            refine LW.ghost (fun m a1 w1 => ∃ xs V1, okUs uks xs ∧ I xs V1 ∧ V.le V1 ∧ Rel C.N B w0 V0 (headSt st (dstsC b) slots blks uks xs) V1 ρ a1 w1 ∧ (∀ t, t ∉ dstsC b → a1.tmps.getD t undef = a.tmps.getD t undef) ∧ m = μ xs) ?_ (μ (init.map LV.ov)) a w ?_
            · rintro m a1 w1 ⟨xs, V1, hok, hIx, hle, hrel, htm, rfl⟩
              have hs1 := ubinds_sem _ _ (hbody V1 hle) hok
              have hs2 : sem C.P R _ v V1 ρ (⟨I, μ, xs⟩ :: S) := hs1 hIx
              refine ihc b _ ?_ _ _ V1 ρ a1 w1 v h' _ hrel hs2 ?_
              · intro ch a w hq; exact hQ _ _ _ hq
              · intro e st' V' ρ' a' w' v' h2 hr hm hs3
                have hhead := headSt_mv (ds := dstsC b) (uks := uks) (ρ := ρ) hi (hlenI xs hok) htm hle
                cases e with
                | nrm =>
                  simp only at hs3
                  split at hs3
                  · rename_i vs hvs
                    split at hs3
                    · rename_i hcond
                      have hc1 := hcond.1
                      have hc2 := hcond.2
                      obtain ⟨q1, q2⟩ := hs3
                      refine ⟨_, q2, _, V', uks_ok hc1, q1, VH.le_trans hle hm.vl, ?_, fun t ht => (hm.tm t ht).trans (htm t ht), rfl⟩
                      refine head_rel h hr hi hvs hc1 (fun b hb => hm.ag b hb) (fun t ht => (hm.tm t ht).trans (htm t ht)) ?_
                      intro b' blk hb'
                      rcases hhead.bk b' blk hb' with ⟨blk1, r1, r2, r3, r4, r5⟩ | ⟨r1, r2⟩
                      rotate_left
                      · exfalso
                        have := hm.rm b' r2 r1
                        exact lvs_none hcond.1 hvs hb' this hcond.2 hi
                      rcases hm.bk b' blk1 r1 with ⟨blk2, s1, s2, s3, s4, s5⟩ | ⟨s1, _⟩
                      rotate_left
                      · exfalso
                        exact lvs_none hcond.1 hvs hb' s1 hcond.2 hi
                      refine ⟨blk2, s1, s2.trans r2, s3.trans r3, fun hn => ?_⟩
                      obtain ⟨blk3, t1, t2, t3⟩ := sameBl_spec hc2 b' blk hb' hn
                      rw [s1] at t1; injection t1 with t1; subst t1
                      exact ⟨by rw [s5 (by omega), r5 (by omega)], t3⟩
                    · cases hs3
                  · cases hs3
                | exit id => exact hk (.exit id) _ _ _ _ _ _ _ hr (hhead.trans hm) hs3
                | ret => exact hk .ret _ _ _ _ _ _ _ hr (hhead.trans hm) hs3
            · refine ⟨_, V, uks_ok hu, hI, VH.le_refl _, ?_, fun _ _ => rfl, rfl⟩
              exact head_rel h h hi hi hu (fun _ _ => rfl) (fun _ _ => rfl) (fun b blk hb => ⟨blk, hb, rfl, rfl, fun _ => ⟨rfl, rfl⟩⟩)
          · cases hs
        · cases hs
      · -- round by round
        refine LW.round (ihc b _ ?_ S st V ρ a w v _ _ h hs ?_)
        · intro ch a w hq; exact hQ _ _ _ hq
        · intro e st' V' ρ' a' w' v' h' hr hm hs'
          cases e with
          | nrm => exact ihl b Q hQ S st' V' ρ' a' w' v' h' k hr hs' fun e2 st2 V2 ρ2 a2 w2 v2 h2 hr2 hm2 hs2 => hk e2 st2 V2 ρ2 a2 w2 v2 h2 hr2 (hm.trans hm2) hs2
          | exit id => exact hk (.exit id) _ _ _ _ _ _ _ hr hm hs'
          | ret => exact hk .ret _ _ _ _ _ _ _ hr hm hs'
    refine ⟨?_, loop⟩
    intro c Q hQ S st V ρ a w v hh k h hs hk
    cases c with
    | skip => exact wp_skip (hk .nrm _ _ _ _ _ _ _ h (Mv.refl _ _ _ _ _) hs)
    | seq x y =>
      have m1 : ∀ t ∈ dstsC x, t ∈ dstsC (.seq x y) := fun t ht => by simp only [dstsC, List.mem_append]; exact .inl ht
      have m2 : ∀ t ∈ dstsC y, t ∈ dstsC (.seq x y) := fun t ht => by simp only [dstsC, List.mem_append]; exact .inr ht
      refine wp_seq (ihc x _ ?_ S st V ρ a w v hh _ h hs ?_)
      · intro ch a w hq; exact hQ _ _ _ hq
      · intro e st' V' ρ' a' w' v' h' hr hm hs'
        cases e with
        | nrm => exact ihc y Q hQ S st' V' ρ' a' w' v' h' k hr hs' fun e2 st2 V2 ρ2 a2 w2 v2 h2 hr2 hm2 hs2 => hk e2 st2 V2 ρ2 a2 w2 v2 h2 hr2 ((hm.mono m1).trans (hm2.mono m2)) hs2
        | exit id => exact hk (.exit id) _ _ _ _ _ _ _ hr (hm.mono m1) hs'
        | ret => exact hk .ret _ _ _ _ _ _ _ hr (hm.mono m1) hs'
    | cond cnd x y =>
      have m1 : ∀ t ∈ dstsC x, t ∈ dstsC (.cond cnd x y) := fun t ht => by simp only [dstsC, List.mem_append]; exact .inr (.inl ht)
      have m2 : ∀ t ∈ dstsC y, t ∈ dstsC (.cond cnd x y) := fun t ht => by simp only [dstsC, List.mem_append]; exact .inr (.inr ht)
      have k1 : ∀ st0 : St OV, st0.bl = st.bl → st0.nb = st.nb → ∀ e st' V' ρ' a' w' v' h', Rel C.N B w0 V0 st' V' ρ' a' w' → Mv (dstsC x) st0 ρ a V st' ρ' a' V' → sem C.P R (k e st' h') v' V' ρ' S → Q (exitOf e) a' w' :=
        fun st0 hb hn e st' V' ρ' a' w' v' h' hr hm hs' => hk e st' V' ρ' a' w' v' h' hr ((hm.mono m1).same0 hb.symm hn.symm) hs'
      have k2 : ∀ st0 : St OV, st0.bl = st.bl → st0.nb = st.nb → ∀ e st' V' ρ' a' w' v' h', Rel C.N B w0 V0 st' V' ρ' a' w' → Mv (dstsC y) st0 ρ a V st' ρ' a' V' → sem C.P R (k e st' h') v' V' ρ' S → Q (exitOf e) a' w' :=
        fun st0 hb hn e st' V' ρ' a' w' v' h' hr hm hs' => hk e st' V' ρ' a' w' v' h' hr ((hm.mono m2).same0 hb.symm hn.symm) hs'
      cases cnd with
      | tmp d =>
        simp only [exec] at hs
        split at hs
        · rename_i b hg
          have hv : a.eval (.tmp d) = .bool b := h.fr d _ hg
          cases b with
          | true => exact wp_cond_true hv (ihc x Q hQ S st V ρ a w v hh k h hs (k1 st rfl rfl))
          | false => exact wp_cond_false hv (ihc y Q hQ S st V ρ a w v hh k h hs (k2 st rfl rfl))
        · rename_i c hne hg
          split at hs
          · split at hs
            · rename_i h' hmg
              split at hs
              · rename_i s1 s2 hp1 hp2
                split at hs
                · rename_i s0 hm0
                  have hv : a.eval (.tmp d) = .bool c.ev := h.fr d _ hg
                  have fin : ∀ a', ((c.ev = true ∧ Rel C.N B w0 V0 s1 V ρ a' w) ∨ (c.ev = false ∧ Rel C.N B w0 V0 s2 V ρ a' w)) → (∀ t, t ∉ dstsC x ++ dstsC y → a'.tmps.getD t undef = a.tmps.getD t undef) → Q .normal a' w := by
                    intro a' hb ht
                    obtain ⟨r1, r2, r3⟩ := merge_rel h hm0 hb ht
                    have hm1 : Mv (dstsC (.cond (.tmp d) x y)) st ρ a V st ρ a' V := by
                      have h0 := Mv.refl (dstsC (.cond (.tmp d) x y)) st ρ a V
                      exact ⟨h0.nb, h0.ag, fun t htd => ht t (fun hc => htd (by simp only [dstsC, List.mem_append] at hc ⊢; exact .inr hc)), h0.bk, h0.vl, h0.rm⟩
                    exact hk .nrm _ _ _ _ _ _ _ r1 (hm1.same r2 r3) hs
                  cases hce : c.ev with
                  | true =>
                    rw [hce] at hv
                    exact wp_cond_true hv (pureC_sound x _ st s1 V ρ a w h hp1 fun a' hr ht => fin a' (.inl ⟨hce, hr⟩) fun t htd => ht t (fun hc => htd (List.mem_append_left _ hc)))
                  | false =>
                    rw [hce] at hv
                    exact wp_cond_false hv (pureC_sound y _ st s2 V ρ a w h hp2 fun a' hr ht => fin a' (.inr ⟨hce, hr⟩) fun t htd => ht t (fun hc => htd (List.mem_append_right _ hc)))
                · cases hs
              · cases hs
            · obtain ⟨b, h', hb, hr, hs⟩ := decideAt_sound h hg hs
              have hv : a.eval (.tmp d) = .bool b := by rw [← hb]; exact h.fr d _ hg
              cases b with
              | true => exact wp_cond_true hv (ihc x Q hQ S _ V ρ a w v h' k hr hs (k1 _ rfl rfl))
              | false => exact wp_cond_false hv (ihc y Q hQ S _ V ρ a w v h' k hr hs (k2 _ rfl rfl))
          · cases hs
        · cases hs
      | const cv =>
        cases cv <;> first
          | (rename_i b
             cases b with
             | true => exact wp_cond_true rfl (ihc x Q hQ S st V ρ a w v hh k h hs (k1 st rfl rfl))
             | false => exact wp_cond_false rfl (ihc y Q hQ S st V ρ a w v hh k h hs (k2 st rfl rfl)))
          | exact hs.elim
      | global g => exact hs.elim
      | func f => exact hs.elim
    | block id b =>
      refine wp_block (ihc b _ ?_ S st V ρ a w v hh _ h hs ?_)
      · intro ch a w hq; exact hQ _ _ _ hq
      · intro e st' V' ρ' a' w' v' h' hr hm hs'
        cases e with
        | nrm => exact hk .nrm _ _ _ _ _ _ _ hr hm hs'
        | exit i =>
          simp only at hs'
          simp only [exitOf, Exit.inBlock]
          split at hs'
          · rename_i e
            rw [if_pos (Nat.eq_of_beq_eq_true e)]
            exact hk .nrm _ _ _ _ _ _ _ hr hm hs'
          · rename_i e
            rw [if_neg (by intro e'; subst e'; exact e (Nat.beq_refl _))]
            exact hk (.exit i) _ _ _ _ _ _ _ hr hm hs'
        | ret => exact hk .ret _ _ _ _ _ _ _ hr hm hs'
    | loop b => exact (loop b Q hQ S st V ρ a w v hh k h hs hk).wp
    | exit id => exact wp_exit (hk (.exit id) _ _ _ _ _ _ _ h (Mv.refl _ _ _ _ _) hs)
    | ret => exact wp_ret (hk .ret _ _ _ _ _ _ _ h (Mv.refl _ _ _ _ _) hs)
    | region id ops draw =>
      cases draw with
      | true =>
        simp only [exec] at hs
        split at hs
        · rename_i hsel
          split at hs
          · rename_i oz hlast
            split at hlast
            · rw [forceS_eq] at hs
              exact last_sound hC hmix hsel hQ (lastOk_spec hlast) h (by rw [Array.toArray_toList] at hs; exact hs) (fun st' V' ρ' a' w' v' h' hr hm hs' => hk .nrm _ _ _ _ _ _ _ hr hm hs')
            · cases hlast
          · exact wp_region_held hmix (regD_sound hC hsel hQ h hs (fun st' V' ρ' a' w' v' h' hr hm hs' => hk .nrm _ _ _ _ _ _ _ hr hm hs'))
        · cases hs
      | false =>
        simp only [exec] at hs
        exact wp_region_list (execL_sound hC ops.toList (fun o ho t ht => by
          obtain ⟨i, hi⟩ := List.getElem?_of_mem ho
          exact ops_ds (i := i) (by simpa using hi) t ht) st V ρ a w v hh h hs (fun st' V' ρ' a' w' v' h' hr hm hs' => hk .nrm _ _ _ _ _ _ _ hr hm hs'))
    | _ => exact hs.elim
end
end Go.Dx

set_option linter.unusedVariables false
set_option linter.unusedSimpArgs false
namespace Go.Dx
open Go.RowKit
section
variable {C : Cfg} {R : Value → VH → Option (List Int) → Prop} {B : Option Nat} {w0 : World} {V0 : VH} {P : Program}

theorem resV_sound {N : Nat} {st : St OV} {V : VH} {ρ : Nat → Nat} {a : Act} {w : World} (h : Rel N B w0 V0 st V ρ a w) {r : ResultVar} {v : AV OV} (hr : resV P st r = some v) :
    (match r with
      | .tmp t => pure (a.tmps.getD t undef)
      | .cell x t => do loadVar t (← asAddr (a.tmps.getD x undef)) : Sem Value).run P w = .ok (v.ev ρ) w := by
  cases r with
  | tmp t =>
    simp only [resV] at hr
    simp only [Sem.run_pure]
    rw [h.fr t v hr]
  | cell x t =>
    simp only [resV] at hr
    split at hr
    · rename_i p hp
      split at hr
      · rename_i v' hl
        injection hr with hr; subst hr
        have hl2 := load_sound (w := w) (V := V) (fun b blk hb => h.heapOf hb) (fun _ _ _ => h.vw) hl (fun c hc => by cases hc) (fun _ _ _ _ e => by cases e) (fun _ _ _ _ _ e => by cases e)
        have hx : a.tmps.getD x undef = p.ev ρ := h.fr x p hp
        simp only [hx]
        simp only [Ld.v] at hl2
        unfold loadA at hl
        split at hl
        · rename_i b off
          simp only [AV.ev, SC.ev, Instr.loadAt, Instr.sureAddr, Sem.run_bind, Sem.run_pure, Result.andThen_ok] at hl2
          simp only [AV.ev, SC.ev, asAddr, Sem.run_bind, Sem.run_pure, Result.andThen_ok, hl2]
        · split at hl
          · cases hl
          · cases hl
        · obtain ⟨_, _, e, _⟩ := opqT_spec hl
          cases e
        · cases hl
      · cases hr
    · cases hr
theorem comp_ev {a : AV OV} {p : Bool × List (SC OV)} (h : a.comp = some p) (ρ : Nat → Nat) : aggV ρ p = a.ev ρ := by
  cases a with
  | one c => simp only [AV.comp, Option.some.injEq] at h; subst h; rfl
  | agg cs => simp only [AV.comp, Option.some.injEq] at h; subst h; rfl
  | tup vs => cases h
theorem mapM_results {N : Nat} {st : St OV} {V : VH} {ρ : Nat → Nat} {a : Act} {w : World} (h : Rel N B w0 V0 st V ρ a w) : ∀ (rs : List ResultVar) (ps : List (Bool × List (SC OV))), (rs.mapM fun r => (resV P st r).bind AV.comp) = some ps →
    (rs.mapM (m := Sem) fun
      | .tmp t => pure (a.tmps.getD t undef)
      | .cell x t => do loadVar t (← asAddr (a.tmps.getD x undef))).run P w = .ok (ps.map (aggV ρ)) w
  | [], ps, hp => by
    simp only [List.mapM_nil, Option.pure_def, Option.some.injEq] at hp; subst hp; rfl
  | r :: rs, ps, hp => by
    simp only [List.mapM_cons, Option.bind_eq_bind, Option.pure_def] at hp
    cases h1 : resV P st r with
    | none => simp [h1] at hp
    | some v1 =>
      cases h2 : v1.comp with
      | none => simp [h1, h2] at hp
      | some p1 =>
        cases h3 : (rs.mapM fun r => (resV P st r).bind AV.comp) with
        | none => simp [h1, h2, h3] at hp
        | some ps1 =>
          simp [h1, h2, h3] at hp
          subst hp
          have e1 := resV_sound h h1
          have e2 := mapM_results h rs ps1 h3
          simp only [List.mapM_cons, Sem.run_bind, Sem.run_pure]
          cases r <;> (simp only at e1; simp only [e1, Result.andThen_ok, e2, List.map_cons, comp_ev h2])
theorem finish_sound {N : Nat} {fn : Func} {st : St OV} {V : VH} {ρ : Nat → Nat} {a : Act} {w : World} (h : Rel N B w0 V0 st V ρ a w) {v : AV OV} (hf : finish P fn.results.toList st = some v) : (results fn a.tmps).run P w = .ok (v.ev ρ) w := by
  unfold results
  rw [Array.mapM_eq_mapM_toList]
  simp only [Sem.run_bind, Sem.run_map]
  unfold finish at hf
  split at hf
  · rename_i r hr
    have e := resV_sound h hf
    rw [hr]
    simp only [List.mapM_cons, List.mapM_nil, Sem.run_bind, Sem.run_pure]
    cases r <;> (simp only at e; simp only [e, Result.andThen_ok]; rfl)
  · rename_i rs hne
    simp only [Option.map_eq_some_iff] at hf
    obtain ⟨ps, hp, rfl⟩ := hf
    have e := mapM_results h _ _ hp
    refine Eq.trans (congrArg (fun r => Result.andThen (Result.andThen r _) _) e) ?_
    simp only [Result.andThen_ok, Sem.run_pure, AV.ev]
    have hlen := (mapM_some hp).1.symm
    have hne1 : ps.length ≠ 1 := by
      intro h1
      rw [hlen] at h1
      obtain ⟨r, hr⟩ := List.length_eq_one_iff.1 h1
      exact hne r hr
    rw [dif_neg (by simpa using hne1)]

theorem getA_args (args : List (AV OV)) (t : Nat) : getA (args.zipIdx.map (fun p => (p.2, p.1))) t = args[t]? := by
  have key : ∀ (l : List (AV OV)) (k t : Nat), getA ((l.zipIdx k).map (fun p => (p.2, p.1))) t = if k ≤ t then l[t - k]? else none := by
    intro l
    induction l with
    | nil => intro k t; simp [getA]
    | cons x l ih =>
      intro k t
      simp only [List.zipIdx_cons, List.map_cons, getA_cons, ih]
      by_cases e : t = k
      · subst e; simp
      · rw [if_neg e]
        by_cases e2 : k ≤ t
        · rw [if_pos e2, if_pos (by omega)]
          have : t - k = (t - (k + 1)) + 1 := by omega
          rw [this, List.getElem?_cons_succ]
        · rw [if_neg e2, if_neg (by omega)]
  simpa using key args 0 t

/-- THE WHOLE FUNCTION: no block lent -/
theorem run_sound (hC : Callable C) (hmix : C.P.follows .mixedOrders = true) {f : Nat} {fn : Func} (hf : C.P.funcs[f]? = some fn) (hN : fn.ntmps = C.N) {args : List (AV OV)} {bl : List (Nat × Blk OV)} (hwf : args.all (AV.wf bl.length) = true) (hlen : args.length ≤ C.N) {fuel : Nat} {hh : Hints} {V : VH} {ρ : Nat → Nat} {v0 : Value}
    {md : Md} (h : sem C.P R (run C fn (startSt args bl) md fuel hh) v0 V ρ []) {w : World} (hw : V.inW w) (B : Option Nat)
    (hbl : ∀ b blk, getA bl b = some blk → b < bl.length ∧ blk.ct.wf bl.length = true ∧ (blk.giv = false → w.heap[ρ b]? = some (.cells (blk.ct.ev ρ).toArray blk.T) ∧ V.f (ρ b) = none ∧ B = some (ρ b)) ∧ (blk.giv = true → V.f (ρ b) = some (.cells (blk.ct.ev ρ).toArray blk.T)))
    (hinj : ∀ b b' blk blk', getA bl b = some blk → blk.giv = false → getA bl b' = some blk' → blk'.giv = false → ρ b = ρ b' → b = b') :
    Calls C.P f (args.map (AV.ev ρ)).toArray w (fun e w' => ∃ v V' o, e = .returned v ∧ BelowB B w.heap.size w w' ∧ V.le V' ∧ V'.inW w' ∧ (∀ k, V'.f k ≠ none → V.f k ≠ none ∨ w.heap.size ≤ k ∨ B = some k) ∧ R v V' o ∧
      (md = .bor → ∀ T k l g vr, getA bl 0 = some ⟨T, .arr k l, g, vr⟩ → ∃ L, o = some L ∧ w'.heap[ρ 0]? = some (.cells (L.map (Value.int k)).toArray T) ∧ V'.f (ρ 0) = none) ∧
      (∀ T kd, md = .own T kd → ∃ n0 n c L, v = .slice (some ⟨n0, 0, none⟩) n c ∧ o = some L ∧ w'.heap[n0]? = some (.cells (L.map (Value.int kd)).toArray T) ∧ V'.f n0 = none ∧ (w.heap.size ≤ n0 ∨ B = some n0))) := by
  unfold run at h
  cases hb : fn.body with
  | none => rw [hb] at h; exact h.elim
  | some c =>
    rw [hb] at h
    simp only at h
    refine calls_of_wp hf hb ?_
    have hrel : Rel C.N B w V (startSt args bl) V ρ { tmps := (args.map (AV.ev ρ)).toArray ++ Array.replicate (fn.ntmps - (args.map (AV.ev ρ)).toArray.size) undef, defers := [] } w := by
      refine { fr := ?_, sz := ?_, df := rfl, wfF := ?_, blt := ?_, vw := hw, own := ?_, giv := ?_, inj := ?_, below := BelowB.refl _ _ _, vdom := fun k hk => .inl hk, vle := VH.le_refl V }
      · intro t v hv
        simp only [startSt, getA_args] at hv
        have e : t < args.length := (List.getElem?_eq_some_iff.1 hv).1
        have e2 := (List.getElem?_eq_some_iff.1 hv).2
        simp [Array.getD_eq_getD_getElem?, Array.getElem?_append, e, e2]
      · simp; omega
      · intro t v hv
        simp only [startSt, getA_args] at hv
        exact List.all_eq_true.1 hwf v (List.mem_of_getElem? hv)
      · intro b blk hb; exact ⟨(hbl b blk hb).1, (hbl b blk hb).2.1⟩
      · intro b blk hb hg; obtain ⟨h1, h2, h3⟩ := (hbl b blk hb).2.2.1 hg; exact ⟨h1, h2, .inr h3⟩
      · intro b blk hb hg; exact (hbl b blk hb).2.2.2 hg
      · intro b b' blk blk' h1 g1 h2 g2 e; exact hinj b b' blk blk' h1 g1 h2 g2 e
    refine (exec_sound' (w0 := w) (V0 := V) hC hmix fuel).1 c _ ?_ [] _ V ρ _ w v0 hh _ hrel h ?_
    · intro ch a w' hq
      obtain ⟨_, v, V', o, he, _⟩ := hq
      cases he
    · intro e st' V' ρ' a' w' v' h' hr hm hs
      have main : (∀ id, e ≠ .exit id) → bodyPost C.P fn (fun e w' => ∃ v V' o, e = Ending.returned v ∧ BelowB B w.heap.size w w' ∧ V.le V' ∧ V'.inW w' ∧ (∀ k, V'.f k ≠ none → V.f k ≠ none ∨ w.heap.size ≤ k ∨ B = some k) ∧ R v V' o ∧
          (md = .bor → ∀ T k l g vr, getA bl 0 = some ⟨T, .arr k l, g, vr⟩ → ∃ L, o = some L ∧ w'.heap[ρ 0]? = some (.cells (L.map (Value.int k)).toArray T) ∧ V'.f (ρ 0) = none) ∧
      (∀ T kd, md = .own T kd → ∃ n0 n c L, v = .slice (some ⟨n0, 0, none⟩) n c ∧ o = some L ∧ w'.heap[n0]? = some (.cells (L.map (Value.int kd)).toArray T) ∧ V'.f n0 = none ∧ (w.heap.size ≤ n0 ∨ B = some n0))) .normal a' w' := by
        intro hne
        have hs' : sem C.P R (endOf C md fn st') v' V' ρ' [] := by
          cases e with
          | nrm => exact hs
          | exit id => exact absurd rfl (hne id)
          | ret => exact hs
        unfold endOf at hs'
        split at hs'
        · rename_i v hv
          split at hs'
          · rename_i T kd
            split at hs'
            · rename_i b n c
              split at hs'
              · rename_i T' kd' l vr hg
                split at hs'
                · rename_i hc
                  simp only [Bool.and_eq_true] at hc
                  have e1 : T' = T := Nat.eq_of_beq_eq_true hc.1
                  have e2 : kd' = kd := by simpa using hc.2
                  subst e1; subst e2
                  have hown := hr.own b _ hg rfl
                  refine ⟨hr.df, _, finish_sound hr hv, _, V', some l.ev, rfl, hr.below, hr.vle, hr.vw, hr.vdom, hs', fun e => (by cases e), fun T kd e => ?_⟩
                  injection e with e1 e2; subst e1; subst e2
                  exact ⟨ρ' b, _, _, l.ev, rfl, rfl, hown.1, hown.2.1, hown.2.2⟩
                · cases hs'
              · cases hs'
            · cases hs'
          · rename_i hno
            obtain ⟨st2, V2, r1, r2, r4, _, _, hs'⟩ := giveAll_sound 60 _ st' V' hr hs'
            split at hs'
            · rename_i hb0
              refine ⟨hr.df, v.ev ρ', finish_sound hr hv, v.ev ρ', V2, none, rfl, r1.below, r1.vle, r1.vw, r1.vdom, hs', fun e => (by subst e; cases hb0), fun T kd e => absurd e (hno T kd)⟩
            · rename_i hb0
              split at hs'
              · rename_i T1 k1 l1 v1 hg
                refine ⟨hr.df, v.ev ρ', finish_sound hr hv, v.ev ρ', V2, some l1.ev, rfl, r1.below, r1.vle, r1.vw, r1.vdom, hs', ?_, fun T kd e => absurd e (hno T kd)⟩
                intro _ T k l g vr h0
                have hown := r1.own 0 _ hg rfl
                rcases hm.bk 0 _ h0 with ⟨blk', q1, q2, q3, _⟩ | ⟨q1, q2⟩
                rotate_left
                · rw [r4.rm 0 q2 q1] at hg; cases hg
                rcases r4.bk 0 blk' q1 with ⟨blk2, s1, s2, s3, _⟩ | ⟨s1, _⟩
                rotate_left
                · rw [s1] at hg; cases hg
                rw [hg] at s1; injection s1 with s1; subst s1
                simp only at s2 q2
                have hT : T1 = T := s2.trans q2
                have hk : k1 = k := by
                  have := s3.trans q3
                  simpa only [Ct.kind, CK.arr.injEq] using this
                subst hT; subst hk
                have hlt := (hbl 0 _ h0).1
                have hag : ρ 0 = ρ' 0 := hm.ag 0 hlt
                rw [hag]
                exact ⟨l1.ev, rfl, hown.1, hown.2.1⟩
              · cases hs'
        · cases hs'
      cases e with
      | nrm => exact main (fun _ h => by cases h)
      | exit id => exact hs.elim
      | ret => exact main (fun _ h => by cases h)

def calOk (P : Program) (l : List Nat) : Bool := l.all fun f => match P.funcs[f]? with
  | some fn => !(fn.name == "runtime.NumGoroutine") && !fn.body.isNone
  | none => false
theorem callable_of {P : Program} {N : Nat} {l bor : List Nat} {own : List (Nat × Bool)} {giv : List (Nat × Nat)} {grw : Bool} (h : calOk P l = true) : Callable { P := P, N := N, cal := l, bor := bor, own := own, giv := giv, grw := grw } := by
  intro f hf
  have := List.all_eq_true.1 h f ((memB_iff _ _).1 hf)
  split at this
  · rename_i fn hfn
    simp only [Bool.and_eq_true, Bool.not_eq_true'] at this
    exact ⟨fn, hfn, this.1, this.2⟩
  · cases this
theorem enter {P : Program} {l bor : List Nat} {own : List (Nat × Bool)} {giv : List (Nat × Nat)} {grw : Bool} (hc : calOk P l = true) (hmix : P.follows .mixedOrders = true) {f : Nat} {fn : Func} (hf : P.funcs[f]? = some fn) {args : List (AV OV)} {fuel : Nat} {hh : Hints} {V : VH} {R : Value → VH → Prop}
    (hok : (args.all (AV.wf 0) && Nat.ble args.length fn.ntmps) = true) (h : sem P (fun v V _ => R v V) (run { P := P, N := fn.ntmps, cal := l, bor := bor, own := own, giv := giv, grw := grw } fn (startSt args []) .plain fuel hh) (.tuple #[]) V (fun _ => 0) []) : CSpec P f (args.map (AV.ev (fun _ => 0))).toArray V R := by
  simp only [Bool.and_eq_true] at hok
  constructor
  intro w hw
  refine (run_sound (C := { P := P, N := fn.ntmps, cal := l, bor := bor, own := own, giv := giv, grw := grw }) (callable_of hc) hmix hf rfl (bl := []) hok.1 (Nat.le_of_ble_eq_true hok.2) h hw none ?_ ?_).mono ?_
  · intro b blk hb; simp [getA] at hb
  · intro b b' blk blk' hb _; simp [getA] at hb
  · rintro e w' ⟨v, V', o, h1, h2, h3, h4, h5, h6, _, _⟩
    refine ⟨v, V', h1, h2.below, h3, h4, fun k hk => ?_, h6⟩
    rcases h5 k hk with h | h | h
    · exact .inl h
    · exact .inr h
    · cases h
/-- a function that is handed slices over blocks that stand -/
theorem enterG {P : Program} {l bor : List Nat} {own : List (Nat × Bool)} {giv : List (Nat × Nat)} {grw : Bool} (hc : calOk P l = true) (hmix : P.follows .mixedOrders = true) {f : Nat} {fn : Func} (hf : P.funcs[f]? = some fn) {m : Nat} {T : TypeId} {cs : List (SC OV)} {args : List (AV OV)} {fuel : Nat} {hh : Hints} {V : VH} {R : Value → VH → Prop}
    (hok : (args.all (AV.wf 1) && (Nat.ble args.length fn.ntmps && cs.all (SC.wf 0))) = true) (hV : V.f m = some (.cells (evL (fun _ => m) cs).toArray T))
    (h : sem P (fun v V _ => R v V) (run { P := P, N := fn.ntmps, cal := l, bor := bor, own := own, giv := giv, grw := grw } fn (startSt args [(0, ⟨T, .cells cs, true, 0⟩)]) .plain fuel hh) (.tuple #[]) V (fun _ => m) []) : CSpec P f (args.map (AV.ev (fun _ => m))).toArray V R := by
  simp only [Bool.and_eq_true] at hok
  constructor
  intro w hw
  refine (run_sound (C := { P := P, N := fn.ntmps, cal := l, bor := bor, own := own, giv := giv, grw := grw }) (callable_of hc) hmix hf rfl (bl := [(0, ⟨T, .cells cs, true, 0⟩)]) hok.1 (Nat.le_of_ble_eq_true hok.2.1) h hw none ?_ ?_).mono ?_
  · intro b blk hb
    rw [getA_cons] at hb
    split at hb
    · rename_i e; subst e; injection hb with hb; subst hb
      exact ⟨by simp, all_wf_mono (Nat.zero_le _) hok.2.2, fun e => (by cases e), fun _ => hV⟩
    · simp [getA] at hb
  · intro b b' blk blk' hb hg
    rw [getA_cons] at hb
    split at hb
    · injection hb with hb; subst hb; cases hg
    · simp [getA] at hb
  · rintro e w' ⟨v, V', o, h1, h2, h3, h4, h5, h6, _, _⟩
    refine ⟨v, V', h1, h2.below, h3, h4, fun k hk => ?_, h6⟩
    rcases h5 k hk with h | h | h
    · exact .inl h
    · exact .inr h
    · cases h
theorem evL_tail (ρ : Nat → Nat) (cs : List (SC OV)) (tl : List Value) : evL ρ (cs ++ tl.map .const) = evL ρ cs ++ tl := by
  simp only [evL, List.map_append, List.map_map]
  congr 1
  induction tl with
  | nil => rfl
  | cons v l ih => simp only [List.map_cons, ih]; rfl
/-- .. with room behind them -/
theorem enterT {P : Program} {l bor : List Nat} {own : List (Nat × Bool)} {giv : List (Nat × Nat)} {grw : Bool} (hc : calOk P l = true) (hmix : P.follows .mixedOrders = true) {f : Nat} {fn : Func} (hf : P.funcs[f]? = some fn) {m : Nat} {T : TypeId} {cs : List (SC OV)} {tl : List Value} {args : List (AV OV)} {fuel : Nat} {hh : Hints} {V : VH} {R : Value → VH → Prop}
    (hok : (args.all (AV.wf 1) && (Nat.ble args.length fn.ntmps && cs.all (SC.wf 0))) = true) (hV : V.f m = some (.cells (evL (fun _ => m) cs ++ tl).toArray T))
    (h : sem P (fun v V _ => R v V) (run { P := P, N := fn.ntmps, cal := l, bor := bor, own := own, giv := giv, grw := grw } fn (startSt args [(0, ⟨T, .cells (cs ++ tl.map .const), true, 0⟩)]) .plain fuel hh) (.tuple #[]) V (fun _ => m) []) : CSpec P f (args.map (AV.ev (fun _ => m))).toArray V R := by
  refine enterG hc hmix hf (cs := cs ++ tl.map .const) ?_ (by rw [evL_tail]; exact hV) h
  simp only [Bool.and_eq_true] at hok ⊢
  refine ⟨hok.1, hok.2.1, ?_⟩
  rw [List.all_append, hok.2.2, Bool.true_and, List.all_eq_true]
  intro c hc
  obtain ⟨v, _, rfl⟩ := List.mem_map.1 hc
  rfl
theorem enterB {P : Program} {l bor : List Nat} {own : List (Nat × Bool)} {giv : List (Nat × Nat)} {grw : Bool} (hc : calOk P l = true) (hmix : P.follows .mixedOrders = true) {f : Nat} {fn : Func} (hf : P.funcs[f]? = some fn) {m : Nat} {T : TypeId} {kd : IntKind} {L : List Int} {args : List (AV OV)} {fuel : Nat} {hh : Hints} {V : VH} {R : Value → VH → List Int → Prop}
    (hok : (args.all (AV.wf 1) && Nat.ble args.length fn.ntmps) = true)
    (h : sem P (fun v V o => R v V (o.getD [])) (run { P := P, N := fn.ntmps, cal := l, bor := bor, own := own, giv := giv, grw := grw } fn (startSt args [(0, ⟨T, .arr kd (.var (OV.lst L)), false, 0⟩)]) .bor fuel hh) (.tuple #[]) V (fun _ => m) []) : CSpecB P f (args.map (AV.ev (fun _ => m))).toArray V m T kd L R := by
  simp only [Bool.and_eq_true] at hok
  constructor
  intro w hw h0 h1
  refine (run_sound (C := { P := P, N := fn.ntmps, cal := l, bor := bor, own := own, giv := giv, grw := grw }) (callable_of hc) hmix hf rfl (bl := [(0, ⟨T, .arr kd (.var (OV.lst L)), false, 0⟩)]) hok.1 (Nat.le_of_ble_eq_true hok.2) h hw (some m) ?_ ?_).mono ?_
  · intro b blk hb
    rw [getA_cons] at hb
    split at hb
    · rename_i e; subst e; injection hb with hb; subst hb
      exact ⟨by simp, rfl, fun _ => ⟨h1, h0, rfl⟩, fun e => by cases e⟩
    · simp [getA] at hb
  · intro b b' blk blk' hb _ hb' _ _
    rw [getA_cons] at hb hb'
    split at hb
    · split at hb'
      · rename_i e1 e2; rw [e1, e2]
      · simp [getA] at hb'
    · simp [getA] at hb
  · rintro e w' ⟨v, V', o, q1, q2, q3, q4, q5, q6, q7, _⟩
    obtain ⟨L', rfl, e1, e2⟩ := q7 rfl T kd _ _ _ (by rw [getA_cons, if_pos rfl])
    refine ⟨v, V', L', q1, q2, q3, q4, fun k hk => ?_, e1, q6⟩
    rcases q5 k hk with h | h | h
    · exact .inl h
    · exact .inr h
    · injection h with h; subst h; exact absurd e2 hk
theorem enterO {P : Program} {l bor : List Nat} {own : List (Nat × Bool)} {giv : List (Nat × Nat)} {grw : Bool} (hc : calOk P l = true) (hmix : P.follows .mixedOrders = true) {f : Nat} {fn : Func} (hf : P.funcs[f]? = some fn) {T : TypeId} {kd : IntKind} {args : List (AV OV)} {fuel : Nat} {hh : Hints} {V : VH} {R : Value → VH → List Int → Prop}
    (hok : (args.all (AV.wf 0) && Nat.ble args.length fn.ntmps) = true) (h : sem P (fun v V o => R v V (o.getD [])) (run { P := P, N := fn.ntmps, cal := l, bor := bor, own := own, giv := giv, grw := grw } fn (startSt args []) (.own T kd) fuel hh) (.tuple #[]) V (fun _ => 0) []) :
    CSpecO P f (args.map (AV.ev (fun _ => 0))).toArray V T kd (fun _ _ => False) (fun v V' n0 L => (∃ n c, v = .slice (some ⟨n0, 0, none⟩) n c) ∧ R v V' L) := by
  simp only [Bool.and_eq_true] at hok
  constructor
  intro w hw
  refine (run_sound (C := { P := P, N := fn.ntmps, cal := l, bor := bor, own := own, giv := giv, grw := grw }) (callable_of hc) hmix hf rfl (bl := []) hok.1 (Nat.le_of_ble_eq_true hok.2) h hw none ?_ ?_).mono ?_
  · intro b blk hb; simp [getA] at hb
  · intro b b' blk blk' hb _; simp [getA] at hb
  · rintro e w' ⟨v, V', o, h1, h2, h3, h4, h5, h6, _, h7⟩
    obtain ⟨n0, n, c, L, rfl, rfl, e1, e2, e3⟩ := h7 T kd rfl
    refine ⟨_, V', h1, h2.below, h3, h4, fun k hk => ?_, .inr ⟨n0, L, ?_, e2, e1, ⟨n, c, rfl⟩, h6⟩⟩
    · rcases h5 k hk with h | h | h
      · exact .inl h
      · exact .inr h
      · cases h
    · rcases e3 with h | h
      · exact h
      · cases h
end
end Go.Dx
