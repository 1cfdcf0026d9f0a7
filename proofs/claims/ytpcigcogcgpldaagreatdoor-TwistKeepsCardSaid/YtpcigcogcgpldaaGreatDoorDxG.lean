/- A text of this claim's own: Dx.Sound4, Dx.Late. -/
import Derived.Test.YtpcigcogcgpldaaGreatDoorDxF
set_option linter.unusedVariables false
set_option linter.unusedSimpArgs false
set_option linter.unusedVariables false
set_option linter.unusedSimpArgs false
namespace Go.Dx
open Go.RowKit
section
variable {C : Cfg} {R : Value → VH → Option (List Int) → Prop} {B : Option Nat} {w0 : World} {V0 : VH} {P : Program} {S : List LF}

theorem Mv.same {ds : List Nat} {st st1 st2 : St OV} {ρ ρ1 : Nat → Nat} {a a1 : Act} {V V1 : VH} (h : Mv ds st ρ a V st1 ρ1 a1 V1) (hb : st2.bl = st1.bl) (hn : st2.nb = st1.nb) : Mv ds st ρ a V st2 ρ1 a1 V1 :=
  ⟨by rw [hn]; exact h.nb, h.ag, h.tm, by rw [hb, hn]; exact h.bk, h.vl, by rw [hb]; exact h.rm⟩
theorem Mv.same0 {ds : List Nat} {st st0 st1 : St OV} {ρ ρ1 : Nat → Nat} {a a1 : Act} {V V1 : VH} (h : Mv ds st ρ a V st1 ρ1 a1 V1) (hb : st0.bl = st.bl) (hn : st0.nb = st.nb) : Mv ds st0 ρ a V st1 ρ1 a1 V1 :=
  ⟨by rw [hn]; exact h.nb, by rw [hn]; exact h.ag, h.tm, by rw [hb]; exact h.bk, h.vl, by rw [hb, hn]; exact h.rm⟩

theorem Rel.decided {N : Nat} {st : St OV} {V : VH} {ρ : Nat → Nat} {a : Act} {w : World} (h : Rel N B w0 V0 st V ρ a w) {d : Nat} {c : SB OV} (hg : getA st.fr d = some (.one (.bool c))) {b : Bool} (hb : c.ev = b) :
    Rel N B w0 V0 { st with fr := (d, .one (.bool (.lit b))) :: st.fr } V ρ a w := by
  refine { h with fr := ?_, wfF := ?_ }
  · intro t u hu
    simp only [getA_cons] at hu
    split at hu
    · rename_i e
      subst e
      injection hu with hu; subst hu
      rw [h.fr t _ hg]
      simp only [AV.ev, SC.ev, SB.ev, hb]
    · exact h.fr t u hu
  · intro t u hu
    simp only [getA_cons] at hu
    split at hu
    · injection hu with hu; subst hu; rfl
    · exact h.wfF t u hu

theorem decideAt_sound {N : Nat} {st : St OV} {V : VH} {ρ : Nat → Nat} {a : Act} {w : World} {v : Value} {d : Nat} {c : SB OV} {hh : Hints} {k : Bool → St OV → Hints → Tree OV} (h : Rel N B w0 V0 st V ρ a w) (hg : getA st.fr d = some (.one (.bool c)))
    (hs : sem P R (decideAt d c st hh k) v V ρ S) : ∃ b h', c.ev = b ∧ Rel N B w0 V0 { st with fr := (d, .one (.bool (.lit b))) :: st.fr } V ρ a w ∧ sem P R (k b { st with fr := (d, .one (.bool (.lit b))) :: st.fr } h') v V ρ S := by
  unfold decideAt at hs
  split at hs
  · exact ⟨_, _, hs.1, h.decided hg hs.1, hs.2⟩
  · cases hc : c.ev with
    | true => exact ⟨true, _, rfl, h.decided hg hc, hs.1 hc⟩
    | false => exact ⟨false, _, rfl, h.decided hg hc, hs.2 hc⟩
  · cases hc : c.ev with
    | true => exact ⟨true, _, rfl, h.decided hg hc, hs.1 hc⟩
    | false => exact ⟨false, _, rfl, h.decided hg hc, hs.2 hc⟩

theorem wanted_of {N : Nat} {st : St OV} {V : VH} {ρ : Nat → Nat} {a : Act} {w : World} (h : Rel N B w0 V0 st V ρ a w) {ops : Array Oper} {o : Oper} {j : Nat} {want : Bool} (ho : o.guard = some (j, want)) {d : Nat} (hd : (ops[j]?).bind (·.dst) = some d) (hlt : d < N)
    {c : SB OV} (hg : getA st.fr d = some (.one (.bool c))) : Region.wanted o (yielded ops a.tmps) = (c.ev == want) := by
  have hv : a.tmps[d]? = some (.bool c.ev) := by
    have := h.fr d _ hg
    simp only [AV.ev, SC.ev] at this
    rw [← this]
    have hs := h.sz
    simp [Array.getD_eq_getD_getElem?, show d < a.tmps.size by omega]
  simp only [Region.wanted, ho, yielded, hd, Option.bind_some, hv]
  cases c.ev <;> cases want <;> rfl

theorem gdOf_yes {N : Nat} {st : St OV} {V : VH} {ρ : Nat → Nat} {a : Act} {w : World} (h : Rel N B w0 V0 st V ρ a w) {ops : Array Oper} {o : Oper} (hy : gdOf N ops o st = .yes) : Region.wanted o (yielded ops a.tmps) = true := by
  unfold gdOf at hy
  split at hy
  · rename_i ho; simp [Region.wanted, ho]
  · rename_i j want ho
    split at hy
    · cases hy
    · rename_i d hd
      split at hy
      · rename_i hlt
        split at hy
        · rename_i b hg
          rw [wanted_of h ho hd (blt_lt hlt) hg]
          simp only [SB.ev]
          split at hy
          · assumption
          · cases hy
        · cases hy
        · cases hy
        · cases hy
      · cases hy
theorem gdOf_no {N : Nat} {st : St OV} {V : VH} {ρ : Nat → Nat} {a : Act} {w : World} (h : Rel N B w0 V0 st V ρ a w) {ops : Array Oper} {o : Oper} (hy : gdOf N ops o st = .no) : Region.wanted o (yielded ops a.tmps) = false := by
  unfold gdOf at hy
  split at hy
  · cases hy
  · rename_i j want ho
    split at hy
    · cases hy
    · rename_i d hd
      split at hy
      · rename_i hlt
        split at hy
        · rename_i b hg
          rw [wanted_of h ho hd (blt_lt hlt) hg]
          simp only [SB.ev]
          split at hy
          · cases hy
          · rename_i hne; simpa using hne
        · cases hy
        · rename_i hg
          have hv : a.tmps[d]? = some (.tuple #[]) := by
            have := h.fr d _ hg
            have hs := h.sz
            have hlt := blt_lt hlt
            have hlt' : d < a.tmps.size := by rw [hs]; exact hlt
            have e : a.tmps.getD d undef = a.tmps[d] := by simp [Array.getD_eq_getD_getElem?, hlt']
            rw [e] at this
            rw [Array.getElem?_eq_getElem hlt', this]
            rfl
          simp [Region.wanted, ho, yielded, hd, hv]
        · cases hy
      · cases hy
theorem gdOf_ask {N : Nat} {st : St OV} {ops : Array Oper} {o : Oper} {d : Nat} {c : SB OV} (hy : gdOf N ops o st = .ask d c) : ∃ j want, o.guard = some (j, want) ∧ (ops[j]?).bind (·.dst) = some d ∧ d < N ∧ getA st.fr d = some (.one (.bool c)) := by
  unfold gdOf at hy
  split at hy
  · cases hy
  · rename_i j want ho
    split at hy
    · cases hy
    · rename_i d' hd
      split at hy
      · rename_i hlt
        split at hy
        · split at hy <;> cases hy
        · rename_i hg
          injection hy with h1 h2
          subst h1; subst h2
          exact ⟨j, want, ho, hd, blt_lt hlt, hg⟩
        · cases hy
        · cases hy
      · cases hy

theorem guarded_sound {N : Nat} {st : St OV} {V : VH} {ρ : Nat → Nat} {a : Act} {w : World} {v : Value} {ops : Array Oper} {o : Oper} {hh : Hints} {yes no : St OV → Hints → Tree OV} (h : Rel N B w0 V0 st V ρ a w) (hs : sem P R (guarded N ops o st hh yes no) v V ρ S) :
    ∃ st' h', Rel N B w0 V0 st' V ρ a w ∧ st'.bl = st.bl ∧ st'.nb = st.nb ∧ ((Region.wanted o (yielded ops a.tmps) = true ∧ sem P R (yes st' h') v V ρ S) ∨ (Region.wanted o (yielded ops a.tmps) = false ∧ sem P R (no st' h') v V ρ S)) := by
  unfold guarded at hs
  split at hs
  · rename_i hy; exact ⟨st, hh, h, rfl, rfl, .inl ⟨gdOf_yes h hy, hs⟩⟩
  · rename_i hy; exact ⟨st, hh, h, rfl, rfl, .inr ⟨gdOf_no h hy, hs⟩⟩
  · rename_i d c hy
    obtain ⟨j, want, ho, hd, hlt, hg⟩ := gdOf_ask hy
    obtain ⟨b, h', hb, hr, hs⟩ := decideAt_sound h hg hs
    rw [ho] at hs
    simp only at hs
    have hw := wanted_of h ho hd hlt hg
    rw [hb] at hw
    split at hs
    · rename_i e; exact ⟨_, h', hr, rfl, rfl, .inl ⟨by rw [hw]; exact e, hs⟩⟩
    · rename_i e; exact ⟨_, h', hr, rfl, rfl, .inr ⟨by rw [hw]; simpa using e, hs⟩⟩
  · cases hs

/-- A REGION IN THE TEXT's ORDER -/
theorem execL_sound (hC : Callable C) {ops : Array Oper} {Q : Exit → Act → World → Prop} {ds : List Nat} : ∀ (l : List Oper) (hds : ∀ o ∈ l, ∀ t ∈ o.dst.toList, t ∈ ds) (st : St OV) (V : VH) (ρ : Nat → Nat) (a : Act) (w : World) (v : Value) (hh : Hints) {k : St OV → Hints → Tree OV},
    Rel C.N B w0 V0 st V ρ a w → sem C.P R (execL C ops l st hh k) v V ρ S →
    (∀ st' V' ρ' a' w' v' h', Rel C.N B w0 V0 st' V' ρ' a' w' → Mv ds st ρ a V st' ρ' a' V' → sem C.P R (k st' h') v' V' ρ' S → Q .normal a' w') → wpList C.P ops Q l a w
  | [], hds, st, V, ρ, a, w, v, hh, k, h, hs, hk => hk _ _ _ _ _ _ _ h (Mv.refl _ _ _ _ _) hs
  | o :: rest, hds, st, V, ρ, a, w, v, hh, k, h, hs, hk => by
    simp only [execL] at hs
    obtain ⟨st', h', hr, hb, hn, hcase⟩ := guarded_sound h hs
    have hdr : ∀ o ∈ rest, ∀ t ∈ o.dst.toList, t ∈ ds := fun o ho => hds o (List.mem_cons_of_mem _ ho)
    unfold wpList
    rcases hcase with ⟨hw, hs⟩ | ⟨hw, hs⟩
    · rw [if_pos hw]
      exact .inl (doOp_sound hC hr hs fun st1 V1 ρ1 a1 w1 v1 h1 hmo hs1 => execL_sound hC rest hdr st1 V1 ρ1 a1 w1 v1 h' h1 hs1 fun st2 V2 ρ2 a2 w2 v2 h2 hr2 hm2 hs2 =>
        hk st2 V2 ρ2 a2 w2 v2 h2 hr2 (((hmo.mv.mono (hds o List.mem_cons_self)).same0 hb.symm hn.symm).trans hm2) hs2)
    · rw [if_neg (by simp [hw])]
      split at hs
      · rename_i hput
        exact execL_sound hC rest hdr _ V ρ _ w v h' (hr.put hput) hs fun st2 V2 ρ2 a2 w2 v2 h2 hr2 hm2 hs2 =>
          hk st2 V2 ρ2 a2 w2 v2 h2 hr2 ((((Mv.put o.dst (.tup []) _ (Mv.refl _ st' ρ a V)).mono (hds o List.mem_cons_self)).same0 hb.symm hn.symm).trans hm2) hs2
      · cases hs

/-! ### a region that draws -/
theorem getA_dedup {b : Nat} {blk : Blk OV} : ∀ (l : List (Nat × Blk OV)) (seen : List Nat), getA (dedupB l seen) b = some blk → b ∉ seen ∧ getA l b = some blk
  | [], seen, h => by simp [dedupB, getA] at h
  | (c, x) :: l, seen, h => by
    simp only [dedupB] at h
    split at h
    · rename_i hm
      obtain ⟨h1, h2⟩ := getA_dedup l seen h
      refine ⟨h1, ?_⟩
      rw [getA_cons]
      have : b ≠ c := by intro e; subst e; exact h1 ((memB_iff _ _).1 hm)
      rw [if_neg this]; exact h2
    · rename_i hm
      rw [getA_cons] at h
      split at h
      · rename_i e; subst e
        exact ⟨fun h' => hm ((memB_iff _ _).2 h'), by rw [getA_cons, if_pos rfl]; exact h⟩
      · rename_i e
        obtain ⟨h1, h2⟩ := getA_dedup l _ h
        exact ⟨fun h' => h1 (List.mem_cons_of_mem _ h'), by rw [getA_cons, if_neg e]; exact h2⟩
theorem getA_filter {f : Nat × Blk OV → Bool} {b : Nat} {blk : Blk OV} : ∀ {l : List (Nat × Blk OV)}, (∀ p ∈ l, ∀ q ∈ l, p.1 = q.1 → f p = f q) → getA (l.filter f) b = some blk → getA l b = some blk
  | [], _, h => by simp [getA] at h
  | (c, x) :: l, hc, h => by
    rw [List.filter_cons] at h
    rw [getA_cons]
    split at h
    · rw [getA_cons] at h
      split at h
      · rename_i e; subst e; rw [if_pos rfl]; exact h
      · rename_i e; rw [if_neg e]; exact getA_filter (fun p hp q hq => hc p (List.mem_cons_of_mem _ hp) q (List.mem_cons_of_mem _ hq)) h
    · rename_i hf
      have h' := getA_filter (fun p hp q hq => hc p (List.mem_cons_of_mem _ hp) q (List.mem_cons_of_mem _ hq)) h
      by_cases e : b = c
      · subst e
        exfalso
        have hmem : ∀ {l : List (Nat × Blk OV)} {y : Blk OV}, getA (l.filter f) b = some y → ∃ z, (b, z) ∈ l ∧ f (b, z) = true := by
          intro l
          induction l with
          | nil => intro y h; simp [getA] at h
          | cons p l ih =>
            intro y h
            obtain ⟨j, z⟩ := p
            rw [List.filter_cons] at h
            split at h
            · rename_i hz
              rw [getA_cons] at h
              split at h
              · rename_i e; subst e; exact ⟨z, by simp, hz⟩
              · obtain ⟨z', q1, q2⟩ := ih h; exact ⟨z', List.mem_cons_of_mem _ q1, q2⟩
            · obtain ⟨z', q1, q2⟩ := ih h; exact ⟨z', List.mem_cons_of_mem _ q1, q2⟩
        obtain ⟨z, q1, q2⟩ := hmem h
        exact hf (by rw [← q2]; exact hc (b, x) List.mem_cons_self (b, z) (List.mem_cons_of_mem _ q1) rfl)
      · rw [if_neg e]; exact h'
theorem dedup_once : ∀ (l : List (Nat × Blk OV)) (seen : List Nat), (∀ p ∈ dedupB l seen, p.1 ∉ seen) ∧ (∀ p ∈ dedupB l seen, ∀ q ∈ dedupB l seen, p.1 = q.1 → p = q)
  | [], seen => ⟨fun p hp => (by cases hp), fun p hp => (by cases hp)⟩
  | (c, x) :: l, seen => by
    simp only [dedupB]
    split
    · exact dedup_once l seen
    · rename_i hm
      obtain ⟨h1, h2⟩ := dedup_once l (c :: seen)
      refine ⟨fun p hp => ?_, fun p hp q hq e => ?_⟩
      · rcases List.mem_cons.1 hp with rfl | hp
        · exact fun hc => hm ((memB_iff _ _).2 hc)
        · exact fun hc => h1 p hp (List.mem_cons_of_mem _ hc)
      · rcases List.mem_cons.1 hp with rfl | hp <;> rcases List.mem_cons.1 hq with rfl | hq
        · rfl
        · exact absurd (by rw [← e]; simp) (h1 q hq)
        · exact absurd (by rw [e]; simp) (h1 p hp)
        · exact h2 p hp q hq e
theorem getA_held {bor : List Nat} {ops : Array Oper} {st : St OV} {b : Nat} {blk : Blk OV} (h : getA (heldB bor ops st) b = some blk) : getA st.bl b = some blk := by
  unfold heldB at h
  split at h
  · split at h
    · exact (getA_dedup _ _ (getA_filter (fun p hp q hq e => by rw [(dedup_once _ _).2 p hp q hq e]) h)).2
    · cases h
  · cases h

def Held (L : List (Nat × Blk OV)) (ρ0 : Nat → Nat) (VR : VH) (w : World) : Prop := (∀ b blk, getA L b = some blk → w.heap[ρ0 b]? = some (.cells (blk.ct.ev ρ0).toArray blk.T)) ∧ VR.inW w
/-- what stays true through a region -/
structure Inv (L : List (Nat × Blk OV)) (n0 : Nat) (ρ0 : Nat → Nat) (VR : VH) (clean : Bool) (st : St OV) (ρ : Nat → Nat) (V : VH) : Prop where
  ids : ∀ b blk, getA L b = some blk → b < n0 ∧ blk.ct.wf n0 = true ∧ ∃ blk', getA st.bl b = some blk'
  ag : ∀ b, b < n0 → ρ0 b = ρ b
  nb : n0 ≤ st.nb
  vr : VR.le V
  cl : clean = true → V = VR

theorem askAll_sound {N : Nat} {V : VH} {ρ : Nat → Nat} {a : Act} {w : World} {v : Value} {ops : Array Oper} : ∀ (l : List Nat) (st : St OV) (hh : Hints) {k : St OV → Hints → Tree OV}, Rel N B w0 V0 st V ρ a w → sem P R (askAll N ops l st hh k) v V ρ S →
    ∃ st' h', Rel N B w0 V0 st' V ρ a w ∧ st'.bl = st.bl ∧ st'.nb = st.nb ∧ (∀ t, getA st.fr t = none → getA st'.fr t = none) ∧ sem P R (k st' h') v V ρ S
  | [], st, hh, k, h, hs => ⟨st, hh, h, rfl, rfl, fun _ h => h, hs⟩
  | i :: l, st, hh, k, h, hs => by
    simp only [askAll] at hs
    split at hs
    · exact askAll_sound l st hh h hs
    · split at hs
      · rename_i d c hy
        obtain ⟨j, want, ho, hd, hlt, hg⟩ := gdOf_ask hy
        obtain ⟨b, h', hb, hr, hs⟩ := decideAt_sound h hg hs
        obtain ⟨st', h'', r1, r2, r3, rn, r4⟩ := askAll_sound l _ _ hr hs
        refine ⟨st', h'', r1, r2, r3, fun t ht => rn t ?_, r4⟩
        show getA ((d, _) :: st.fr) t = none
        rw [getA_cons, if_neg]
        · exact ht
        · rintro rfl; rw [hg] at ht; cases ht
      · exact askAll_sound l st hh h hs

theorem forceL_eq {α : Type} : ∀ (l : List Bool) (k : List Bool → α), forceL l k = k l
  | [], k => rfl
  | true :: l, k => forceL_eq l _
  | false :: l, k => forceL_eq l _
theorem bothL_sound {v : Value} {V : VH} {ρ : Nat → Nat} : ∀ (l : List (Tree OV)), sem P R (bothL l) v V ρ S → ∀ t ∈ l, sem P R t v V ρ S
  | [], h, t, ht => by cases ht
  | [x], h, t, ht => by
    simp only [List.mem_singleton] at ht; subst ht; exact h
  | x :: y :: l, h, t, ht => by
    cases ht with
    | head => exact h.1
    | tail _ ht => exact bothL_sound (y :: l) h.2 t ht

theorem pick_spec {ops : Array Oper} {L : List (Nat × Blk OV)} {clean : Bool} {listed : Array Bool} {st : St OV} : ∀ (rs : List Nat),
    (∀ i o t, pickOf C ops L clean listed st rs = .take i o t → i ∈ rs ∧ ops[i]? = some o ∧ gdOf C.N ops o st = .yes ∧ takeV C L clean o st = some t ∧ Region.free .any ops listed i = true) ∧
    (∀ i o, pickOf C ops L clean listed st rs = .skip i o → i ∈ rs ∧ ops[i]? = some o ∧ gdOf C.N ops o st = .no ∧ Region.free .any ops listed i = true ∧ putOk C.N st o.dst (.tup []) = true)
  | [] => ⟨fun _ _ _ h => (by cases h), fun _ _ h => (by cases h)⟩
  | i :: rest => by
    have ih := pick_spec (ops := ops) (L := L) (clean := clean) (listed := listed) (st := st) rest
    constructor
    · intro j o t h
      simp only [pickOf] at h
      have lift : pickOf C ops L clean listed st rest = .take j o t → _ := fun h => by
        have := ih.1 j o t h
        exact (⟨List.mem_cons_of_mem _ this.1, this.2⟩ : j ∈ i :: rest ∧ _)
      split at h
      · exact lift h
      · rename_i o' ho'
        split at h
        · rename_i hy
          split at h
          · rename_i t' ht
            split at h
            · rename_i hf
              injection h with h1 h2 h3
              subst h1; subst h2; subst h3
              exact ⟨List.mem_cons_self, ho', hy, ht, hf⟩
            · exact lift h
          · exact lift h
        · split at h
          · cases h
          · exact lift h
        · exact lift h
    · intro j o h
      simp only [pickOf] at h
      have lift : pickOf C ops L clean listed st rest = .skip j o → _ := fun h => by
        have := ih.2 j o h
        exact (⟨List.mem_cons_of_mem _ this.1, this.2⟩ : j ∈ i :: rest ∧ _)
      split at h
      · exact lift h
      · rename_i o' ho'
        split at h
        · split at h
          · split at h
            · cases h
            · exact lift h
          · exact lift h
        · rename_i hy
          split at h
          · rename_i hf
            simp only [Bool.and_eq_true] at hf
            injection h with h1 h2
            subst h1; subst h2
            exact ⟨List.mem_cons_self, ho', hy, hf.1, hf.2⟩
          · exact lift h
        · exact lift h

theorem Inv.of_same {L : List (Nat × Blk OV)} {n0 : Nat} {ρ0 ρ : Nat → Nat} {VR V : VH} {clean : Bool} {st st' : St OV} (h : Inv L n0 ρ0 VR clean st ρ V) (hb : st'.bl = st.bl) (hn : st'.nb = st.nb) : Inv L n0 ρ0 VR clean st' ρ V :=
  ⟨by rw [hb]; exact h.ids, h.ag, by rw [hn]; exact h.nb, h.vr, h.cl⟩
theorem Inv.put {L : List (Nat × Blk OV)} {n0 : Nat} {ρ0 ρ : Nat → Nat} {VR V : VH} {clean : Bool} {st : St OV} (h : Inv L n0 ρ0 VR clean st ρ V) (d : Option Nat) (v : AV OV) : Inv L n0 ρ0 VR clean (st.put d v) ρ V :=
  h.of_same (put_bl _ _ _) (put_nb _ _ _)

def Tk.v : Tk OV → AV OV | .val _ v => v | .ext _ _ _ v => v | .opq .. => .tup []
def Tk.reqs : Tk OV → List (SB OV) | .val r _ => r | .ext _ _ r _ => r | .opq .. => []
/-- taken first: what it yields holds wherever the held blocks stand -/
theorem take_sound {L : List (Nat × Blk OV)} {n0 : Nat} {ρ0 ρ : Nat → Nat} {VR : VH} {clean : Bool} {st : St OV} {V : VH} {a : Act} {w : World} (h : Rel C.N B w0 V0 st V ρ a w) (hi : Inv L n0 ρ0 VR clean st ρ V) {o : Oper} {t : Tk OV} (ht : takeV C L clean o st = some t)
    (hr : ∀ c ∈ t.reqs, c.ev = true) (hx : ∀ kd y r v, t = .ext kd y r v → RdV V kd y) (hno : ∀ y o ks agg, t ≠ .opq y o ks agg) : putOk C.N st o.dst t.v = true ∧ ∀ w', Held L ρ0 VR w' → (execOp a.eval o).run C.P w' = .ok (.value (t.v.ev ρ)) w' := by
  unfold takeV at ht
  split at ht
  · cases ht
  rename_i hops
  have hops : opsOk st o.op = true := by simpa using hops
  have hev := h.evals hops
  split at ht
  · rename_i r hp
    split at ht
    · rename_i hput
      injection ht with ht; subst ht
      exact ⟨hput, fun w' _ => opPure_sound (ρ := ρ) hev hp hr w'⟩
    · cases ht
  · split at ht
    · rename_i t0 x ho
      have hevx : a.eval x = (evO st x).ev ρ := hev x (by rw [ho]; simp [Op.operands])
      have hL : ∀ w', Held L ρ0 VR w' → ∀ b blk, getA L b = some blk → w'.heap[ρ b]? = some (.cells (blk.ct.ev ρ).toArray blk.T) := fun w' hh b blk hb => by
        obtain ⟨h1, h2, _⟩ := hi.ids b blk hb
        rw [← hi.ag b h1, ← Ct.ev_congr hi.ag h2]
        exact hh.1 b blk hb
      split at ht
      · rename_i reqs v' hl
        split at ht
        · rename_i hput
          injection ht with ht; subst ht
          refine ⟨hput, fun w' hh => ?_⟩
          unfold execOp
          rw [ho]
          have := load_sound (V := VR) (hL w' hh) (fun _ _ _ => hh.2) hl hr (fun _ _ _ _ e => by cases e) (fun _ _ _ _ _ e => by cases e)
          simp only [hevx, Sem.run_bind, this, Result.andThen_ok, Sem.run_pure, Ld.v, Tk.v]
        · cases ht
      · rename_i kd y reqs v' hl
        split at ht
        · rename_i hput
          simp only [Bool.and_eq_true] at hput
          injection ht with ht; subst ht
          refine ⟨hput.1, fun w' hh => ?_⟩
          have hrd := hx _ _ _ _ rfl
          rw [hi.cl hput.2] at hrd
          unfold execOp
          rw [ho]
          have := load_sound (V := VR) (hL w' hh) (fun _ _ _ => hh.2) hl hr (fun _ _ _ _ e => by injection e with e1 e2 e3 e4; subst e1; subst e2; exact hrd) (fun _ _ _ _ _ e => by cases e)
          simp only [hevx, Sem.run_bind, this, Result.andThen_ok, Sem.run_pure, Ld.v, Tk.v]
        · cases ht
      · split at ht
        · injection ht with ht; subst ht; exact absurd rfl (hno _ _ _ _)
        · cases ht
      · cases ht
      · cases ht
    · cases ht
/-- taken first, out of what stands for good -/
theorem take_opq {L : List (Nat × Blk OV)} {n0 : Nat} {ρ0 ρ : Nat → Nat} {VR : VH} {clean : Bool} {st : St OV} {V : VH} {a : Act} {w : World} (h : Rel C.N B w0 V0 st V ρ a w) (hi : Inv L n0 ρ0 VR clean st ρ V) {o : Oper} {x : OV} {ofs : SI OV} {ks : List RK} {agg : Bool} (ht : takeV C L clean o st = some (.opq x ofs ks agg))
    {cs : List (SC OV)} (hlen : cs.length = ks.length) (hat : ReadAt V false x ofs.ev.toNat (evL ρ cs)) : ∀ w', Held L ρ0 VR w' → (execOp a.eval o).run C.P w' = .ok (.value ((mkA agg cs).ev ρ)) w' := by
  unfold takeV at ht
  split at ht
  · cases ht
  rename_i hops
  have hops : opsOk st o.op = true := by simpa using hops
  have hev := h.evals hops
  split at ht
  · split at ht <;> cases ht
  · split at ht
    · rename_i t0 y ho
      have hevx : a.eval y = (evO st y).ev ρ := hev y (by rw [ho]; simp [Op.operands])
      split at ht
      · split at ht <;> cases ht
      · split at ht <;> cases ht
      · rename_i x' ofs' ks' agg' hl
        split at ht
        · rename_i hcl
          injection ht with ht
          injection ht with e1 e2 e3 e4
          subst e1; subst e2; subst e3; subst e4
          intro w' hh
          have hL : ∀ b blk, getA L b = some blk → w'.heap[ρ b]? = some (.cells (blk.ct.ev ρ).toArray blk.T) := fun b blk hb => by
            obtain ⟨h1, h2, _⟩ := hi.ids b blk hb
            rw [← hi.ag b h1, ← Ct.ev_congr hi.ag h2]
            exact hh.1 b blk hb
          rw [hi.cl hcl] at hat
          unfold execOp
          rw [ho]
          have := load_opq (V := VR) hL hh.2 hl hlen hat
          simp only [hevx, Sem.run_bind, this, Result.andThen_ok, Sem.run_pure]
        · cases ht
      · cases ht
      · cases ht
    · cases ht

theorem storeOut_ne {L : List (Nat × Blk OV)} {o : Oper} {st : St OV} (hout : storeOut L o st = true) {b : Nat} (ht : tgtOf o st = some b) (hL : (getA L b).isSome = true) : False := by
  unfold storeOut at hout
  unfold tgtOf at ht
  split at ht
  · rename_i ty x y ho
    rw [ho] at hout
    simp only at hout
    split at ht
    · rename_i b' off hx
      rw [hx] at hout
      simp only at hout
      injection ht with ht; subst ht
      cases hg : getA L b' <;> simp [hg] at hout hL
    · cases ht
  · rename_i args ats ho
    rw [ho] at hout
    simp only at hout
    split at ht
    · rename_i x l ha
      rw [ha] at hout
      simp only at hout
      split at ht
      · rename_i b' off n c hx
        rw [hx] at hout
        simp only at hout
        injection ht with ht; subst ht
        cases hg : getA L b' <;> simp [hg] at hout hL
      · cases ht
    · cases ht
  · cases ht
theorem held_moved {L : List (Nat × Blk OV)} {n0 : Nat} {ρ0 ρ ρ' : Nat → Nat} {VR : VH} {clean : Bool} {st st' : St OV} {V V' : VH} {a a' : Act} {w w' : World} (h : Rel C.N B w0 V0 st V ρ a w) (h' : Rel C.N B w0 V0 st' V' ρ' a' w') (hi : Inv L n0 ρ0 VR clean st ρ V) (hh : Held L ρ0 VR w) {o : Oper} (hout : storeOut L o st = true) (hbo : borOut C L o st = true)
    (hm : Mo C o st ρ a V w st' ρ' a' V' w') : Inv L n0 ρ0 VR (clean && !isCall o) st' ρ' V' ∧ Held L ρ0 VR w' := by
  constructor
  · refine ⟨fun b blk hb => ?_, fun b hb => ?_, Nat.le_trans hi.nb hm.mv.nb, VH.le_trans hi.vr hm.mv.vl, fun hc => ?_⟩
    · obtain ⟨h1, h2, blk', h3⟩ := hi.ids b blk hb
      refine ⟨h1, h2, ?_⟩
      cases hg2 : getA st'.bl b with
      | some blk2 => exact ⟨blk2, rfl⟩
      | none =>
        exfalso
        have ht := hm.gone b blk' h3 hg2
        exact storeOut_ne hout ht (by rw [hb]; rfl)
    · rw [hi.ag b hb]; exact hm.mv.ag b (Nat.lt_of_lt_of_le hb hi.nb)
    · simp only [Bool.and_eq_true, Bool.not_eq_true'] at hc
      rw [hm.clean hc.2, hi.cl hc.1]
  · refine ⟨?_, fun k o hk => h'.vw k o (hm.mv.vl _ _ (hi.vr _ _ hk))⟩
    intro b blk hb
    obtain ⟨h1, h2, blk', h3⟩ := hi.ids b blk hb
    have hst := hh.1 b blk hb
    have hlt : ρ0 b < w.heap.size := (Array.getElem?_eq_some_iff.1 hst).1
    have hLne : L.isEmpty = false := by
      cases L with
      | nil => simp [getA] at hb
      | cons _ _ => rfl
    rw [hm.heap L hbo hLne (ρ0 b) hlt ?_]; exact hst
    intro t ht e
    obtain ⟨tb, g1, g2⟩ := hm.tgt t ht
    have hne : b ≠ t := by
      intro e'; subst e'
      exact storeOut_ne hout ht (by rw [hb]; rfl)
    rw [hi.ag b h1] at e
    cases hg : blk'.giv with
    | false => exact hne (h.inj b t blk' tb h3 hg g1 g2 e)
    | true =>
      have q1 := h.giv b blk' h3 hg
      have q2 := (h.own t tb g1 g2).2.1
      rw [e, q2] at q1; cases q1

theorem ops_ds {ops : Array Oper} {i : Nat} {o : Oper} (h : ops[i]? = some o) : ∀ t ∈ o.dst.toList, t ∈ ops.toList.filterMap (·.dst) := by
  intro t ht
  have hm : o ∈ ops.toList := by simpa using Array.mem_of_getElem? h
  exact List.mem_filterMap.2 ⟨o, hm, by cases hd : o.dst with
    | none => rw [hd] at ht; cases ht
    | some d => rw [hd] at ht; simp only [Option.toList, List.mem_singleton] at ht; subst ht; rfl⟩

/-- A REGION THAT DRAWS -/
theorem execD_sound (hC : Callable C) {ops : Array Oper} (hsel : Region.noSelect ops = true) {Q : Exit → Act → World → Prop} (hQ : ∀ c a w, ¬ Q (.panic c) a w) {L : List (Nat × Blk OV)} {n0 : Nat} {ρ0 : Nat → Nat} {VR : VH} : ∀ (n : Nat) (clean : Bool) (listed : Array Bool) (st : St OV) (V : VH) (ρ : Nat → Nat) (a : Act) (w : World) (v : Value) (hh : Hints) {k : St OV → Hints → Tree OV},
    Rel C.N B w0 V0 st V ρ a w → Inv L n0 ρ0 VR clean st ρ V → Held L ρ0 VR w → sem C.P R (execD C ops L n clean listed st hh k) v V ρ S →
    (∀ st' V' ρ' a' w' v' h', Rel C.N B w0 V0 st' V' ρ' a' w' → Mv (ops.toList.filterMap (·.dst)) st ρ a V st' ρ' a' V' → sem C.P R (k st' h') v' V' ρ' S → Q .normal a' w') → wpAnyH C.P .any ops Q (Held L ρ0 VR) n listed a w
  | 0, clean, listed, st, V, ρ, a, w, v, hh, k, h, hi, hl, hs, hk => by
    unfold execD at hs
    split at hs
    · rename_i hr; exact wpAnyH_done hr (hk _ _ _ _ _ _ _ h (Mv.refl _ _ _ _ _) hs) 0
    · cases hs
  | n + 1, clean, listed, st, V, ρ, a, w, v, hh, k, h, hi, hl, hs, hk => by
    unfold execD at hs
    rw [forceL_eq] at hs
    simp only [Array.toArray_toList] at hs
    generalize hrs : Region.ready .any ops listed = rs at hs
    cases rs with
    | nil => exact wpAnyH_done hrs (hk _ _ _ _ _ _ _ h (Mv.refl _ _ _ _ _) hs) (n + 1)
    | cons r0 rs0 =>
      have hne : r0 :: rs0 ≠ [] := by simp
      obtain ⟨st1, h1, hr1, hb1, hn1, _, hs⟩ := askAll_sound _ _ _ h hs
      have hi1 := hi.of_same hb1 hn1
      have go : ∀ {st2 : St OV} {ρ2 : Nat → Nat} {a2 : Act} {V2 : VH}, Mv (ops.toList.filterMap (·.dst)) st1 ρ a V st2 ρ2 a2 V2 → (∀ st' V' ρ' a' w' v' h', Rel C.N B w0 V0 st' V' ρ' a' w' → Mv (ops.toList.filterMap (·.dst)) st2 ρ2 a2 V2 st' ρ' a' V' → sem C.P R (k st' h') v' V' ρ' S → Q .normal a' w') :=
        fun hm st' V' ρ' a' w' v' h' hr' hm' hs' => hk st' V' ρ' a' w' v' h' hr' ((hm.same0 hb1.symm hn1.symm).trans hm') hs'
      split at hs
      · rename_i i o reqs v1 hp
        obtain ⟨p1, p2, p3, p4, p5⟩ := (pick_spec (C := C) (ops := ops) (L := L) (clean := clean) (listed := listed) (st := st1) _).1 _ _ _ hp
        obtain ⟨hreq, hs⟩ := needs_sem hs
        obtain ⟨t1, t2⟩ := take_sound hr1 hi1 p4 hreq (fun _ _ _ _ e => by cases e) (fun _ _ _ _ e => by cases e)
        refine wpAnyH_take p2 hsel p5 (by rw [hrs]; simpa using p1) (fun c a w hq => (hQ _ _ _ hq).elim) (.inl ⟨gdOf_yes hr1 p3, t2⟩) hl ?_
        exact execD_sound hC hsel hQ n clean _ _ V ρ _ w v h1 (hr1.put t1) (hi1.put _ _) hl hs (go ((Mv.put _ _ _ (Mv.refl _ _ _ _ _)).mono (ops_ds p2)))
      · rename_i i o kd x reqs v1 hp
        obtain ⟨p1, p2, p3, p4, p5⟩ := (pick_spec (C := C) (ops := ops) (L := L) (clean := clean) (listed := listed) (st := st1) _).1 _ _ _ hp
        obtain ⟨hrd, hs⟩ := hs
        obtain ⟨hreq, hs⟩ := needs_sem hs
        obtain ⟨t1, t2⟩ := take_sound hr1 hi1 p4 hreq (fun _ _ _ _ e => by injection e with e1 e2 e3 e4; subst e1; subst e2; exact hrd) (fun _ _ _ _ e => by cases e)
        refine wpAnyH_take p2 hsel p5 (by rw [hrs]; simpa using p1) (fun c a w hq => (hQ _ _ _ hq).elim) (.inl ⟨gdOf_yes hr1 p3, t2⟩) hl ?_
        exact execD_sound hC hsel hQ n clean _ _ V ρ _ w v h1 (hr1.put t1) (hi1.put _ _) hl hs (go ((Mv.put _ _ _ (Mv.refl _ _ _ _ _)).mono (ops_ds p2)))
      · rename_i i o x ofs ks agg hp
        obtain ⟨p1, p2, p3, p4, p5⟩ := (pick_spec (C := C) (ops := ops) (L := L) (clean := clean) (listed := listed) (st := st1) _).1 _ _ _ hp
        obtain ⟨cs, hlen, hat, hs⟩ := opqK_sound hs
        split at hs
        · rename_i t1
          have t2 := take_opq hr1 hi1 p4 hlen hat
          refine wpAnyH_take p2 hsel p5 (by rw [hrs]; simpa using p1) (fun c a w hq => (hQ _ _ _ hq).elim) (.inl ⟨gdOf_yes hr1 p3, t2⟩) hl ?_
          exact execD_sound hC hsel hQ n clean _ _ V ρ _ w v h1 (hr1.put t1) (hi1.put _ _) hl hs (go ((Mv.put _ _ _ (Mv.refl _ _ _ _ _)).mono (ops_ds p2)))
        · cases hs
      · rename_i i o hp
        obtain ⟨p1, p2, p3, p4, p5⟩ := (pick_spec (C := C) (ops := ops) (L := L) (clean := clean) (listed := listed) (st := st1) _).2 _ _ hp
        refine wpAnyH_take p2 hsel p4 (by rw [hrs]; simpa using p1) (fun c a w hq => (hQ _ _ _ hq).elim) (.inr ⟨gdOf_no hr1 p3, rfl⟩) hl ?_
        exact execD_sound hC hsel hQ n clean _ _ V ρ _ w v h1 (hr1.put p5) (hi1.put _ _) hl hs (go ((Mv.put _ _ _ (Mv.refl _ _ _ _ _)).mono (ops_ds p2)))
      · rename_i hp
        refine wpAnyH_all hrs hne ?_
        intro i hi2
        have hs2 := bothL_sound _ hs _ (List.mem_map.2 ⟨i, hi2, rfl⟩)
        unfold wpOp
        split at hs2
        · cases hs2
        · rename_i o ho
          simp only [ho]
          split at hs2
          · rename_i hout
            simp only [Bool.and_eq_true] at hout
            split at hs2
            · rename_i hy
              rw [if_pos (gdOf_yes hr1 hy)]
              refine .inl (doOp_sound hC hr1 hs2 fun st' V' ρ' a' w' v' hr' hm hs' => ?_)
              obtain ⟨i1, i2⟩ := held_moved hr1 hr' hi1 hl hout.1 hout.2 hm
              exact ⟨i2, execD_sound hC hsel hQ n _ _ _ V' ρ' _ w' v' h1 hr' i1 i2 hs' (go (hm.mv.mono (ops_ds ho)))⟩
            · rename_i hy
              rw [if_neg (by simp [gdOf_no hr1 hy])]
              split at hs2
              · rename_i hput
                exact ⟨hl, execD_sound hC hsel hQ n clean _ _ V ρ _ w v h1 (hr1.put hput) (hi1.put _ _) hl hs2 (go ((Mv.put _ _ _ (Mv.refl _ _ _ _ _)).mono (ops_ds ho)))⟩
              · cases hs2
            · cases hs2
          · cases hs2
end
end Go.Dx

set_option linter.unusedVariables false
set_option linter.unusedSimpArgs false
namespace Go.Dx
open Go.RowKit
section
variable {C : Cfg} {R : Value → VH → Option (List Int) → Prop} {B : Option Nat} {w0 : World} {V0 : VH} {S : List LF}

theorem markA_get (X : List Nat) : ∀ (l : Array Bool) (j : Nat), (markA X l)[j]? = if j ∈ X then l[j]?.map (fun _ => true) else l[j]? := by
  induction X with
  | nil => intro l j; simp [markA]
  | cons x X ih =>
    intro l j
    show (markA X (l.setIfInBounds x true))[j]? = _
    rw [ih]
    by_cases hx : x = j
    · subst hx
      by_cases hl : x < l.size
      · simp [hl]
      · simp [hl]
    · rw [Array.getElem?_setIfInBounds_ne hx]
      by_cases hj : j ∈ X <;> simp [hj, show ¬ j = x from fun e => hx e.symm]
theorem markA_set {E : List Nat} {l : Array Bool} {i : Nat} : (markA E l).setIfInBounds i true = markA (i :: E) l := by
  apply Array.ext_getElem?
  intro j
  rw [markA_get]
  by_cases h : i = j
  · subst h
    have : (markA E l)[i]? = none ↔ l[i]? = none := by
      rw [markA_get]; split <;> simp
    by_cases hl : i < l.size
    · have hm : i < (markA E l).size := by
        apply Decidable.byContradiction; intro hc
        have h1 : (markA E l)[i]? = none := Array.getElem?_eq_none (by omega)
        have := this.1 h1
        rw [Array.getElem?_eq_none_iff] at this; omega
      simp [hl, hm]
    · have hm : ¬ i < (markA E l).size := by
        intro hc
        have h1 : l[i]? = none := Array.getElem?_eq_none (by omega)
        have := this.2 h1
        rw [Array.getElem?_eq_none_iff] at this; omega
      simp [hl, hm]
  · rw [Array.getElem?_setIfInBounds_ne h, markA_get]
    by_cases hj : j ∈ E <;> simp [hj, show ¬ j = i from fun e => h e.symm]
theorem markA_comm {E : List Nat} {l : Array Bool} {i : Nat} : (markA E l).setIfInBounds i true = markA E (l.setIfInBounds i true) := by
  rw [markA_set]; rfl
theorem markA_eq {E X : List Nat} {l : Array Bool} (h : ∀ i, i ∈ E ↔ i ∈ X) : markA E l = markA X l := by
  apply Array.ext_getElem?
  intro j
  rw [markA_get, markA_get]
  by_cases hj : j ∈ E
  · rw [if_pos hj, if_pos ((h j).1 hj)]
  · rw [if_neg hj, if_neg fun hc => hj ((h j).2 hc)]
theorem markA_true {E : List Nat} {l : Array Bool} {j : Nat} : (markA E l).getD j true = false ↔ j ∉ E ∧ l.getD j true = false := by
  simp only [Array.getD_eq_getD_getElem?, markA_get]
  by_cases hj : j ∈ E
  · simp only [hj, if_true, not_true, false_and, iff_false]
    cases l[j]? <;> simp
  · simp [hj]
theorem markA_false {E : List Nat} {l : Array Bool} {j : Nat} (h : (markA E l).getD j false = true) : j ∈ E ∨ l.getD j false = true := by
  simp only [Array.getD_eq_getD_getElem?, markA_get] at h ⊢
  by_cases hj : j ∈ E
  · exact .inl hj
  · right; simpa [hj] using h
theorem markA_of {E : List Nat} {l : Array Bool} {j : Nat} (h : l.getD j false = true) : (markA E l).getD j false = true := by
  simp only [Array.getD_eq_getD_getElem?, markA_get] at h ⊢
  by_cases hj : j ∈ E
  · cases hl : l[j]? with
    | none => rw [hl] at h; simp at h
    | some b => simp [hj]
  · simpa [hj] using h
theorem not_memB {x : Nat} {X : List Nat} : memB x X = false ↔ x ∉ X := by
  constructor
  · intro h hc; rw [(memB_iff _ _).2 hc] at h; cases h
  · intro h
    cases hc : memB x X with
    | true => exact absurd ((memB_iff _ _).1 hc) h
    | false => rfl

/-- what 'lateOk' says -/
structure LateX (C : Cfg) (ops : Array Oper) (X : List Nat) : Prop where
  al : ∀ i ∈ X, ∃ o T d, ∃ z : List (SC OV), ops[i]? = some o ∧ o.op = .alloc T ∧ o.dst = some d ∧ zeroT C.P T = some z ∧ z.all (SC.wf 0) = true ∧ d < C.N ∧ o.guard = none ∧ o.after = #[] ∧
    ∀ j ∈ X, j ≠ i → ∀ oj, ops[j]? = some oj → oj.dst ≠ some d
  ot : ∀ i o, ops[i]? = some o → i ∉ X → (∀ d, o.dst = some d → d ∉ dstX ops X) ∧ ((∀ e ∈ o.after, e.on ∉ X) ∨ ∀ x ∈ X, ∃ e ∈ o.after, Region.binds .any e = true ∧ e.on = x)
  nd : X.Nodup
  ne : X ≠ []
theorem nodupB_spec : ∀ {X : List Nat}, nodupB X = true → X.Nodup
  | [], _ => List.nodup_nil
  | x :: X, h => by
    simp only [nodupB, Bool.and_eq_true, Bool.not_eq_true'] at h
    exact List.nodup_cons.2 ⟨not_memB.1 h.1, nodupB_spec h.2⟩
theorem waits_spec {o : Oper} {i : Nat} (h : waits o i = true) : ∃ e ∈ o.after, Region.binds .any e = true ∧ e.on = i := by
  unfold waits at h
  obtain ⟨e, he, h1⟩ := List.any_eq_true.1 h
  simp only [Bool.and_eq_true] at h1
  exact ⟨e, by simpa using he, h1.1, Nat.eq_of_beq_eq_true h1.2⟩
theorem afterNo_spec {o : Oper} {X : List Nat} : afterNo X o = true ↔ ∀ e ∈ o.after, e.on ∉ X := by
  unfold afterNo
  rw [List.all_eq_true]
  constructor
  · intro h e he
    have := h e (by simpa using he)
    exact not_memB.1 (by simpa using this)
  · intro h e he
    have := not_memB.2 (h e (by simpa using he))
    simp [this]
theorem lateOk_spec {ops : Array Oper} {X : List Nat} (h : lateOk C ops X = true) : LateX C ops X := by
  simp only [lateOk, Bool.and_eq_true] at h
  obtain ⟨⟨⟨hne, h0⟩, h1⟩, h2⟩ := h
  refine ⟨fun i hi => ?_, fun i o ho hi => ?_, nodupB_spec h0, fun hc => by rw [hc] at hne; simp at hne⟩
  · have hl := List.all_eq_true.1 h1 i hi
    unfold lateOp at hl
    split at hl
    · rename_i o ho
      split at hl
      · rename_i T d hop hd
        simp only [Bool.and_eq_true] at hl
        obtain ⟨⟨⟨⟨q1, q2⟩, q3⟩, q4⟩, q5⟩ := hl
        split at q1
        · rename_i z hz
          refine ⟨o, T, d, z, ho, hop, hd, hz, q1, blt_lt q2, by simpa using q3, by simpa using q4, fun j hj hne oj hoj hc => ?_⟩
          have := List.all_eq_true.1 q5 j hj
          rw [hoj] at this
          simp only [Option.bind_some, hc, Bool.or_eq_true] at this
          rcases this with h | h
          · exact hne (Nat.eq_of_beq_eq_true h)
          · simp at h
        · cases q1
      · cases hl
    · cases hl
  · have hlt : i < ops.size := (Array.getElem?_eq_some_iff.1 ho).1
    have hl := List.all_eq_true.1 h2 i (List.mem_range.2 hlt)
    unfold otherOp at hl
    rw [not_memB.2 hi, ho] at hl
    simp only [Bool.false_or, Bool.and_eq_true, Bool.or_eq_true] at hl
    refine ⟨fun d hd => ?_, hl.2.imp afterNo_spec.1 fun hb => ?_⟩
    · have := hl.1
      rw [hd] at this
      exact not_memB.1 (by simpa using this)
    · exact fun x hx => waits_spec (List.all_eq_true.1 hb x hx)
theorem needB_spec {ops : Array Oper} {X : List Nat} {r : Nat} (h : needB ops X r = true) : ∀ i o, ops[i]? = some o → i ∉ X → (∀ e ∈ o.after, e.on ∉ X) ∨ (∃ e ∈ o.after, Region.binds .any e = true ∧ e.on ∉ X ∧ ∃ oj, ops[e.on]? = some oj ∧ ¬ ∀ e ∈ oj.after, e.on ∉ X) ∨ reach ops X 6 o r = true := by
  intro i o ho hi
  have := List.all_eq_true.1 h i (List.mem_range.2 (Array.getElem?_eq_some_iff.1 ho).1)
  rw [not_memB.2 hi, ho] at this
  simp only [Bool.false_or, Bool.or_eq_true] at this
  refine this.imp afterNo_spec.1 fun h => h.imp (fun h => ?_) id
  unfold waitsB at h
  obtain ⟨e, he, h1⟩ := List.any_eq_true.1 h
  simp only [Bool.and_eq_true] at h1
  obtain ⟨h1, h2, h3⟩ := h1
  refine ⟨e, by simpa using he, h1, not_memB.1 (by simpa using h2), ?_⟩
  split at h3
  · rename_i oj hoj
    refine ⟨oj, hoj, fun hc => ?_⟩
    rw [afterNo_spec.2 hc] at h3; cases h3
  · cases h3

/-- those of X that have come up already -/
def Early (C : Cfg) (ops : Array Oper) (w0 : World) (E : List Nat) (st : St OV) (ρ : Nat → Nat) (V : VH) (a : Act) (w : World) (num : Nat → Nat) : Prop :=
  (∀ i ∈ E, (∃ o T d, ∃ z : List (SC OV), ops[i]? = some o ∧ o.op = .alloc T ∧ o.dst = some d ∧ zeroT C.P T = some z ∧ z.all (SC.wf 0) = true ∧
    a.tmps.getD d undef = .pointer (some ⟨num i, 0, none⟩) ∧ w.heap[num i]? = some (.cells (evL ρ z).toArray T)) ∧
    V.f (num i) = none ∧ w0.heap.size ≤ num i ∧ (∀ b blk, getA st.bl b = some blk → blk.giv = false → ρ b ≠ num i)) ∧
  ∀ i ∈ E, ∀ j ∈ E, num i = num j → i = j
theorem evL0 {z : List (SC OV)} (h : z.all (SC.wf 0) = true) (ρ ρ' : Nat → Nat) : evL ρ z = evL ρ' z := evL_congr (n := 0) (fun b hb => by omega) h
theorem Early.tm {ops : Array Oper} {E : List Nat} {st st' : St OV} {ρ : Nat → Nat} {V : VH} {a a' : Act} {w : World} {num : Nat → Nat} (h : Early C ops w0 E st ρ V a w num) (hb : st'.bl = st.bl)
    (ht : ∀ i ∈ E, ∀ o d, ops[i]? = some o → o.dst = some d → a'.tmps.getD d undef = a.tmps.getD d undef) : Early C ops w0 E st' ρ V a' w num := by
  refine ⟨fun i hi => ?_, h.2⟩
  obtain ⟨⟨o, T, d, z, h1, h2, h3, h4, h5, h6, h7⟩, h8, h9, h10⟩ := h.1 i hi
  exact ⟨⟨o, T, d, z, h1, h2, h3, h4, h5, by rw [ht i hi o d h1 h3]; exact h6, h7⟩, h8, h9, by rw [hb]; exact h10⟩
theorem mem_dstX {ops : Array Oper} {X : List Nat} {i : Nat} {o : Oper} {d : Nat} (hi : i ∈ X) (ho : ops[i]? = some o) (hd : o.dst = some d) : d ∈ dstX ops X :=
  List.mem_filterMap.2 ⟨i, hi, by rw [ho]; exact hd⟩
theorem Early.step {ops : Array Oper} {X E : List Nat} {st st' : St OV} {ρ ρ' : Nat → Nat} {V V' : VH} {a a' : Act} {w w' : World} {num : Nat → Nat} {o : Oper} (h : Early C ops w0 E st ρ V a w num) (hEX : ∀ i ∈ E, i ∈ X)
    (hm : Mo C o st ρ a V w st' ρ' a' V' w') (hd : ∀ d, o.dst = some d → d ∉ dstX ops X) : Early C ops w0 E st' ρ' V' a' w' num := by
  refine ⟨fun i hi => ?_, h.2⟩
  obtain ⟨⟨o1, T, d, z, h1, h2, h3, h4, h5, h6, h7⟩, h8, h9, h10⟩ := h.1 i hi
  have hlt : num i < w.heap.size := (Array.getElem?_eq_some_iff.1 h7).1
  obtain ⟨k1, k2, k3⟩ := hm.keep (num i) hlt h8 h10
  refine ⟨⟨o1, T, d, z, h1, h2, h3, h4, h5, ?_, by rw [k1, evL0 h5 ρ' ρ]; exact h7⟩, k2, h9, k3⟩
  rw [hm.mv.tm d ?_]; exact h6
  intro hc
  cases ho : o.dst with
  | none => rw [ho] at hc; simp at hc
  | some d' =>
    rw [ho] at hc; simp at hc; subst hc
    exact hd d ho (mem_dstX (hEX i hi) h1 h3)

/-- one of X comes up -/
theorem alloc_real {ops : Array Oper} {X E : List Nat} {i : Nat} (hX : LateX C ops X) (hi : i ∈ X) (hE : i ∉ E) (hEX : ∀ j ∈ E, j ∈ X) {st : St OV} {V : VH} {ρ : Nat → Nat} {a : Act} {w : World} {num : Nat → Nat} {L : List (Nat × Blk OV)} {ρ0 : Nat → Nat} {VR : VH}
    (h : Rel C.N B w0 V0 st V ρ a w) (hl : Held L ρ0 VR w) (he : Early C ops w0 E st ρ V a w num) (hf : ∀ d ∈ dstX ops X, getA st.fr d = none) {Q : Exit → Act → World → Prop} {K : Act → World → Prop}
    (hk : ∀ a' w' num', Rel C.N B w0 V0 st V ρ a' w' → Held L ρ0 VR w' → Early C ops w0 (i :: E) st ρ V a' w' num' → (∀ t, t ∉ dstX ops X → a'.tmps.getD t undef = a.tmps.getD t undef) → K a' w') : wpOp C.P ops Q i K a w := by
  obtain ⟨o, T, d, z, h1, h2, h3, h4, h5, h6, h7, h8, h9⟩ := hX.al i hi
  unfold wpOp
  simp only [h1]
  have hw : Region.wanted o (yielded ops a.tmps) = true := gdOf_yes (N := C.N) h (ops := ops) (o := o) (by unfold gdOf; rw [h7])
  rw [if_pos hw]
  refine .inl ?_
  unfold Oper.wp
  have hnew : opNew C.P st.nb (evO st) o.op = some ([], T, .cells z, .one (.ptr st.nb (natI 0))) := by
    rw [h2]; simp only [opNew]; rw [h4]; rfl
  rw [new_sound (ρ := ρ) (w := w) (nb := st.nb) (ev := evO st) (re := a.eval) (fun x hx => by rw [h2] at hx; simp [Op.operands] at hx) hnew (fun c hc => by cases hc)]
  have hp : (AV.ev (upd ρ st.nb w.heap.size) (.one (.ptr st.nb (natI 0)))) = .pointer (some ⟨w.heap.size, 0, none⟩) := by
    simp [AV.ev, SC.ev, upd, natI_ev]
  rw [hp]
  show K (a.put o.dst _) _
  rw [h3]
  have hold : ∀ k, k < w.heap.size → (w.alloc (.cells ((Ct.cells z).ev ρ).toArray T)).heap[k]? = w.heap[k]? := fun k hk => by
    show (w.heap.push _)[k]? = _
    rw [Array.getElem?_push, if_neg (by omega)]
  have hvn : V.f w.heap.size = none := by
    cases hv : V.f w.heap.size with
    | none => rfl
    | some o => have := h.vw _ _ hv; simp at this
  have hdX : d ∈ dstX ops X := mem_dstX hi h1 h3
  have hsz : d < a.tmps.size := by rw [h.sz]; exact h6
  have hne : ∀ b blk, getA st.bl b = some blk → ρ b ≠ w.heap.size := fun b blk hb => by
    have := (Array.getElem?_eq_some_iff.1 (h.heapOf hb)).1; omega
  refine hk _ _ (fun j => if j = i then w.heap.size else num j) ?_ ?_ ?_ ?_
  · refine { h with fr := ?_, sz := ?_, df := h.df, vw := ?_, own := ?_, below := ?_ }
    · intro t v hv
      have : t ∉ (some d).toList := by
        intro hc; simp at hc; subst hc; rw [hf t hdX] at hv; cases hv
      rw [put_tm a (some d) _ t this]; exact h.fr t v hv
    · simp only [Act.put, Array.size_setIfInBounds]; exact h.sz
    · intro k o hk
      have hlt : k < w.heap.size := (Array.getElem?_eq_some_iff.1 (h.vw k o hk)).1
      rw [hold k hlt]; exact h.vw k o hk
    · intro b blk hb hg
      obtain ⟨q1, q2⟩ := h.own b blk hb hg
      have hlt : ρ b < w.heap.size := (Array.getElem?_eq_some_iff.1 q1).1
      rw [hold _ hlt]; exact ⟨q1, q2⟩
    · refine h.below.trans ⟨rfl, rfl, rfl, ?_, fun k hk _ => hold k (Nat.lt_of_lt_of_le hk h.below.size)⟩
      show w.heap.size ≤ (w.heap.push _).size
      simp
  · refine ⟨fun b blk hb => ?_, fun k o hk => ?_⟩
    · have := hl.1 b blk hb
      rw [hold _ (Array.getElem?_eq_some_iff.1 this).1]; exact this
    · have := hl.2 k o hk
      rw [hold _ (Array.getElem?_eq_some_iff.1 this).1]; exact this
  · refine ⟨fun j hj => ?_, fun j hj j' hj' hn => ?_⟩
    · rcases List.mem_cons.1 hj with rfl | hj
      · dsimp only; rw [if_pos rfl]
        refine ⟨⟨o, T, d, z, h1, h2, h3, h4, h5, ?_, ?_⟩, hvn, h.below.size, fun b blk hb _ => hne b blk hb⟩
        · simp [Act.put, Array.getD_eq_getD_getElem?, hsz]
        · show (w.heap.push _)[w.heap.size]? = _
          simp [Ct.ev]
      · have hji : j ≠ i := fun e => hE (e ▸ hj)
        dsimp only; rw [if_neg hji]
        obtain ⟨⟨o1, T1, d1, z1, g1, g2, g3, g4, g5, g6, g7⟩, g8, g9, g10⟩ := he.1 j hj
        refine ⟨⟨o1, T1, d1, z1, g1, g2, g3, g4, g5, ?_, ?_⟩, g8, g9, g10⟩
        · have : d1 ∉ (some d).toList := by
            intro hc; simp at hc; subst hc
            exact h9 j (hEX j hj) hji o1 g1 g3
          rw [put_tm a (some d) _ d1 this]; exact g6
        · rw [hold _ (Array.getElem?_eq_some_iff.1 g7).1]; exact g7
    · have hlt : ∀ k ∈ E, num k < w.heap.size := fun k hk => by
        obtain ⟨⟨o1, T1, d1, z1, g1, g2, g3, g4, g5, g6, g7⟩, _⟩ := he.1 k hk
        exact (Array.getElem?_eq_some_iff.1 g7).1
      simp only at hn
      rcases List.mem_cons.1 hj with e1 | hj1 <;> rcases List.mem_cons.1 hj' with e2 | hj2
      · rw [e1, e2]
      · by_cases e : j' = i
        · rw [e1, e]
        · rw [if_pos e1, if_neg e] at hn; have := hlt j' hj2; omega
      · by_cases e : j = i
        · rw [e, e2]
        · rw [if_neg e, if_pos e2] at hn; have := hlt j hj1; omega
      · have e1 : j ≠ i := fun e => hE (e ▸ hj1)
        have e2 : j' ≠ i := fun e => hE (e ▸ hj2)
        rw [if_neg e1, if_neg e2] at hn
        exact he.2 j hj1 j' hj2 hn
  · intro t ht
    refine put_tm a (some d) _ t ?_
    intro hc; simp at hc; subst hc; exact ht hdX

/-- all of X have come up: now they count -/
theorem absorb {ops : Array Oper} {X : List Nat} {L : List (Nat × Blk OV)} {n0 : Nat} {ρ0 : Nat → Nat} {VR : VH} {clean : Bool} {V : VH} {a : Act} {w : World} {num : Nat → Nat} (hX : LateX C ops X) : ∀ (l : List Nat) (st : St OV) (ρ : Nat → Nat) (v : Value) {k : St OV → Tree OV}, (∀ i ∈ l, i ∈ X) → l.Nodup →
    Rel C.N B w0 V0 st V ρ a w → Inv L n0 ρ0 VR clean st ρ V → Early C ops w0 l st ρ V a w num → sem C.P R (allocsX C ops l st k) v V ρ S →
    ∃ st' ρ', Rel C.N B w0 V0 st' V ρ' a w ∧ Inv L n0 ρ0 VR clean st' ρ' V ∧ Mv [] st ρ a V st' ρ' a V ∧ sem C.P R (k st') v V ρ' S
  | [], st, ρ, v, k, hl, hn, h, hi, he, hs => ⟨st, ρ, h, hi, Mv.refl _ _ _ _ _, hs⟩
  | i :: l, st, ρ, v, k, hl, hn, h, hi, he, hs => by
    obtain ⟨⟨o, T, d, z, h1, h2, h3, h4, h5, h6, h7⟩, h8, h9, h10⟩ := he.1 i List.mem_cons_self
    unfold allocsX at hs
    rw [h1] at hs
    simp only at hs
    rw [h2, h3] at hs
    simp only at hs
    rw [h4] at hs
    have hs1 := hs (num i)
    have hne : ∀ b blk, getA st.bl b = some blk → ρ b ≠ num i := fun b blk hb e => by
      cases hg : blk.giv with
      | false => exact h10 b blk hb hg e
      | true =>
        have := h.giv b blk hb hg
        rw [e, h8] at this; cases this
    have hr := h.adopt (T := T) (ct := .cells z) (ver := 0) (n0 := num i) h5 hne h7 h8 (.inl h9)
    have hr2 : Rel C.N B w0 V0 { fr := (d, .one (.ptr st.nb (natI 0))) :: st.fr, bl := (st.nb, ⟨T, .cells z, false, 0⟩) :: st.bl, nb := st.nb + 1 } V (upd ρ st.nb (num i)) a w := by
      refine { hr with fr := ?_, wfF := ?_ }
      · intro t u hu
        simp only [getA_cons] at hu
        split at hu
        · rename_i e; subst e
          injection hu with hu; subst hu
          rw [h6]; simp [AV.ev, SC.ev, upd_eq, natI_ev]
        · exact hr.fr t u hu
      · intro t u hu
        simp only [getA_cons] at hu
        split at hu
        · injection hu with hu; subst hu; exact blt_iff.2 (Nat.lt_succ_self _)
        · exact hr.wfF t u hu
    have hm1 : Mv [] st ρ a V { fr := (d, .one (.ptr st.nb (natI 0))) :: st.fr, bl := (st.nb, ⟨T, .cells z, false, 0⟩) :: st.bl, nb := st.nb + 1 } (upd ρ st.nb (num i)) a V := by
      refine ⟨Nat.le_succ _, fun b hb => by rw [upd_eq, if_neg (by omega)], fun _ _ => rfl, fun b blk hb => ?_, VH.le_refl _, fun c hc h0 => rm_new c hc h0⟩
      have hne : b ≠ st.nb := by have := (h.blt b blk hb).1; omega
      exact .inl ⟨blk, by simp [getA_cons, hne, hb], rfl, rfl, Nat.le_refl _, fun _ => rfl⟩
    have hi2 : Inv L n0 ρ0 VR clean { fr := (d, .one (.ptr st.nb (natI 0))) :: st.fr, bl := (st.nb, ⟨T, .cells z, false, 0⟩) :: st.bl, nb := st.nb + 1 } (upd ρ st.nb (num i)) V := by
      refine ⟨fun b blk hb => ?_, fun b hb => ?_, Nat.le_trans hi.nb (Nat.le_succ _), hi.vr, hi.cl⟩
      · obtain ⟨q1, q2, blk', q3⟩ := hi.ids b blk hb
        have hne : b ≠ st.nb := by have := (h.blt b blk' q3).1; omega
        exact ⟨q1, q2, blk', by simp [getA_cons, hne, q3]⟩
      · rw [hi.ag b hb, upd_eq, if_neg (by have := hi.nb; omega)]
    have he2 : Early C ops w0 l { fr := (d, .one (.ptr st.nb (natI 0))) :: st.fr, bl := (st.nb, ⟨T, .cells z, false, 0⟩) :: st.bl, nb := st.nb + 1 } (upd ρ st.nb (num i)) V a w num := by
      refine ⟨fun j hj => ?_, fun j hj j' hj' => he.2 j (List.mem_cons_of_mem _ hj) j' (List.mem_cons_of_mem _ hj')⟩
      obtain ⟨⟨o1, T1, d1, z1, g1, g2, g3, g4, g5, g6, g7⟩, g8, g9, g10⟩ := he.1 j (List.mem_cons_of_mem _ hj)
      refine ⟨⟨o1, T1, d1, z1, g1, g2, g3, g4, g5, g6, by rw [evL0 g5 _ ρ]; exact g7⟩, g8, g9, fun b blk hb hg => ?_⟩
      simp only [getA_cons] at hb
      split at hb
      · rename_i e; subst e
        rw [upd_eq, if_pos rfl]
        intro hc
        have := he.2 i List.mem_cons_self j (List.mem_cons_of_mem _ hj) hc
        subst this
        exact (List.nodup_cons.1 hn).1 hj
      · rename_i e
        rw [upd_eq, if_neg (by have := (h.blt b blk hb).1; omega)]
        exact g10 b blk hb hg
    obtain ⟨st', ρ', r1, r2, r3, r4⟩ := absorb hX l _ _ v (fun j hj => hl j (List.mem_cons_of_mem _ hj)) (List.nodup_cons.1 hn).2 hr2 hi2 he2 hs1
    exact ⟨st', ρ', r1, r2, hm1.trans r3, r4⟩

theorem dstX_of {ops : Array Oper} {X : List Nat} (hX : LateX C ops X) {d : Nat} (hd : d ∈ dstX ops X) : ∃ i ∈ X, ∃ o, ops[i]? = some o ∧ o.dst = some d := by
  obtain ⟨i, hi, h⟩ := List.mem_filterMap.1 hd
  cases ho : ops[i]? with
  | none => rw [ho] at h; cases h
  | some o => rw [ho] at h; exact ⟨i, hi, o, ho, h⟩
theorem dstX_ds {ops : Array Oper} {X : List Nat} (hX : LateX C ops X) : ∀ t, t ∉ ops.toList.filterMap (·.dst) → t ∉ dstX ops X := by
  intro t ht hc
  obtain ⟨i, _, o, ho, hd⟩ := dstX_of hX hc
  exact ht (ops_ds ho t (by rw [hd]; simp))

/-- what has come up has come up behind what it waits for -/
def Closed (ops : Array Oper) (listed : Array Bool) : Prop := ∀ i o, listed.getD i false = true → ops[i]? = some o → ∀ e ∈ o.after, Region.binds .any e = true → listed.getD e.on false = true
theorem Closed.set {ops : Array Oper} {listed : Array Bool} {i : Nat} (h : Closed ops listed) (hr : i ∈ Region.ready .any ops listed) : Closed ops (listed.setIfInBounds i true) := by
  intro j o hj ho e he hb
  apply getD_set_true
  by_cases hij : i = j
  · subst hij
    obtain ⟨_, o', ho', hall⟩ := mem_ready.1 hr
    rw [ho'] at ho; injection ho with ho; subst ho
    exact hall e he hb
  · rw [getD_set_ne false hij] at hj
    exact h j o hj ho e he hb
theorem reach_listed {ops : Array Oper} {X : List Nat} {listed : Array Bool} (hcl : Closed ops listed) {r : Nat} : ∀ (n : Nat) (o : Oper), (∀ e ∈ o.after, Region.binds .any e = true → listed.getD e.on false = true) → reach ops X n o r = true → listed.getD r false = true
  | 0, o, h, hr => by
    obtain ⟨e, he, hb, rfl⟩ := waits_spec hr
    exact h e he hb
  | n + 1, o, h, hr => by
    unfold reach at hr
    rw [Bool.or_eq_true] at hr
    rcases hr with hr | hr
    · obtain ⟨e, he, hb, rfl⟩ := waits_spec hr
      exact h e he hb
    · obtain ⟨e, he, h1⟩ := List.any_eq_true.1 hr
      have he : e ∈ o.after := by simpa using he
      rw [Bool.and_eq_true] at h1
      have h2 := h1.2
      split at h2
      · rename_i oj hoj
        rw [Bool.and_eq_true] at h2
        exact reach_listed hcl n oj (fun e2 he2 hb2 => hcl e.on oj (h e he h1.1) hoj e2 he2 hb2) h2.2
      · cases h2
/-- .. where some of X have come up as well -/
theorem reach_marked {ops : Array Oper} {X E : List Nat} {listed : Array Bool} (hcl : Closed ops listed) (hX : LateX C ops X) (hE : ∀ i ∈ E, i ∈ X) {r : Nat} (hr0 : r ∉ X) (n : Nat) (o : Oper) (h : ∀ e ∈ o.after, Region.binds .any e = true → (markA E listed).getD e.on false = true) (hr : reach ops X n o r = true) : listed.getD r false = true := by
  have one : ∀ {o : Oper} {i : Nat}, (∀ e ∈ o.after, Region.binds .any e = true → (markA E listed).getD e.on false = true) → waits o i = true → i ∉ X → listed.getD i false = true := by
    intro o i h hw hi
    obtain ⟨e, he, hb, rfl⟩ := waits_spec hw
    rcases markA_false (h e he hb) with hc | hc
    · exact absurd (hE _ hc) hi
    · exact hc
  cases n with
  | zero => exact one h hr hr0
  | succ n =>
    unfold reach at hr
    rw [Bool.or_eq_true] at hr
    rcases hr with hr | hr
    · exact one h hr hr0
    · obtain ⟨e, he, h1⟩ := List.any_eq_true.1 hr
      have he : e ∈ o.after := by simpa using he
      rw [Bool.and_eq_true] at h1
      have h2 := h1.2
      split at h2
      · rename_i oj hoj
        rw [Bool.and_eq_true] at h2
        rcases markA_false (h e he h1.1) with hc | hc
        · exfalso
          obtain ⟨o9, T9, d9, z9, g1, g2, g3, g4, g5, g6, g7, g8, g9⟩ := hX.al e.on (hE _ hc)
          rw [hoj] at g1; injection g1 with g1; subst g1
          have h3 := h2.2
          cases n with
          | zero => obtain ⟨e2, he2, _⟩ := waits_spec h3; rw [g8] at he2; simp at he2
          | succ n =>
            unfold reach at h3
            rw [Bool.or_eq_true] at h3
            rcases h3 with h3 | h3
            · obtain ⟨e2, he2, _⟩ := waits_spec h3; rw [g8] at he2; simp at he2
            · rw [g8] at h3; simp at h3
        · exact reach_listed hcl n oj (fun e2 he2 hb2 => hcl e.on oj hc hoj e2 he2 hb2) h2.2
      · cases h2
/-- A REGION THAT DRAWS, WITH ALLOCATIONS -/
theorem execA_sound (hC : Callable C) {ops : Array Oper} (hsel : Region.noSelect ops = true) {X : List Nat} (hX : LateX C ops X) {Q : Exit → Act → World → Prop} (hQ : ∀ c a w, ¬ Q (.panic c) a w) {L : List (Nat × Blk OV)} {n0 : Nat} {ρ0 : Nat → Nat} {VR : VH} :
    ∀ (m n : Nat) (clean : Bool) (listed : Array Bool) (E rem : List Nat) (st : St OV) (V : VH) (ρ : Nat → Nat) (a : Act) (w : World) (v : Value) (hh : Hints) (num : Nat → Nat) {k : St OV → Hints → Tree OV},
    m = n + rem.length → (∀ i, i ∈ X ↔ i ∈ E ∨ i ∈ rem) → (∀ i ∈ E, i ∉ rem) → rem.Nodup → (∀ i ∈ X, listed.getD i true = false) → Closed ops listed → (∀ j o, listed.getD j false = true → ops[j]? = some o → ∀ e ∈ o.after, e.on ∉ X) →
    Rel C.N B w0 V0 st V ρ a w → Inv L n0 ρ0 VR clean st ρ V → Held L ρ0 VR w → Early C ops w0 E st ρ V a w num → (∀ d ∈ dstX ops X, getA st.fr d = none) → sem C.P R (execA C ops L X n clean listed st hh k) v V ρ S →
    (∀ st' V' ρ' a' w' v' h', Rel C.N B w0 V0 st' V' ρ' a' w' → Mv (ops.toList.filterMap (·.dst)) st ρ a V st' ρ' a' V' → sem C.P R (k st' h') v' V' ρ' S → Q .normal a' w') → wpAnyH C.P .any ops Q (Held L ρ0 VR) m (markA E listed) a w := by
  intro m
  induction m with
  | zero =>
    intro n clean listed E rem st V ρ a w v hh num k hm hXE hER hrn hun hcl hLA h hi hl he hf hs hk
    have hn : n = 0 := by omega
    have hr : rem = [] := List.length_eq_zero_iff.1 (by omega)
    subst hn; subst hr
    unfold execA at hs
    split at hs
    · have hE : ∀ i, i ∈ X ↔ i ∈ E := fun i => by rw [hXE i]; simp
      have he' : Early C ops w0 X st ρ V a w num := ⟨fun i hi => he.1 i ((hE i).1 hi), fun i hi j hj => he.2 i ((hE i).1 hi) j ((hE j).1 hj)⟩
      obtain ⟨st', ρ', r1, r2, r3, r4⟩ := absorb hX X st ρ v (fun i hi => hi) hX.nd h hi he' hs
      rw [markA_eq (fun i => (hE i).symm)]
      exact execD_sound hC hsel hQ 0 clean _ st' V ρ' a w v hh r1 r2 hl r4 (fun st2 V2 ρ2 a2 w2 v2 h2 hr hm hs2 => hk _ _ _ _ _ _ _ hr ((r3.mono (by simp)).trans hm) hs2)
    · cases hs
  | succ m ih =>
    intro n clean listed E rem st V ρ a w v hh num k hm hXE hER hrn hun hcl hLA h hi hl he hf hs hk
    -- who may come up
    have rdy : ∀ i, i ∈ Region.ready .any ops (markA E listed) → i ∉ X → i ∉ (Region.ready .any ops listed).filter (fun i => !memB i X) → ∃ j, j ∉ X ∧ (∀ x ∈ X, x ∈ E) ∧ j = i := by
      intro i hi hiX hni
      obtain ⟨h0, o, ho, hall⟩ := mem_ready.1 hi
      obtain ⟨h0a, h0b⟩ := markA_true.1 h0
      rcases (hX.ot i o ho hiX).2 with hno | hb1
      · exfalso; apply hni
        refine List.mem_filter.2 ⟨mem_ready.2 ⟨h0b, o, ho, fun e he hb => ?_⟩, by simp [not_memB.2 hiX]⟩
        rcases markA_false (hall e he hb) with hc | hc
        · exact absurd ((hXE e.on).2 (.inl hc)) (hno e he)
        · exact hc
      · refine ⟨i, hiX, fun x hx => ?_, rfl⟩
        obtain ⟨e, he, hb, rfl⟩ := hb1 x hx
        rcases markA_false (hall e he hb) with hc | hc
        · exact hc
        · have := hun e.on hx
          simp only [Array.getD_eq_getD_getElem?] at this hc
          cases hl : listed[e.on]? with
          | none => rw [hl] at hc; simp at hc
          | some b => rw [hl] at hc this; simp at hc this; rw [hc] at this; cases this
    have rmem : ∀ i, i ∈ Region.ready .any ops (markA E listed) → i ∈ X → i ∈ rem := by
      intro i hi hiX
      rcases (hXE i).1 hiX with hc | hc
      · exact absurd hc (markA_true.1 (mem_ready.1 hi).1).1
      · exact hc
    -- one of X comes up
    have early : ∀ i, i ∈ rem → wpOp C.P ops Q i (fun a' w' => Held L ρ0 VR w' ∧ wpAnyH C.P .any ops Q (Held L ρ0 VR) m ((markA E listed).setIfInBounds i true) a' w') a w := by
      intro i hi0
      have hiX : i ∈ X := (hXE i).2 (.inr hi0)
      have hiE : i ∉ E := fun hc => hER i hc hi0
      refine alloc_real hX hiX hiE (fun j hj => (hXE j).2 (.inl hj)) h hl he hf fun a' w' num' h' hl' he' ht => ⟨hl', ?_⟩
      rw [markA_set]
      have hlen : (rem.erase i).length = rem.length - 1 := List.length_erase_of_mem hi0
      have hpos : 0 < rem.length := List.length_pos_of_mem hi0
      refine ih n clean listed (i :: E) (rem.erase i) st V ρ a' w' v hh num' (by omega) ?_ ?_ (hrn.erase i) hun hcl hLA h' hi hl' he' hf hs ?_
      · intro j
        rw [hXE j, hrn.mem_erase_iff, List.mem_cons]
        constructor
        · rintro (h | h)
          · exact .inl (.inr h)
          · by_cases e : j = i
            · exact .inl (.inl e)
            · exact .inr ⟨e, h⟩
        · rintro ((rfl | h) | h)
          · exact .inr hi0
          · exact .inl h
          · exact .inr h.2
      · intro j hj
        rw [hrn.mem_erase_iff]
        rcases List.mem_cons.1 hj with rfl | hj
        · exact fun hc => hc.1 rfl
        · exact fun hc => hER j hj hc.2
      · intro st2 V2 ρ2 a2 w2 v2 h2 hr hm hs2
        refine hk st2 V2 ρ2 a2 w2 v2 h2 hr { hm with tm := fun t ht' => ?_ } hs2
        rw [hm.tm t ht', ht t (dstX_ds hX t ht')]
    by_cases hrs : (Region.ready .any ops listed).filter (fun i => !memB i X) = []
    · -- only those of X are left
      have hs' : sem C.P R (allocsX C ops X st fun st => execD C ops L n clean (markA X listed) st hh k) v V ρ S := by
        cases n with
        | zero => unfold execA at hs; rw [hrs] at hs; exact hs
        | succ n => unfold execA at hs; rw [forceL_eq] at hs; simp only [Array.toArray_toList] at hs; rw [hrs] at hs; exact hs
      by_cases hrem : rem = []
      · subst hrem
        have hE : ∀ i, i ∈ X ↔ i ∈ E := fun i => by rw [hXE i]; simp
        have he' : Early C ops w0 X st ρ V a w num := ⟨fun i hi => he.1 i ((hE i).1 hi), fun i hi j hj => he.2 i ((hE i).1 hi) j ((hE j).1 hj)⟩
        obtain ⟨st', ρ', r1, r2, r3, r4⟩ := absorb hX X st ρ v (fun i hi => hi) hX.nd h hi he' hs'
        rw [markA_eq (fun i => (hE i).symm)]
        have : m + 1 = n := by simpa using hm
        rw [this]
        exact execD_sound hC hsel hQ n clean _ st' V ρ' a w v hh r1 r2 hl r4 (fun st2 V2 ρ2 a2 w2 v2 h2 hr hm hs2 => hk _ _ _ _ _ _ _ hr ((r3.mono (by simp)).trans hm) hs2)
      · obtain ⟨r0, hr0⟩ := List.exists_mem_of_ne_nil rem hrem
        have hr0X : r0 ∈ X := (hXE r0).2 (.inr hr0)
        have hready : r0 ∈ Region.ready .any ops (markA E listed) := by
          obtain ⟨o, T, d, z, h1, h2, h3, h4, h5, h6, h7, h8, h9⟩ := hX.al r0 hr0X
          refine mem_ready.2 ⟨markA_true.2 ⟨fun hc => hER r0 hc hr0, hun r0 hr0X⟩, o, h1, fun e he => ?_⟩
          rw [h8] at he; simp at he
        refine ⟨fun h0 => (by rw [h0] at hready; cases hready), fun i hi0 => ?_⟩
        by_cases hiX : i ∈ X
        · exact early i (rmem i hi0 hiX)
        · exfalso
          obtain ⟨_, _, hc, _⟩ := rdy i hi0 hiX (by rw [hrs]; simp)
          exact hER r0 (hc r0 hr0X) hr0
    · -- calls and the like
      cases n with
      | zero =>
        exfalso
        unfold execA at hs
        split at hs
        · rename_i h0; exact hrs h0
        · cases hs
      | succ n =>
        have hm' : m = n + rem.length := by omega
        have hs0 := hs
        unfold execA at hs
        rw [forceL_eq] at hs
        simp only [Array.toArray_toList] at hs
        generalize hrs' : (Region.ready .any ops listed).filter (fun i => !memB i X) = rs at hs hrs rdy
        have hrsm : ∀ i, i ∈ rs → i ∈ Region.ready .any ops listed ∧ i ∉ X := by
          intro i hi0
          rw [← hrs'] at hi0
          obtain ⟨q1, q2⟩ := List.mem_filter.1 hi0
          exact ⟨q1, not_memB.1 (by simpa using q2)⟩
        have hLAn : ∀ i, i ∈ rs → ∀ j o, (listed.setIfInBounds i true).getD j false = true → ops[j]? = some o → ∀ e ∈ o.after, e.on ∉ X := by
          intro i hi0 j o hj ho
          by_cases hij : i = j
          · subst hij
            obtain ⟨q1, q2⟩ := hrsm i hi0
            rcases (hX.ot i o ho q2).2 with h | h
            · exact h
            · exfalso
              obtain ⟨x, hx⟩ := List.exists_mem_of_ne_nil X hX.ne
              obtain ⟨e, he, hb, rfl⟩ := h x hx
              obtain ⟨_, o', ho', hall⟩ := mem_ready.1 q1
              rw [ho'] at ho; injection ho with ho; subst ho
              have h1 := hall e he hb
              have h2 := hun e.on hx
              simp only [Array.getD_eq_getD_getElem?] at h1 h2
              cases hl : listed[e.on]? with
              | none => rw [hl] at h1; simp at h1
              | some b => rw [hl] at h1 h2; simp at h1 h2; rw [h1] at h2; cases h2
          · rw [getD_set_ne false hij] at hj
            exact hLA j o hj ho
        have hup : ∀ i, i ∈ rs → i ∈ Region.ready .any ops (markA E listed) := by
          intro i hi0
          obtain ⟨q1, q2⟩ := hrsm i hi0
          obtain ⟨q3, o, q4, q5⟩ := mem_ready.1 q1
          exact mem_ready.2 ⟨markA_true.2 ⟨fun hc => q2 ((hXE i).2 (.inl hc)), q3⟩, o, q4, fun e he hb => markA_of (q5 e he hb)⟩
        have hfree : ∀ i, Region.free .any ops listed i = true → Region.free .any ops (markA E listed) i = true := by
          intro i hfr
          unfold Region.free at hfr ⊢
          split at hfr
          · cases hfr
          · rename_i oi hoi
            rw [List.all_eq_true] at hfr ⊢
            intro j hj
            have := hfr j hj
            simp only [Bool.or_eq_true] at this ⊢
            rcases this with (h | h) | h
            · exact .inl (.inl h)
            · refine .inl (.inr ?_)
              by_cases hc : (markA E listed).getD j true = true
              · exact hc
              · have := (markA_true.1 (by simpa using hc)).2
                rw [this] at h; cases h
            · exact .inr h
        have hnext : ∀ i, i ∉ X → ∀ x ∈ X, (listed.setIfInBounds i true).getD x true = false := by
          intro i hiX x hx
          rw [getD_set_ne true (show i ≠ x by rintro rfl; exact hiX hx)]
          exact hun x hx
        cases rs with
        | nil => exact absurd rfl hrs
        | cons r0 rs0 =>
          obtain ⟨st1, h1, hr1, hb1, hn1, hnf, hs⟩ := askAll_sound _ _ _ h hs
          have hi1 := hi.of_same hb1 hn1
          have he1 : Early C ops w0 E st1 ρ V a w num := he.tm hb1 (fun _ _ _ _ _ _ => rfl)
          have hf1 : ∀ d ∈ dstX ops X, getA st1.fr d = none := fun d hd => hnf d (hf d hd)
          have go : ∀ {st2 : St OV} {ρ2 : Nat → Nat} {a2 : Act} {V2 : VH}, Mv (ops.toList.filterMap (·.dst)) st1 ρ a V st2 ρ2 a2 V2 → (∀ st' V' ρ' a' w' v' h', Rel C.N B w0 V0 st' V' ρ' a' w' → Mv (ops.toList.filterMap (·.dst)) st2 ρ2 a2 V2 st' ρ' a' V' → sem C.P R (k st' h') v' V' ρ' S → Q .normal a' w') :=
            fun hm st' V' ρ' a' w' v' h' hr' hm' hs' => hk st' V' ρ' a' w' v' h' hr' ((hm.same0 hb1.symm hn1.symm).trans hm') hs'
          have keepE : ∀ {st2 : St OV} {a2 : Act} {i : Nat} {o : Oper} {u : Value}, ops[i]? = some o → i ∉ X → st2.bl = st1.bl → a2 = a.put o.dst u → Early C ops w0 E st2 ρ V a2 w num := by
            intro st2 a2 i o u ho hiX hb ha
            refine he1.tm hb fun j hj oj d hoj hd => ?_
            rw [ha]
            refine put_tm a o.dst u d ?_
            intro hc
            cases hod : o.dst with
            | none => rw [hod] at hc; simp at hc
            | some d' =>
              rw [hod] at hc; simp at hc; subst hc
              exact (hX.ot i o ho hiX).1 d hod (mem_dstX ((hXE j).2 (.inl hj)) hoj hd)
          have keepF : ∀ {i : Nat} {o : Oper} {u : AV OV}, ops[i]? = some o → i ∉ X → ∀ d ∈ dstX ops X, getA (st1.put o.dst u).fr d = none := by
            intro i o u ho hiX d hd
            cases hod : o.dst with
            | none => exact hf1 d hd
            | some d' =>
              show getA ((d', u) :: st1.fr) d = none
              rw [getA_cons, if_neg]
              · exact hf1 d hd
              · rintro rfl; exact (hX.ot i o ho hiX).1 d hod hd
          split at hs
          · rename_i i o reqs v1 hp
            obtain ⟨p1, p2, p3, p4, p5⟩ := (pick_spec (C := C) (ops := ops) (L := L) (clean := clean) (listed := listed) (st := st1) _).1 _ _ _ hp
            obtain ⟨hreq, hs⟩ := needs_sem hs
            obtain ⟨t1, t2⟩ := take_sound hr1 hi1 p4 hreq (fun _ _ _ _ e => by cases e) (fun _ _ _ _ e => by cases e)
            obtain ⟨p6, p7⟩ := hrsm i p1
            refine wpAnyH_take p2 hsel (hfree i p5) (by simpa using hup i p1) (fun c a w hq => (hQ _ _ _ hq).elim) (.inl ⟨gdOf_yes hr1 p3, t2⟩) hl ?_
            rw [markA_comm]
            exact ih n clean _ E rem _ V ρ _ w v h1 num hm' hXE hER hrn (hnext i p7) (hcl.set p6) (hLAn i p1) (hr1.put t1) (hi1.put _ _) hl (keepE p2 p7 (put_bl _ _ _) rfl) (keepF p2 p7) hs (go ((Mv.put _ _ _ (Mv.refl _ _ _ _ _)).mono (ops_ds p2)))
          · rename_i i o kd x reqs v1 hp
            obtain ⟨p1, p2, p3, p4, p5⟩ := (pick_spec (C := C) (ops := ops) (L := L) (clean := clean) (listed := listed) (st := st1) _).1 _ _ _ hp
            obtain ⟨hrd, hs⟩ := hs
            obtain ⟨hreq, hs⟩ := needs_sem hs
            obtain ⟨t1, t2⟩ := take_sound hr1 hi1 p4 hreq (fun _ _ _ _ e => by injection e with e1 e2 e3 e4; subst e1; subst e2; exact hrd) (fun _ _ _ _ e => by cases e)
            obtain ⟨p6, p7⟩ := hrsm i p1
            refine wpAnyH_take p2 hsel (hfree i p5) (by simpa using hup i p1) (fun c a w hq => (hQ _ _ _ hq).elim) (.inl ⟨gdOf_yes hr1 p3, t2⟩) hl ?_
            rw [markA_comm]
            exact ih n clean _ E rem _ V ρ _ w v h1 num hm' hXE hER hrn (hnext i p7) (hcl.set p6) (hLAn i p1) (hr1.put t1) (hi1.put _ _) hl (keepE p2 p7 (put_bl _ _ _) rfl) (keepF p2 p7) hs (go ((Mv.put _ _ _ (Mv.refl _ _ _ _ _)).mono (ops_ds p2)))
          · rename_i i o x ofs ks agg hp
            obtain ⟨p1, p2, p3, p4, p5⟩ := (pick_spec (C := C) (ops := ops) (L := L) (clean := clean) (listed := listed) (st := st1) _).1 _ _ _ hp
            obtain ⟨cs, hlen, hat, hs⟩ := opqK_sound hs
            split at hs
            · rename_i t1
              have t2 := take_opq hr1 hi1 p4 hlen hat
              obtain ⟨p6, p7⟩ := hrsm i p1
              refine wpAnyH_take p2 hsel (hfree i p5) (by simpa using hup i p1) (fun c a w hq => (hQ _ _ _ hq).elim) (.inl ⟨gdOf_yes hr1 p3, t2⟩) hl ?_
              rw [markA_comm]
              exact ih n clean _ E rem _ V ρ _ w v h1 num hm' hXE hER hrn (hnext i p7) (hcl.set p6) (hLAn i p1) (hr1.put t1) (hi1.put _ _) hl (keepE p2 p7 (put_bl _ _ _) rfl) (keepF p2 p7) hs (go ((Mv.put _ _ _ (Mv.refl _ _ _ _ _)).mono (ops_ds p2)))
            · cases hs
          · rename_i i o hp
            obtain ⟨p1, p2, p3, p4, p5⟩ := (pick_spec (C := C) (ops := ops) (L := L) (clean := clean) (listed := listed) (st := st1) _).2 _ _ hp
            obtain ⟨p6, p7⟩ := hrsm i p1
            refine wpAnyH_take p2 hsel (hfree i p4) (by simpa using hup i p1) (fun c a w hq => (hQ _ _ _ hq).elim) (.inr ⟨gdOf_no hr1 p3, rfl⟩) hl ?_
            rw [markA_comm]
            exact ih n clean _ E rem _ V ρ _ w v h1 num hm' hXE hER hrn (hnext i p7) (hcl.set p6) (hLAn i p1) (hr1.put p5) (hi1.put _ _) hl (keepE p2 p7 (put_bl _ _ _) rfl) (keepF p2 p7) hs (go ((Mv.put _ _ _ (Mv.refl _ _ _ _ _)).mono (ops_ds p2)))
          · rename_i hp
            have hready : r0 ∈ Region.ready .any ops (markA E listed) := hup r0 List.mem_cons_self
            refine ⟨fun h0 => (by rw [h0] at hready; cases hready), fun i hi2 => ?_⟩
            by_cases hiX : i ∈ X
            · exact early i (rmem i hi2 hiX)
            have hany : (r0 :: rs0).any (needB ops X) = true := by
              split at hs
              · cases hs
              · rename_i hb; exact hb
            rw [hany] at hs
            have hirs : i ∈ r0 :: rs0 := by
              apply Decidable.byContradiction
              intro hni
              obtain ⟨r, hr0, hneed⟩ := List.any_eq_true.1 hany
              obtain ⟨h0, o, ho, hall⟩ := mem_ready.1 hi2
              obtain ⟨q1, q2⟩ := hrsm r hr0
              have hu := (mem_ready.1 q1).1
              have fin : listed.getD r false = true → False := by
                intro hc
                simp only [Array.getD_eq_getD_getElem?] at hu hc
                cases hl : listed[r]? with
                | none => rw [hl] at hc; simp at hc
                | some b => rw [hl] at hc hu; simp at hc hu; rw [hc] at hu; cases hu
              rcases needB_spec hneed i o ho hiX with hn2 | ⟨e, he, hb, he1, oj, hoj, he2⟩ | hrch
              · apply hni
                rw [← hrs']
                refine List.mem_filter.2 ⟨mem_ready.2 ⟨(markA_true.1 h0).2, o, ho, fun e he hb => ?_⟩, by simp [not_memB.2 hiX]⟩
                rcases markA_false (hall e he hb) with hc | hc
                · exact absurd ((hXE e.on).2 (.inl hc)) (hn2 e he)
                · exact hc
              · rcases markA_false (hall e he hb) with hc | hc
                · exact he1 ((hXE e.on).2 (.inl hc))
                · exact he2 (hLA e.on oj hc hoj)
              · exact fin (reach_marked hcl hX (fun i hi => (hXE i).2 (.inl hi)) q2 6 o hall hrch)
            have hs2 := bothL_sound _ hs _ (List.mem_map.2 ⟨i, hirs, rfl⟩)
            unfold wpOp
            split at hs2
            · cases hs2
            · rename_i o ho
              simp only [ho]
              split at hs2
              · rename_i hout
                simp only [Bool.and_eq_true] at hout
                split at hs2
                · rename_i hy
                  rw [if_pos (gdOf_yes hr1 hy)]
                  refine .inl (doOp_sound hC hr1 hs2 fun st' V' ρ' a' w' v' hr' hm hs' => ?_)
                  obtain ⟨i1, i2⟩ := held_moved hr1 hr' hi1 hl hout.1 hout.2 hm
                  refine ⟨i2, ?_⟩
                  rw [markA_comm]
                  exact ih n _ _ E rem _ V' ρ' _ w' v' h1 num hm' hXE hER hrn (hnext i hiX) (hcl.set (hrsm i hirs).1) (hLAn i hirs) hr' i1 i2 (he1.step (fun j hj => (hXE j).2 (.inl hj)) hm (hX.ot i o ho hiX).1) (fun d hd => hm.nf d (fun hc => by
                    cases hod : o.dst with
                    | none => rw [hod] at hc; simp at hc
                    | some d' => rw [hod] at hc; simp at hc; subst hc; exact (hX.ot i o ho hiX).1 d hod hd) (hf1 d hd)) hs' (go (hm.mv.mono (ops_ds ho)))
                · rename_i hy
                  rw [if_neg (by simp [gdOf_no hr1 hy])]
                  split at hs2
                  · rename_i hput
                    refine ⟨hl, ?_⟩
                    rw [markA_comm]
                    exact ih n clean _ E rem _ V ρ _ w v h1 num hm' hXE hER hrn (hnext i hiX) (hcl.set (hrsm i hirs).1) (hLAn i hirs) (hr1.put hput) (hi1.put _ _) hl (keepE ho hiX (put_bl _ _ _) rfl) (keepF ho hiX) hs2 (go ((Mv.put _ _ _ (Mv.refl _ _ _ _ _)).mono (ops_ds ho)))
                  · cases hs2
                · cases hs2
              · cases hs2
theorem lateX_le (ops : Array Oper) : (lateX ops).length ≤ ops.size := by
  unfold lateX
  exact Nat.le_trans (List.length_filter_le _ _) (by simp)
theorem Early.nil {ops : Array Oper} {st : St OV} {ρ : Nat → Nat} {V : VH} {a : Act} {w : World} {num : Nat → Nat} : Early C ops w0 [] st ρ V a w num :=
  ⟨fun i hi => (by cases hi), fun i hi => (by cases hi)⟩
theorem none_listed {ops : Array Oper} {n : Nat} {X : List Nat} : ∀ j o, (Array.replicate n false).getD j false = true → ops[j]? = some o → ∀ e ∈ o.after, e.on ∉ X := by
  intro i o hi
  exfalso
  by_cases h : i < n
  · simp [h] at hi
  · simp [h] at hi
theorem Closed.init {ops : Array Oper} {n : Nat} : Closed ops (Array.replicate n false) := by
  intro i o hi
  exfalso
  by_cases h : i < n
  · simp [h] at hi
  · simp [h] at hi
end
end Go.Dx
