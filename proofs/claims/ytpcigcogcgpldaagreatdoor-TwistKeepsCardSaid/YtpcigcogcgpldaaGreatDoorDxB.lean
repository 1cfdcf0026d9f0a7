/- A text of this claim's own: Dx.OpsSound, Dx.OpsSound2. -/
import Derived.Test.YtpcigcogcgpldaaGreatDoorDxA
set_option linter.unusedVariables false
set_option linter.unusedSimpArgs false
set_option linter.unusedVariables false
set_option linter.unusedSimpArgs false
namespace Go.Dx
open Go.RowKit
section
variable {P : Program} {ρ : Nat → Nat}

theorem evL_length (ρ : Nat → Nat) (cs : List (SC OV)) : (evL ρ cs).length = cs.length := by simp [evL]
theorem litN_ev {a : AV OV} {n : Nat} (h : litN a = some n) : ∃ k, a.ev ρ = .int k (n : Int) := by
  unfold litN at h
  split at h
  · injection h with h; subst h; exact ⟨_, rfl⟩
  · cases h
theorem intA_ev {a : AV OV} {n : SI OV} (h : intA a = some n) : ∃ k, a.ev ρ = .int k n.ev := by
  unfold intA at h
  split at h
  · injection h with h; subst h; exact ⟨_, rfl⟩
  · cases h
theorem natI_ev (n : Nat) : (natI n : SI OV).ev = (n : Int) := by simp [natI, SI.ev]

/-- one store of 'fill' -/
theorem fold_splice (off : Nat) : ∀ (vs : List Value) (pre cs : List Value) (k : Nat), pre.length = off → k + vs.length ≤ cs.length →
    (vs.zipIdx k).foldl (fun (c : Array Value) (p : Value × Nat) => c.setIfInBounds (off + p.2) p.1) (pre ++ cs).toArray = (pre ++ (cs.take k ++ (vs ++ cs.drop (k + vs.length)))).toArray
  | [], pre, cs, k, _, _ => by simp
  | v :: vs, pre, cs, k, hp, h => by
    simp only [List.length_cons] at h
    simp only [List.zipIdx_cons, List.foldl_cons]
    have e : ((pre ++ cs).toArray.setIfInBounds (off + k) v) = (pre ++ cs.set k v).toArray := by
      simp only [List.setIfInBounds_toArray]
      congr 1
      rw [List.set_append, if_neg (by omega), hp, Nat.add_sub_cancel_left]
    rw [e, fold_splice off vs pre (cs.set k v) (k + 1) hp (by simp; omega)]
    congr 2
    have hk : k < cs.length := by omega
    rw [List.take_set, List.drop_set]
    rw [if_pos (by omega)]
    have h1 : (cs.take (k + 1)).set k v = cs.take k ++ [v] := by
      rw [List.take_succ_eq_append_getElem hk]
      rw [List.set_append]
      simp [Nat.min_eq_left (Nat.le_of_lt hk)]
    rw [h1]
    simp [Nat.add_assoc, Nat.add_comm 1]

theorem fold_splice' {cs vs r : List Value} {off : Nat} (h : splice cs off vs = some r) :
    (vs.zipIdx).foldl (fun (c : Array Value) (p : Value × Nat) => c.setIfInBounds (off + p.2) p.1) cs.toArray = r.toArray := by
  unfold splice at h
  split at h
  · rename_i hle
    injection h with h; subst h
    have := fold_splice off vs (cs.take off) (cs.drop off) 0 (by simp; omega) (by simp; omega)
    simp only [List.take_append_drop, Nat.zero_add, List.take_zero, List.nil_append, List.drop_drop] at this
    exact this
  · cases h

theorem splice_ev {cs vs r : List (SC OV)} {off : Nat} (h : splice cs off vs = some r) : splice (evL ρ cs) off (evL ρ vs) = some (evL ρ r) := by
  unfold splice at *
  simp only [evL_length]
  split at h
  · rename_i hle
    injection h with h; subst h
    rw [if_pos hle]
    simp [evL, List.map_take, List.map_drop]
  · cases h

theorem cells_ev {a : AV OV} {cs : List (SC OV)} (h : a.cells = some cs) (ho : a.okCells = true) : (a.ev ρ).cells = (evL ρ cs).toArray := by
  cases a with
  | one c =>
    simp only [AV.cells, Option.some.injEq] at h; subst h
    simp only [AV.okCells] at ho
    rw [AV.ev, cells_of_one (SC.ev_one ho)]; rfl
  | agg cs' => simp only [AV.cells, Option.some.injEq] at h; subst h; rfl
  | tup vs => cases h

theorem fill_ev {place : Nat → Option (Nat × Nat)} : ∀ (parts : List (Nat × AV OV)) {cells r : List (SC OV)}, fillA place cells parts = some r → (∀ p ∈ parts, p.2.okCells = true) →
    Instr.fill place (evL ρ cells).toArray (parts.map fun p => (p.1, p.2.ev ρ)) = some (evL ρ r).toArray
  | [], cells, r, h, _ => by simp only [fillA, Option.some.injEq] at h; subst h; rfl
  | (i, v) :: rest, cells, r, h, ho => by
    simp only [fillA] at h
    split at h
    · rename_i off size vs hp hv
      split at h
      · rename_i hs
        cases hsp : splice cells off vs with
        | none => simp [hsp] at h
        | some cs =>
          simp only [hsp, Option.bind_some] at h
          have hle : off + vs.length ≤ cells.length := by
            unfold splice at hsp; split at hsp
            · assumption
            · cases hsp
          have hc := cells_ev (ρ := ρ) hv (ho (i, v) (by simp))
          have ih := fill_ev rest h (fun p hp => ho p (by simp [hp]))
          simp only [List.map_cons, Instr.fill, hp, hc, List.size_toArray, evL_length]
          rw [if_neg (by simp; omega)]
          have e := fold_splice' (splice_ev (ρ := ρ) hsp)
          have e2 : ((evL ρ vs).toArray.zipIdx.foldl (fun (cs : Array Value) (x : Value × Nat) => cs.setIfInBounds (off + x.2) x.1) (evL ρ cells).toArray) = (evL ρ cs).toArray := by
            rw [← e]; simp [← Array.foldl_toList]
          rw [← ih, ← e2]
      · cases h
    · cases h

theorem run_zero {t : TypeId} {z : List (SC OV)} (h : zeroT P t = some z) (w : World) : ∃ zv, (zeroValue t).run P w = .ok zv w ∧ zv.cells = (evL ρ z).toArray := by
  unfold zeroT at h
  cases hi : P.info? t with
  | none => simp [hi] at h
  | some i =>
    simp only [hi] at h
    cases hz : i.zero with
    | none => simp [hz] at h
    | some zv =>
      simp only [hz, Option.map_some, Option.some.injEq] at h
      refine ⟨zv, by simp [zeroValue, typeInfo, hi, hz], ?_⟩
      subst h
      apply Array.ext'
      simp only [evL, List.map_map]
      have : (SC.ev ρ ∘ ofConstC) = (id : Value → Value) := funext (ofConstC_ev ρ)
      rw [this]; simp

end
end Go.Dx

set_option linter.unusedVariables false
set_option linter.unusedSimpArgs false
namespace Go.Dx
open Go.RowKit
section
variable {P : Program} {ρ : Nat → Nat}

theorem andThen_ok {α β : Type} (a : α) (w : World) (f : α → World → Result β) : (Result.ok a w).andThen f = f a w := rfl

theorem run_mapM_places (fs : List Field) (h : fs.all (fun f => (szT P f.type).isSome) = true) (w : World) :
    (fs.mapM (m := Sem) (fun f => do pure (f.offset, ← sizeOf f.type))).run P w = .ok (fs.map fun f => (f.offset, (szT P f.type).getD 0)) w := by
  induction fs with
  | nil => rfl
  | cons f fs ih =>
    simp only [List.all_cons, Bool.and_eq_true] at h
    obtain ⟨n, hn⟩ := Option.isSome_iff_exists.1 h.1
    simp only [List.mapM_cons, Sem.run_bind, run_size hn, Result.andThen_ok, Sem.run_pure, ih h.2, hn, List.map_cons, Option.getD_some]

theorem build_sound {t : TypeId} {parts : List (Nat × AV OV)} {z cs : List (SC OV)} {pl : Nat → Option (Nat × Nat)} (hs : structSizes P t = true) (hz : (zeroT P t : Option (List (SC OV))) = some z) (hp : places P t = some pl)
    (hf : fillA pl z parts = some cs) (ho : ∀ p ∈ parts, p.2.okCells = true) (w : World) :
    (Instr.build t (parts.map fun p => (p.1, p.2.ev ρ)).toArray).run P w = .ok (.agg (evL ρ cs).toArray) w := by
  obtain ⟨zv, hzr, hzc⟩ := run_zero (ρ := ρ) hz w
  have hfl := fill_ev (ρ := ρ) parts hf ho
  unfold places at hp
  unfold structSizes at hs
  cases hu : P.underlying t with
  | none => simp [hu] at hp
  | some d =>
    unfold Instr.build
    simp only [Sem.run_bind, hzr, Result.andThen_ok, run_underlying hu]
    rw [hu] at hp hs
    cases d with
    | struct fs =>
      simp only [Option.some.injEq] at hp
      simp only at hs
      have e : (fs.mapM (m := Sem) (fun f => do pure (f.offset, ← sizeOf f.type))).run P w = .ok ((fs.toList.map fun f => (f.offset, (szT P f.type).getD 0)).toArray) w := by
        have := run_mapM_places fs.toList hs w
        rw [Array.mapM_eq_mapM_toList]
        simp only [Sem.run_map, this, Result.andThen_ok]
      have e2 : (fun i => ((fs.toList.map fun f => (f.offset, (szT P f.type).getD 0)).toArray)[i]?) = pl := by
        rw [← hp]; funext i
        simp only [List.getElem?_toArray, List.getElem?_map, Array.getElem?_toList]
        cases hi : fs[i]? with
        | none => rfl
        | some f =>
          have hm : f ∈ fs.toList := by
            have := Array.mem_of_getElem? hi
            simpa using this
          have := List.all_eq_true.1 hs f hm
          obtain ⟨n, hn⟩ := Option.isSome_iff_exists.1 this
          simp [hn]
      simp only [Sem.run_bind, e, Result.andThen_ok, e2, hzc, hfl]
      rfl
    | array n e =>
      simp only at hp
      cases he : szT P e with
      | none => simp [he] at hp
      | some s =>
        simp only [he, Option.map_some, Option.some.injEq] at hp
        simp only [Sem.run_bind, run_size he, Result.andThen_ok, hp, hzc, hfl]
        rfl
    | _ => simp at hp

theorem op2V_shl (k : IntKind) (x : Int) (n : Nat) : op2V .shl k x n = k.wrap (x * ((2 ^ min n k.bits : Nat) : Int)) := by
  simp [op2V]
theorem op2V_shr (k : IntKind) (x : Int) (n : Nat) : op2V .shr k x n = x.fdiv ((2 ^ min n k.bits : Nat) : Int) := by
  simp [op2V]
theorem shlI_ev (k : IntKind) (a b : SI OV) : (shlI k a b).ev = op2V .shl k a.ev b.ev := by
  unfold shlI
  split
  · rename_i n
    rw [SI.wrap'_ev, SI.mul'_ev]
    simp only [SI.ev]
    exact (op2V_shl k a.ev n).symm
  · exact SI.op2'_ev _ _ _ _
theorem shrI_ev (k : IntKind) (a b : SI OV) : (shrI k a b).ev = op2V .shr k a.ev b.ev := by
  unfold shrI
  split
  · rename_i n
    simp only [SI.ev]
    exact (op2V_shr k a.ev n).symm
  · exact SI.op2'_ev _ _ _ _

theorem bin_sound {op : BinOp} {a b : SC OV} {reqs : List (SB OV)} {r : SC OV} (h : binC op a b = some (reqs, r)) (hr : ∀ c ∈ reqs, c.ev = true) (t : TypeId) (x y : Operand) (w : World) :
    (do eqGuard op t x y (a.ev ρ) (b.ev ρ); binOp op t (a.ev ρ) (b.ev ρ) : Sem Value).run P w = .ok (r.ev ρ) w := by
  unfold binC at h
  split at h
  · rename_i k m k' n
    have hg : (eqGuard op t x y (SC.ev ρ (.int k m)) (SC.ev ρ (.int k' n))).run P w = .ok () w := by
      unfold eqGuard; cases op <;> rfl
    simp only [Sem.run_bind, hg, Result.andThen_ok]
    split at h
    · simp only [Option.some.injEq, Prod.mk.injEq] at h; obtain ⟨rfl, rfl⟩ := h
      have h0 := hr _ (List.mem_singleton.2 rfl)
      rw [SB.le'_ev] at h0
      have h0 : (0 : Int) ≤ n.ev := of_decide_eq_true h0
      simp only [SC.ev, binOp, Op.shift, shlI_ev]
      rw [if_neg (by omega)]; rfl
    · simp only [Option.some.injEq, Prod.mk.injEq] at h; obtain ⟨rfl, rfl⟩ := h
      have h0 := hr _ (List.mem_singleton.2 rfl)
      rw [SB.le'_ev] at h0
      have h0 : (0 : Int) ≤ n.ev := of_decide_eq_true h0
      simp only [SC.ev, binOp, Op.shift, shrI_ev]
      rw [if_neg (by omega)]; rfl
    · rename_i hn1 hn2
      split at h
      · cases h
      · rename_i hk
        have hk : k = k' := Decidable.of_not_not hk
        subst hk
        cases op <;> simp only [Option.some.injEq, Prod.mk.injEq, reduceCtorEq] at h <;> (try (obtain ⟨rfl, rfl⟩ := h))
        case quo =>
          have := hr _ (List.mem_singleton.2 rfl)
          simp only [SB.not'_ev, SB.eq'_ev, SI.ev, Bool.not_eq_true', beq_eq_false_iff_ne] at this
          simp [SC.ev, binOp, Op.intDiv, this, SI.wrap'_ev, SI.quo'_ev]
        case rem =>
          have := hr _ (List.mem_singleton.2 rfl)
          simp only [SB.not'_ev, SB.eq'_ev, SI.ev, Bool.not_eq_true', beq_eq_false_iff_ne] at this
          simp [SC.ev, binOp, Op.intDiv, this, SI.rem'_ev]
        case and => simp only [SC.ev, binOp, Op.intBits, SI.op2'_ev, op2V]; rw [if_neg (by simp)]; rfl
        case or => simp only [SC.ev, binOp, Op.intBits, SI.op2'_ev, op2V]; rw [if_neg (by simp)]; rfl
        case xor => simp only [SC.ev, binOp, Op.intBits, SI.op2'_ev, op2V]; rw [if_neg (by simp)]; rfl
        case andNot => simp only [SC.ev, binOp, Op.intBits, SI.op2'_ev, op2V]; rw [if_neg (by simp)]; rfl
        all_goals simp [SC.ev, binOp, Op.intArith, Op.intCmp, Op.intBits, SI.wrap'_ev, SI.add'_ev, SI.sub'_ev, SI.mul'_ev, SI.op2'_ev, SB.eq'_ev, SB.not'_ev, SB.lt'_ev, SB.le'_ev]
        all_goals rfl
  · rename_i s u
    have hg : (eqGuard op t x y (SC.ev ρ (.str s)) (SC.ev ρ (.str u))).run P w = .ok () w := by
      unfold eqGuard; cases op <;> rfl
    simp only [Sem.run_bind, hg, Result.andThen_ok]
    cases op <;> simp only [Option.some.injEq, Prod.mk.injEq, reduceCtorEq] at h <;> (obtain ⟨rfl, rfl⟩ := h)
    case add =>
      have := hr _ (List.mem_singleton.2 rfl)
      simp only [SB.le'_ev, SI.add'_ev, SS.len'_ev, SI.ev, decide_eq_true_eq, maxI] at this
      have hm : ¬ (((s.ev.size + u.ev.size : Nat) : Int) > IntKind.i64.max) := by
        simp [IntKind.max, IntKind.signed, IntKind.bits]; omega
      simp only [SC.ev, binOp, Op.stringOp]
      rw [if_neg hm]; simp [SS.cat'_ev]
    case eql => simp [SC.ev, binOp, Op.stringOp, SB.seq'_ev]
    case neq => simp [SC.ev, binOp, Op.stringOp, SB.seq'_ev, SB.not'_ev]
  · cases h

theorem eqFs_sound {d : Nat} {f : TypeId → AV OV → AV OV → Option (SB OV)} (hf : ∀ t x y c, f t x y = some c → ∀ w, (Op.equalIn d t (x.ev ρ) (y.ev ρ)).run P w = .ok c.ev w) {xs ys : List (SC OV)} : ∀ (fs : List Field) (c : SB OV), eqFs P f xs ys fs = some c → ∀ w, (Op.eqFields d (evL ρ xs).toArray (evL ρ ys).toArray fs).run P w = .ok c.ev w
  | [], c, h, w => by simp only [eqFs, Option.some.injEq] at h; subst h; rfl
  | fd :: fs, c, h, w => by
    simp only [eqFs] at h
    simp only [Op.eqFields]
    split at h
    · rename_i hn
      rw [if_pos hn]
      split at h
      · rename_i a b ha hb
        split at h
        · rename_i c1 r h1 h2
          injection h with h; subst h
          have ih := eqFs_sound hf fs r h2 w
          simp only [Sem.run_bind, run_part ha, run_part hb, Result.andThen_ok, hf _ _ _ _ h1, SB.and'_ev]
          cases c1.ev
          · rfl
          · simpa using ih
        · cases h
      · cases h
    · rename_i hn
      rw [if_neg hn]
      exact eqFs_sound hf fs c h w
theorem eqIs_sound {d : Nat} {e : TypeId} {cc : Nat} {f : AV OV → AV OV → Option (SB OV)} (hf : ∀ x y c, f x y = some c → ∀ w, (Op.equalIn d e (x.ev ρ) (y.ev ρ)).run P w = .ok c.ev w) {xs ys : List (SC OV)} : ∀ (is : List Nat) (c : SB OV), eqIs P f e cc xs ys is = some c → ∀ w, (Op.eqItems d e cc (evL ρ xs).toArray (evL ρ ys).toArray is).run P w = .ok c.ev w
  | [], c, h, w => by simp only [eqIs, Option.some.injEq] at h; subst h; rfl
  | i :: is, c, h, w => by
    simp only [eqIs] at h
    simp only [Op.eqItems]
    split at h
    · rename_i a b ha hb
      split at h
      · rename_i c1 r h1 h2
        injection h with h; subst h
        have ih := eqIs_sound hf is r h2 w
        simp only [Sem.run_bind, run_part ha, run_part hb, Result.andThen_ok, hf _ _ _ h1, SB.and'_ev]
        cases c1.ev
        · rfl
        · simpa using ih
      · cases h
    · cases h
theorem eqA_sound : ∀ (d : Nat) (D : Nat) (hD : d ≤ D) (t : TypeId) (x y : AV OV) (c : SB OV), eqA P d t x y = some c → ∀ w, (Op.equalIn D t (x.ev ρ) (y.ev ρ)).run P w = .ok c.ev w
  | 0, D, hD, t, x, y, c, h, w => by cases h
  | d + 1, 0, hD, t, x, y, c, h, w => by omega
  | d + 1, D + 1, hD, t, x, y, c, h, w => by
    simp only [eqA] at h
    split at h
    · rename_i a b hu
      injection h with h; subst h
      simp only [AV.ev, SC.ev, SB.beq'_ev]
      exact run_equalIn_bool' w D t _ _ hu
    · rename_i k a k' b hu
      split at h
      · rename_i hk; subst hk
        injection h with h; subst h
        simp only [AV.ev, SC.ev, SB.eq'_ev]
        exact run_equalIn_int w D t _ _ _ _ hu
      · cases h
    · rename_i a b hu
      injection h with h; subst h
      simp only [AV.ev, SC.ev, SB.seq'_ev]
      exact run_equalIn_string w D t _ _ hu
    · rename_i fs xs ys hu
      split at h
      · cases h
      · rename_i hs
        have hu' : P.underlying t = some (.struct (P.fieldsOf t)) := by simp [Program.fieldsOf, hu]
        simp only [AV.ev]
        rw [run_equalIn_struct w D t _ _ hu' (by simpa using hs)]
        exact eqFs_sound (fun t x y c h w => eqA_sound d D (by omega) t x y c h w) _ c h w
    · rename_i n e xs ys hu
      split at h
      · rename_i i hi
        simp only [AV.ev]
        rw [run_equalIn_array w D _ _ hu hi]
        exact eqIs_sound (fun x y c h w => eqA_sound d D (by omega) e x y c h w) _ c h w
      · cases h
    · cases h
theorem binT_sound {op : BinOp} {t : TypeId} {a b r : AV OV} {reqs : List (SB OV)} (h : binT P op t a b = some (reqs, r)) (hr : ∀ c ∈ reqs, c.ev = true) (x y : Operand) (w : World) :
    (do eqGuard op t x y (a.ev ρ) (b.ev ρ); binOp op t (a.ev ρ) (b.ev ρ) : Sem Value).run P w = .ok (r.ev ρ) w := by
  unfold binT at h
  split at h
  · rename_i r' hb
    injection h with h; subst h
    unfold binA at hb
    split at hb
    · rename_i ca cb
      simp only [Option.map_eq_some_iff, Prod.mk.injEq] at hb
      obtain ⟨⟨rq, rc⟩, hb, rfl, rfl⟩ := hb
      exact bin_sound hb hr t x y w
    · cases hb
  · have key : ∀ c, eqTop P t a b = some c → (∀ op, (eqGuard op t x y (a.ev ρ) (b.ev ρ)).run P w = .ok () w) ∧ (binOp .eql t (a.ev ρ) (b.ev ρ)).run P w = .ok (.bool c.ev) w ∧ (binOp .neq t (a.ev ρ) (b.ev ρ)).run P w = .ok (.bool (!c.ev)) w := by
      intro c hc
      unfold eqTop at hc
      split at hc
      · rename_i p q
        have := eqA_sound (ρ := ρ) 6 10000 (by omega) t _ _ c hc w
        refine ⟨fun op => by cases op <;> rfl, ?_, ?_⟩
        · simp only [AV.ev, SC.ev, binOp, Sem.run_bind, Op.equal, Op.maxDepth] at this ⊢
          rw [this]; rfl
        · simp only [AV.ev, SC.ev, binOp, Sem.run_bind, Op.equal, Op.maxDepth] at this ⊢
          rw [this]; rfl
      · rename_i xs ys
        split at hc
        · cases hc
        · rename_i hg
          have := eqA_sound (ρ := ρ) 6 10000 (by omega) t _ _ c hc w
          simp only [AV.ev] at this ⊢
          refine ⟨fun op => run_eqGuard_agg w op t x y _ _ (by simpa using hg), ?_, ?_⟩
          · rw [run_eql_struct, this]; rfl
          · rw [run_neq_struct, this]; rfl
      · cases hc
    cases op <;> simp only [Option.map_eq_some_iff, Prod.mk.injEq, reduceCtorEq] at h
    · obtain ⟨c, hc, rfl, rfl⟩ := h
      obtain ⟨k1, k2, _⟩ := key c hc
      rw [Sem.run_bind, k1, Result.andThen_ok, k2]; rfl
    · obtain ⟨c, hc, rfl, rfl⟩ := h
      obtain ⟨k1, _, k3⟩ := key c hc
      rw [Sem.run_bind, k1, Result.andThen_ok, k3]
      simp only [AV.ev, SC.ev, SB.not'_ev]

theorem optI_some {o : Option (AV OV)} {d n : SI OV} (h : optI o d = some n) : (o = none ∧ n = d) ∨ (∃ a k, o = some a ∧ a.ev ρ = .int k n.ev) := by
  unfold optI at h
  split at h
  · injection h with h; exact .inl ⟨rfl, h.symm⟩
  · rename_i a
    obtain ⟨k, hk⟩ := intA_ev (ρ := ρ) h
    exact .inr ⟨a, k, rfl, hk⟩

theorem run_bounds {isSlice : Bool} {len cap : Nat} {l h dl : SI OV} {lo hi : Option (AV OV)} (hl : optI lo (natI 0) = some l) (hh : optI hi dl = some h) (hdl : dl.ev = (len : Int)) (h0 : 0 ≤ l.ev) (h1 : l.ev ≤ h.ev) (h2 : h.ev ≤ (cap : Int)) (w : World) :
    (Instr.sliceBounds isSlice len cap (lo.map (AV.ev ρ)) (hi.map (AV.ev ρ)) none).run P w = .ok (l.ev.toNat, h.ev.toNat, cap) w := by
  unfold Instr.sliceBounds
  rcases optI_some (ρ := ρ) hh with ⟨rfl, rfl⟩ | ⟨a, k, rfl, ha⟩ <;> rcases optI_some (ρ := ρ) hl with ⟨rfl, rfl⟩ | ⟨a', k', rfl, ha'⟩
  · have e : h.ev.toNat = len := by rw [hdl]; simp
    rw [natI_ev, e]; rfl
  · have e : h.ev.toNat = len := by rw [hdl]; simp
    simp only [Option.map_some, Option.map_none, ha', Instr.sliceBound, asIntOf, Sem.run_bind, Sem.run_pure, Result.andThen_ok, Sem.run_ite]
    rw [if_pos (by omega), e]; rfl
  · simp only [Option.map_some, Option.map_none, ha, Instr.sliceBound, asIntOf, Sem.run_bind, Sem.run_pure, Result.andThen_ok, Sem.run_ite]
    rw [if_pos (by omega), natI_ev]; rfl
  · simp only [Option.map_some, ha, ha', Instr.sliceBound, asIntOf, Sem.run_bind, Sem.run_pure, Result.andThen_ok, Sem.run_ite]
    rw [if_pos (by omega)]
    simp only [Result.andThen_ok]
    rw [if_pos (by omega)]; rfl

theorem addr_add (b o n : Nat) : (⟨b, o, none⟩ : Addr).add n = ⟨b, o + n, none⟩ := by
  unfold Addr.add; split <;> simp_all

theorem capPtrs_ev : ∀ {l : List (AV OV)} {r : List (Nat × Nat)}, capPtrs l = some r → l.map (AV.ev ρ) = r.map (ptrV ρ)
  | [], r, h => by simp only [capPtrs, Option.some.injEq] at h; subst h; rfl
  | a :: l, r, h => by
    unfold capPtrs at h
    split at h
    · rename_i he; cases he
    · rename_i b off l' he
      injection he with h1 h2; subst h1; subst h2
      simp only [Option.map_eq_some_iff] at h
      obtain ⟨r', h', rfl⟩ := h
      simp only [List.map_cons, capPtrs_ev h']
      simp [AV.ev, SC.ev, ptrV, SI.ev]
    · cases h
end
end Go.Dx
