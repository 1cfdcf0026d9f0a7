/- A text of this claim's own: Dx.Sem, Dx.Sound1, Dx.Sound2. -/
import Derived.Test.YtpcigcogcgpldaaGreatDoorDxD
import Derived.Maps.AppendAt
import Derived.Deep.Upon
set_option linter.unusedVariables false
set_option linter.unusedSimpArgs false
set_option linter.unusedVariables false
set_option linter.unusedSimpArgs false
namespace Go.Dx
open Go.RowKit

/-- The part of the heap that nobody writes any more. -/
structure VH where
  f : Nat → Option Obj
def VH.put (V : VH) (n : Nat) (o : Obj) : VH := ⟨fun k => if k = n then some o else V.f k⟩
def VH.le (V W : VH) : Prop := ∀ k o, V.f k = some o → W.f k = some o
def VH.inW (V : VH) (w : World) : Prop := ∀ k o, V.f k = some o → w.heap[k]? = some o
theorem VH.le_refl (V : VH) : V.le V := fun _ _ h => h
theorem VH.le_trans {U V W : VH} (h : U.le V) (k : V.le W) : U.le W := fun n o hn => k n o (h n o hn)
theorem VH.le_put {V : VH} {n : Nat} (h : V.f n = none) (o : Obj) : V.le (V.put n o) := by
  intro k u hk
  simp only [VH.put]
  split
  · rename_i e; subst e; rw [h] at hk; cases hk
  · exact hk
theorem VH.put_at (V : VH) (n : Nat) (o : Obj) : (V.put n o).f n = some o := by simp [VH.put]

/-- old memory is as it was, but for one block -/
structure BelowB (B : Option Nat) (n : Nat) (w w' : World) : Prop where
  os : w'.os = w.os
  tape : w'.tape = w.tape
  output : w'.output = w.output
  size : w.heap.size ≤ w'.heap.size
  block : ∀ k, k < n → B ≠ some k → w'.heap[k]? = w.heap[k]?
theorem BelowB.refl (B : Option Nat) (n : Nat) (w : World) : BelowB B n w w := ⟨rfl, rfl, rfl, Nat.le_refl _, fun _ _ _ => rfl⟩
theorem BelowB.trans {B : Option Nat} {n : Nat} {a b c : World} (h : BelowB B n a b) (k : BelowB B n b c) : BelowB B n a c :=
  ⟨k.os.trans h.os, k.tape.trans h.tape, k.output.trans h.output, Nat.le_trans h.size k.size, fun i hi hb => (k.block i hi hb).trans (h.block i hi hb)⟩
theorem BelowB.below {n : Nat} {w w' : World} (h : BelowB none n w w') : Below n w w' := ⟨h.os, h.tape, h.output, h.size, fun k hk => h.block k hk (by simp)⟩
theorem BelowB.of {B : Option Nat} {n : Nat} {w w' : World} (h : Below n w w') : BelowB B n w w' := ⟨h.os, h.tape, h.output, h.size, fun k hk _ => h.block k hk⟩

/-- A function, called where V stands: it returns, old memory is as it was, and 'K' holds of the value and of what stands then. -/
structure CSpec (P : Program) (f : Nat) (args : Array Value) (V : VH) (K : Value → VH → Prop) : Prop where
  out : ∀ w, V.inW w → Calls P f args w fun e w' => ∃ v V', e = .returned v ∧ Below w.heap.size w w' ∧ V.le V' ∧ V'.inW w' ∧
    (∀ k, V'.f k ≠ none → V.f k ≠ none ∨ w.heap.size ≤ k) ∧ K v V'
theorem CSpec.mono {P : Program} {f : Nat} {args : Array Value} {V : VH} {K K' : Value → VH → Prop} (h : CSpec P f args V K) (hk : ∀ v V', V.le V' → K v V' → K' v V') : CSpec P f args V K' :=
  ⟨fun w hw => (h.out w hw).mono fun e w' ⟨v, V', he, hb, hl, hi, hd, hq⟩ => ⟨v, V', he, hb, hl, hi, hd, hk v V' hl hq⟩⟩
/-- A function that is lent a block of numbers, number n0: it may write there, and nowhere else. -/
structure CSpecB (P : Program) (f : Nat) (args : Array Value) (V : VH) (n0 : Nat) (T : TypeId) (kd : IntKind) (L : List Int) (K : Value → VH → List Int → Prop) : Prop where
  out : ∀ w, V.inW w → V.f n0 = none → w.heap[n0]? = some (.cells (L.map (Value.int kd)).toArray T) → Calls P f args w fun e w' => ∃ v V' L', e = .returned v ∧ BelowB (some n0) w.heap.size w w' ∧ V.le V' ∧ V'.inW w' ∧
    (∀ k, V'.f k ≠ none → V.f k ≠ none ∨ w.heap.size ≤ k) ∧ w'.heap[n0]? = some (.cells (L'.map (Value.int kd)).toArray T) ∧ K v V' L'
theorem CSpecB.mono {P : Program} {f : Nat} {args : Array Value} {V : VH} {n0 : Nat} {T : TypeId} {kd : IntKind} {L : List Int} {K K' : Value → VH → List Int → Prop} (h : CSpecB P f args V n0 T kd L K) (hk : ∀ v V' L', V.le V' → K v V' L' → K' v V' L') : CSpecB P f args V n0 T kd L K' :=
  ⟨fun w hw h0 h1 => (h.out w hw h0 h1).mono fun e w' ⟨v, V', L', he, hb, hl, hi, hd, ht, hq⟩ => ⟨v, V', L', he, hb, hl, hi, hd, ht, hk v V' L' hl hq⟩⟩

/-- A function that hands back a slice over memory of its own (K2: its block and what that holds), or a slice of none (K1). -/
structure CSpecO (P : Program) (f : Nat) (args : Array Value) (V : VH) (T : TypeId) (kd : IntKind) (K1 : Value → VH → Prop) (K2 : Value → VH → Nat → List Int → Prop) : Prop where
  out : ∀ w, V.inW w → Calls P f args w fun e w' => ∃ v V', e = .returned v ∧ Below w.heap.size w w' ∧ V.le V' ∧ V'.inW w' ∧
    (∀ k, V'.f k ≠ none → V.f k ≠ none ∨ w.heap.size ≤ k) ∧ (K1 v V' ∨ ∃ n0 L, w.heap.size ≤ n0 ∧ V'.f n0 = none ∧ w'.heap[n0]? = some (.cells (L.map (Value.int kd)).toArray T) ∧ K2 v V' n0 L)
theorem CSpecO.mono {P : Program} {f : Nat} {args : Array Value} {V : VH} {T : TypeId} {kd : IntKind} {K1 K1' : Value → VH → Prop} {K2 K2' : Value → VH → Nat → List Int → Prop} (h : CSpecO P f args V T kd K1 K2) (h1 : ∀ v V', V.le V' → K1 v V' → K1' v V') (h2 : ∀ v V' n L, V.le V' → K2 v V' n L → K2' v V' n L) : CSpecO P f args V T kd K1' K2' :=
  ⟨fun w hw => (h.out w hw).mono fun e w' ⟨v, V', he, hb, hl, hi, hd, hq⟩ => ⟨v, V', he, hb, hl, hi, hd, hq.imp (h1 v V' hl) fun ⟨n0, L, q1, q2, q3, q4⟩ => ⟨n0, L, q1, q2, q3, h2 v V' n0 L hl q4⟩⟩⟩

/-- a slice of numbers stands in memory -/
def RdV (V : VH) (kd : IntKind) (x : OV) : Prop := ∃ A c, x.v = .slice A x.l.length c ∧ x.l.length ≤ c ∧
  (0 < x.l.length → ∃ b off T cells fr, A = some ⟨b, off, none⟩ ∧ V.f b = some (.cells cells T fr) ∧ ∀ j < x.l.length, cells[off + j]? = some (.int kd (x.l.getD j 0)))
theorem RdV.mono {V V' : VH} {kd : IntKind} {x : OV} (h : RdV V kd x) (hl : V.le V') : RdV V' kd x := by
  obtain ⟨A, c, h1, h2, h3⟩ := h
  refine ⟨A, c, h1, h2, fun h0 => ?_⟩
  obtain ⟨b, off, T, cells, fr, e1, e2, e3⟩ := h3 h0
  exact ⟨b, off, T, cells, fr, e1, hl _ _ e2, e3⟩

def upd (ρ : Nat → Nat) (b n : Nat) : Nat → Nat := fun i => match Nat.beq i b with | true => n | false => ρ i
theorem upd_eq (ρ : Nat → Nat) (b n i : Nat) : upd ρ b n i = if i = b then n else ρ i := by
  unfold upd
  by_cases h : i = b
  · subst h; simp
  · have : Nat.beq i b = false := by
      cases hb : Nat.beq i b with
      | true => exact absurd (Nat.eq_of_beq_eq_true hb) h
      | false => rfl
    simp [this, h]
def cutOV (x : OV) (n : Int) : OV := ⟨cutV x.v n, cutV_one _ _, x.l.take n.toNat, []⟩
def constOV (v : Value) : OV := if h : v.oneCell' = true then OV.of v h else default
def LV.ov : LV OV → OV
  | .cell (.int k n) => OV.int k n.ev
  | .cell (.bool b) => OV.bool b.ev
  | .cell (.str s) => OV.str s.ev
  | .cell (.val x) => x
  | .cell (.ext x n) => cutOV x n.ev
  | .cell (.const v) => constOV v
  | .cell _ => OV.bool false
  | .gnil => OV.gs []
  | .gs x => OV.gs x.cs
  | .lst l => OV.lst l.ev
/-- a loop that is under way: its invariant, its measure, the values at the round's begin -/
structure LF where
  I : List OV → VH → Prop
  μ : List OV → Nat
  cur : List OV

/-- a slice of a block that has just been made -/
def OV.slc (m n c : Nat) : OV := ⟨.slice (some ⟨m, 0, none⟩) n c, rfl, [], []⟩
/-- a slice over what stands: its cells -/
def SlV (V : VH) (s : Nat) (v : Value) (ys : List Value) : Prop := ∃ A n c, v = .slice A n c ∧ ys.length = n * s ∧ n ≤ c ∧ (∀ y ∈ ys, y.oneCell' = true) ∧
  (0 < n → ∃ b off T cells fr, A = some ⟨b, off, none⟩ ∧ V.f b = some (.cells cells T fr) ∧ ∀ (j : Nat) y, ys[j]? = some y → cells[off + j]? = some y)
theorem SlV.mono {V V' : VH} {s : Nat} {v : Value} {ys : List Value} (h : SlV V s v ys) (hl : V.le V') : SlV V' s v ys := by
  obtain ⟨A, n, c, h1, h2, h3, h4, h5⟩ := h
  refine ⟨A, n, c, h1, h2, h3, h4, fun h0 => ?_⟩
  obtain ⟨b, off, T, cells, fr, e1, e2, e3⟩ := h5 h0
  exact ⟨b, off, T, cells, fr, e1, hl _ _ e2, e3⟩
/-- some cells of what a slice lies over -/
def AtV (V : VH) (v : Value) (o : Nat) (vs : List Value) : Prop := ∃ b off n c T cells fr, v = .slice (some ⟨b, off, none⟩) n c ∧ V.f b = some (.cells cells T fr) ∧ ∀ (j : Nat) u, vs[j]? = some u → cells[off + o + j]? = some u
def AtG (cs : List Value) (o : Nat) (vs : List Value) : Prop := ∀ (j : Nat) u, vs[j]? = some u → cs[o + j]? = some u
/-- A function that is lent a row of cells: it may write there, and nowhere else. -/
structure CSpecG (P : Program) (f : Nat) (args : Array Value) (V : VH) (n0 : Nat) (T : TypeId) (L : List Value) (K : Value → VH → List Value → Prop) : Prop where
  out : ∀ w, V.inW w → V.f n0 = none → w.heap[n0]? = some (.cells L.toArray T) → Calls P f args w fun e w' => ∃ v V' L', e = .returned v ∧ BelowB (some n0) w.heap.size w w' ∧ V.le V' ∧ V'.inW w' ∧
    (∀ k, V'.f k ≠ none → V.f k ≠ none ∨ w.heap.size ≤ k) ∧ w'.heap[n0]? = some (.cells L'.toArray T) ∧ K v V' L'
theorem CSpecG.mono {P : Program} {f : Nat} {args : Array Value} {V : VH} {n0 : Nat} {T : TypeId} {L : List Value} {K K' : Value → VH → List Value → Prop} (h : CSpecG P f args V n0 T L K) (hk : ∀ v V' L', V.le V' → K v V' L' → K' v V' L') : CSpecG P f args V n0 T L K' :=
  ⟨fun w hw h0 h1 => (h.out w hw h0 h1).mono fun e w' ⟨v, V', L', he, hb, hl, hi, hd, ht, hq⟩ => ⟨v, V', L', he, hb, hl, hi, hd, ht, hk v V' L' hl hq⟩⟩
def GSrc.ev (ρ : Nat → Nat) : GSrc OV → List Value
  | .nil => []
  | .cells _ cs => evL ρ cs
  | .var _ x _ => x.cs
/-- the row behind an append -/
def Grown (V : VH) (s : Nat) (old : List Value) (ρ : Nat → Nat) (news : GNew OV) (K : List Value → Prop) : Prop :=
  match news with
  | .cells l => K (old ++ evL ρ l)
  | .var y => ∃ ys, SlV V s y.v ys ∧ K (old ++ ys)
/-- What a tree says. -/
def sem (P : Program) (R : Value → VH → Option (List Int) → Prop) : Tree OV → Value → VH → (Nat → Nat) → List LF → Prop
  | .call f args k, _, V, ρ, S => CSpec P f (args.map (AV.ev ρ)).toArray V fun v V' => sem P R k v V' ρ S
  | .callb f args b T kd l k, _, V, ρ, S => CSpecB P f (args.map (AV.ev ρ)).toArray V (ρ b) T kd l.ev fun v V' L => sem P R (k (OV.lst L)) v V' ρ S
  | .callo f args b T kd k own, _, V, ρ, S => CSpecO P f (args.map (AV.ev ρ)).toArray V T kd (fun v V' => sem P R k v V' ρ S) (fun v V' n L => sem P R (own (OV.lst L)) v V' (upd ρ b n) S)
  | .bx k, v, V, ρ, S => ∃ x : OV, sem P R (k x) v V ρ S
  | .bi kd k, v, V, ρ, S => ∃ n : Int, sem P R (k (OV.int kd n)) v V ρ S
  | .bb k, v, V, ρ, S => ∃ b : Bool, sem P R (k (OV.bool b)) v V ρ S
  | .bs k, v, V, ρ, S => ∃ s : ByteArray, sem P R (k (OV.str s)) v V ρ S
  | .b2 k, v, V, ρ, S => ∃ r : R2, sem P R (k r.a r.b) v V ρ S
  | .b4 k, v, V, ρ, S => ∃ r : R4, sem P R (k r.x.a r.x.b r.y.a r.y.b) v V ρ S
  | .bsl k, v, V, ρ, S => ∃ (A : Option Addr) (c : Nat) (l : List Int), sem P R (k (OV.sl A c l)) v V ρ S
  | .got a k, v, V, ρ, S => v = a.ev ρ ∧ sem P R k v V ρ S
  | .new b k, v, V, ρ, S => ∀ n : Nat, sem P R k v V (upd ρ b n) S
  | .give b T ct k, v, V, ρ, S => V.f (ρ b) = none → sem P R k v (V.put (ρ b) (.cells (ct.ev ρ).toArray T)) ρ S
  | .test c t e, v, V, ρ, S => (c.ev = true → sem P R t v V ρ S) ∧ (c.ev = false → sem P R e v V ρ S)
  | .need c b k, v, V, ρ, S => c.ev = b ∧ sem P R k v V ρ S
  | .both a b, v, V, ρ, S => sem P R a v V ρ S ∧ sem P R b v V ρ S
  | .reads kd x k, v, V, ρ, S => RdV V kd x ∧ sem P R k v V ρ S
  | .loop init body, v, V, ρ, S => ∃ (I : List OV → VH → Prop) (μ : List OV → Nat), I (init.map LV.ov) V ∧ ∀ V1, V.le V1 → sem P R body v V1 ρ (⟨I, μ, []⟩ :: S)
  | .ux k, v, V, ρ, S => ∀ x : OV, sem P R (k x) v V ρ S
  | .ui kd k, v, V, ρ, S => ∀ n : Int, sem P R (k (OV.int kd n)) v V ρ S
  | .ub k, v, V, ρ, S => ∀ b : Bool, sem P R (k (OV.bool b)) v V ρ S
  | .us k, v, V, ρ, S => ∀ s : ByteArray, sem P R (k (OV.str s)) v V ρ S
  | .ul k, v, V, ρ, S => ∀ l : List Int, sem P R (k (OV.lst l)) v V ρ S
  | .hd xs k, v, V, ρ, S => match S with
    | s :: S => s.I xs V → sem P R k v V ρ (⟨s.I, s.μ, xs⟩ :: S)
    | [] => False
  | .again vs, v, V, ρ, S => match S with
    | s :: S => s.I (vs.map LV.ov) V ∧ s.μ (vs.map LV.ov) < s.μ s.cur
    | [] => False
  | .out k, v, V, ρ, S => sem P R k v V ρ S.tail
  | .app T news n k, v, V, ρ, S => ∀ (m c : Nat) (tail : List Value), V.f m = none → sem P R (k (OV.slc m n c)) v (V.put m (.cells (evL ρ news ++ tail).toArray T)) ρ S
  | .blk b k, v, V, ρ, S => ∃ n : Nat, sem P R k v V (upd ρ b n) S
  | .has b T cs k, v, V, ρ, S => V.f (ρ b) = some (.cells (evL ρ cs).toArray T) ∧ sem P R k v V ρ S
  | .at x o cs k, v, V, ρ, S => AtV V x.v o.ev.toNat (evL ρ cs) ∧ sem P R k v V ρ S
  | .atg x o cs k, v, V, ρ, S => AtG x.cs o.ev.toNat (evL ρ cs) ∧ sem P R k v V ρ S
  | .grow b T s src news k, v, V, ρ, S => Grown V s (src.ev ρ) ρ news fun cs => ∀ (m : Nat) (tl : List Value), GOk s cs tl → sem P R (k (OV.gs cs) (OV.gs tl)) v V (upd ρ b m) S
  | .ug b s nil kn ko, v, V, ρ, S => (nil = true → sem P R (kn (OV.gs [])) v V ρ S) ∧ ∀ (m : Nat) (cs tl : List Value), GOk s cs tl → sem P R (ko (OV.gs cs) (OV.gs tl)) v V (upd ρ b m) S
  | .callg f args b T x t k, _, V, ρ, S => CSpecG P f (args.map (AV.ev ρ)).toArray V (ρ b) T (x.cs ++ t.cs) fun v V' L => ∃ cs, L = cs ++ t.cs ∧ cs.length = x.cs.length ∧ sem P R (k (OV.gs cs)) v V' ρ S
  | .ret a l, _, V, ρ, _ => R (a.ev ρ) V (l.map SL.ev)
  | .fail _, _, _, _, _ => False

section
variable {P : Program} {R : Value → VH → Option (List Int) → Prop} {v : Value} {V : VH} {ρ : Nat → Nat} {S : List LF}
theorem needs_cons {k : Tree OV} {c : SB OV} {l : List (SB OV)} : sem P R (needs (c :: l) k) v V ρ S → c.ev = true ∧ sem P R (needs l k) v V ρ S := by
  intro h
  cases c with
  | lit b =>
    cases b with
    | true => exact ⟨rfl, h⟩
    | false => exact h
  | _ => exact h
theorem needs_sem {k : Tree OV} : ∀ {reqs : List (SB OV)}, sem P R (needs reqs k) v V ρ S → (∀ c ∈ reqs, c.ev = true) ∧ sem P R k v V ρ S
  | [], h => ⟨fun c hc => (by cases hc), h⟩
  | c :: l, h => by
    obtain ⟨h1, h2⟩ := needs_cons h
    have := needs_sem (reqs := l) h2
    exact ⟨fun d hd => by
      cases hd with
      | head => exact h1
      | tail _ hd => exact this.1 d hd, this.2⟩
end

/-! ### values under another numbering -/
theorem blt_iff {a b : Nat} : Nat.blt a b = true ↔ a < b := by rw [Nat.blt_eq]
theorem blt_lt {a b : Nat} (h : Nat.blt a b = true) : a < b := blt_iff.1 h
theorem SC.ev_congr {n : Nat} {ρ ρ' : Nat → Nat} (h : ∀ b, b < n → ρ b = ρ' b) {c : SC OV} (hc : c.wf n = true) : c.ev ρ = c.ev ρ' := by
  cases c with
  | ptr b off => simp only [SC.ev]; rw [h b (blt_lt hc)]
  | slice b off len cap => simp only [SC.ev]; rw [h b (blt_lt hc)]
  | clo f caps =>
    simp only [SC.ev]
    congr 2
    apply List.map_congr_left
    intro p hp
    have := List.all_eq_true.1 hc p hp
    simp only [ptrV]; rw [h p.1 (blt_lt this)]
  | _ => rfl
theorem evL_congr {n : Nat} {ρ ρ' : Nat → Nat} (h : ∀ b, b < n → ρ b = ρ' b) {cs : List (SC OV)} (hc : cs.all (SC.wf n) = true) : evL ρ cs = evL ρ' cs :=
  List.map_congr_left fun c hcm => SC.ev_congr h (List.all_eq_true.1 hc c hcm)
theorem Ct.ev_congr {n : Nat} {ρ ρ' : Nat → Nat} (h : ∀ b, b < n → ρ b = ρ' b) {ct : Ct OV} (hc : ct.wf n = true) : ct.ev ρ = ct.ev ρ' := by
  cases ct with
  | cells cs => exact evL_congr h hc
  | arr k l => rfl
  | gr s x t => rfl
theorem AV.ev_congr {n : Nat} {ρ ρ' : Nat → Nat} (h : ∀ b, b < n → ρ b = ρ' b) {a : AV OV} (ha : a.wf n = true) : a.ev ρ = a.ev ρ' := by
  cases a with
  | one c => exact SC.ev_congr h ha
  | agg cs => simp only [AV.ev]; rw [evL_congr h ha]
  | tup vs =>
    simp only [AV.ev]
    congr 2
    apply List.map_congr_left
    intro p hp
    have hp' := List.all_eq_true.1 ha p hp
    obtain ⟨b, cs⟩ := p
    simp only at hp'
    cases b with
    | true => simp only [aggV]; rw [evL_congr h hp']
    | false =>
      match cs, hp' with
      | [], _ => rfl
      | [c], hp' => simp only [aggV]; exact SC.ev_congr h (by simpa using hp')
      | c :: d :: r, _ => rfl
theorem SC.wf_mono {n m : Nat} (h : n ≤ m) {c : SC OV} (hc : c.wf n = true) : c.wf m = true := by
  cases c with
  | ptr b off => exact blt_iff.2 (Nat.lt_of_lt_of_le (blt_lt hc) h)
  | slice b off len cap => exact blt_iff.2 (Nat.lt_of_lt_of_le (blt_lt hc) h)
  | clo f caps => exact List.all_eq_true.2 fun p hp => blt_iff.2 (Nat.lt_of_lt_of_le (blt_lt (List.all_eq_true.1 hc p hp)) h)
  | _ => rfl
theorem all_wf_mono {n m : Nat} (h : n ≤ m) {cs : List (SC OV)} (hc : cs.all (SC.wf n) = true) : cs.all (SC.wf m) = true :=
  List.all_eq_true.2 fun c hcm => SC.wf_mono h (List.all_eq_true.1 hc c hcm)
theorem Ct.wf_mono {n m : Nat} (h : n ≤ m) {ct : Ct OV} (hc : ct.wf n = true) : ct.wf m = true := by
  cases ct with
  | cells cs => exact all_wf_mono h hc
  | arr k l => rfl
  | gr s x t => rfl
theorem AV.wf_mono {n m : Nat} (h : n ≤ m) {a : AV OV} (ha : a.wf n = true) : a.wf m = true := by
  cases a with
  | one c => exact SC.wf_mono h ha
  | agg cs => exact all_wf_mono h ha
  | tup vs => exact List.all_eq_true.2 fun p hp => all_wf_mono h (List.all_eq_true.1 ha p hp)

/-! ### the relation of the machine's state and ours -/
structure Rel (N : Nat) (B : Option Nat) (w0 : World) (V0 : VH) (st : St OV) (V : VH) (ρ : Nat → Nat) (a : Act) (w : World) : Prop where
  fr : ∀ t v, getA st.fr t = some v → a.tmps.getD t undef = v.ev ρ
  sz : a.tmps.size = N
  df : a.defers = []
  wfF : ∀ t v, getA st.fr t = some v → v.wf st.nb = true
  blt : ∀ b blk, getA st.bl b = some blk → b < st.nb ∧ blk.ct.wf st.nb = true
  vw : V.inW w
  own : ∀ b blk, getA st.bl b = some blk → blk.giv = false → w.heap[ρ b]? = some (.cells (blk.ct.ev ρ).toArray blk.T) ∧ V.f (ρ b) = none ∧ (w0.heap.size ≤ ρ b ∨ B = some (ρ b))
  giv : ∀ b blk, getA st.bl b = some blk → blk.giv = true → V.f (ρ b) = some (.cells (blk.ct.ev ρ).toArray blk.T)
  inj : ∀ b b' blk blk', getA st.bl b = some blk → blk.giv = false → getA st.bl b' = some blk' → blk'.giv = false → ρ b = ρ b' → b = b'
  below : BelowB B w0.heap.size w0 w
  vdom : ∀ k, V.f k ≠ none → V0.f k ≠ none ∨ w0.heap.size ≤ k ∨ B = some k
  vle : V0.le V
section
variable {N : Nat} {B : Option Nat} {w0 : World} {V0 : VH} {st : St OV} {V : VH} {ρ : Nat → Nat} {a : Act} {w : World}

theorem Rel.eval (h : Rel N B w0 V0 st V ρ a w) (x : Operand) (hx : okO st x = true) : a.eval x = (evO st x).ev ρ := by
  cases x with
  | tmp t =>
    simp only [okO] at hx
    obtain ⟨v, hv⟩ := Option.isSome_iff_exists.1 hx
    simp only [evO, hv, Option.getD_some]
    exact h.fr t v hv
  | const v => exact (ofConst_ev ρ v).symm
  | global g => rfl
  | func f => rfl
theorem Rel.evals (h : Rel N B w0 V0 st V ρ a w) {o : Op} (ho : opsOk st o = true) : ∀ x ∈ o.operands, a.eval x = (evO st x).ev ρ := fun x hx =>
  h.eval x (List.all_eq_true.1 ho x (by simpa using hx))
theorem Rel.heapOf (h : Rel N B w0 V0 st V ρ a w) {b : Nat} {blk : Blk OV} (hb : getA st.bl b = some blk) : w.heap[ρ b]? = some (.cells (blk.ct.ev ρ).toArray blk.T) := by
  cases hg : blk.giv with
  | false => exact (h.own b blk hb hg).1
  | true => exact h.vw _ _ (h.giv b blk hb hg)
theorem Rel.put (h : Rel N B w0 V0 st V ρ a w) {d : Option Nat} {v : AV OV} (hp : putOk N st d v = true) : Rel N B w0 V0 (st.put d v) V ρ (a.put d (v.ev ρ)) w := by
  cases d with
  | none => exact h
  | some d =>
    simp only [putOk, Bool.and_eq_true] at hp
    have hd := blt_lt hp.2
    refine { h with fr := ?_, sz := ?_, df := h.df, wfF := ?_ }
    · intro t u hu
      simp only [St.put, getA_cons, Act.put] at hu ⊢
      split at hu
      · rename_i e
        injection hu with hu; subst hu; subst e
        have := h.sz
        simp [Array.getD_eq_getD_getElem?, show t < a.tmps.size by omega]
      · rename_i e
        rw [← h.fr t u hu]
        simp [Array.getD_eq_getD_getElem?, Array.getElem?_setIfInBounds_ne (show d ≠ t from fun e' => e e'.symm)]
    · simp [Act.put, h.sz]
    · intro t u hu
      simp only [St.put, getA_cons] at hu
      split at hu
      · injection hu with hu; subst hu; exact hp.1
      · exact h.wfF t u hu
/-- the world has changed, but not in what stands there -/
theorem Rel.world (h : Rel N B w0 V0 st V ρ a w) {w' : World} {V' : VH} (hb : Below w.heap.size w w') (hl : V.le V') (hi : V'.inW w') (hd : ∀ k, V'.f k ≠ none → V.f k ≠ none ∨ w.heap.size ≤ k) : Rel N B w0 V0 st V' ρ a w' := by
  have hlt : ∀ b blk, getA st.bl b = some blk → ρ b < w.heap.size := fun b blk hg => (Array.getElem?_eq_some_iff.1 (h.heapOf hg)).1
  refine { h with vw := hi, own := ?_, giv := ?_, below := ?_, vdom := ?_, vle := VH.le_trans h.vle hl }
  · intro b blk hg hgv
    obtain ⟨h1, h2, h3⟩ := h.own b blk hg hgv
    refine ⟨(hb.block _ (hlt b blk hg)).trans h1, ?_, h3⟩
    cases hv : V'.f (ρ b) with
    | none => rfl
    | some o =>
      rcases hd (ρ b) (by rw [hv]; simp) with h4 | h4
      · exact absurd h2 h4
      · have := hlt b blk hg; omega
  · intro b blk hg hgv
    exact hl _ _ (h.giv b blk hg hgv)
  · exact h.below.trans (BelowB.of (hb.mono h.below.size))
  · intro k hk
    rcases hd k hk with h1 | h1
    · exact h.vdom k h1
    · exact .inr (.inl (Nat.le_trans h.below.size h1))
end
end Go.Dx

set_option linter.unusedVariables false
set_option linter.unusedSimpArgs false
namespace Go.Dx
open Go.RowKit
section
variable {N : Nat} {w0 : World} {V0 : VH} {st : St OV} {V : VH} {ρ : Nat → Nat} {a : Act} {w : World} {P : Program}

section
variable {R : Value → VH → Option (List Int) → Prop} {S : List LF} {P : Program}
theorem binds_sound' {v : Value} {V : VH} {ρ : Nat → Nat} (n : Nat) : ∀ (l : List RK), l.length ≤ n → ∀ {k : List (SC OV) → Tree OV}, sem P R (binds l k) v V ρ S → ∃ cs : List (SC OV), sem P R (k cs) v V ρ S := by
  induction n with
  | zero =>
    intro l hl k h
    have : l = [] := List.eq_nil_of_length_eq_zero (by omega)
    subst this; exact ⟨[], h⟩
  | succ n ih =>
    intro l hl k h
    unfold binds at h
    split at h <;> first
      | exact ⟨[], h⟩
      | (obtain ⟨r, h⟩ := h; obtain ⟨cs, h⟩ := ih _ (by simp only [List.length_cons] at hl; omega) h; exact ⟨_, h⟩)
      | (obtain ⟨A, c, l, h⟩ := h; obtain ⟨cs, h⟩ := ih _ (by simp only [List.length_cons] at hl; omega) h; exact ⟨_, h⟩)
theorem binds_sound {v : Value} {V : VH} {ρ : Nat → Nat} (l : List RK) {k : List (SC OV) → Tree OV} (h : sem P R (binds l k) v V ρ S) : ∃ cs : List (SC OV), sem P R (k cs) v V ρ S :=
  binds_sound' l.length l (Nat.le_refl _) h
end
theorem loadCells_at (g off n : Nat) (t : TypeId) (cs : List Value) (hg : w.heap[g]? = some (.cells cs.toArray t)) (hle : off + n ≤ cs.length) :
    (loadCells ⟨g, off, none⟩ n).run P w = .ok ((cs.drop off).take n).toArray w := by
  have hn : ((cs.drop off).take n).length = n := by simp; omega
  have := run_loadCells_list (P := P) w ⟨g, off, none⟩ ((cs.drop off).take n) (fun j v hv => by
    rw [addr_add, cell_of_row w g (off + j) cs.toArray t _ hg]
    rw [List.getElem?_take] at hv
    split at hv
    · rw [List.getElem?_drop] at hv; simpa using hv
    · cases hv)
  rwa [hn] at this

def Ld.v : Ld OV → AV OV | .val _ v => v | .ext _ _ _ v => v | .opq .. => .tup []
def Ld.reqs : Ld OV → List (SB OV) | .val r _ => r | .ext _ _ r _ => r | .opq .. => []
theorem opqT_spec {t : TypeId} {g : Bool} {x : OV} {o : SI OV} {l : Ld OV} (h : opqT P t g x o = some l) : ∃ ks agg, l = .opq g x o ks agg ∧ isAggT P t = some agg ∧ szT P t = some ks.length ∧ (agg = true ∨ ks.length = 1) := by
  unfold opqT at h
  split at h
  · rename_i agg ks n hc hs
    split at h
    · rename_i hcond
      simp only [Bool.and_eq_true, Bool.or_eq_true] at hcond
      injection h with h
      have e1 := Nat.eq_of_beq_eq_true hcond.1
      refine ⟨ks, agg, h.symm, ?_, by rw [e1]; exact hs, ?_⟩
      · unfold compT at hc
        split at hc
        · rename_i b i hb hi
          split at hc
          · rename_i e hu
            have hf : isAggT P t = some false := by unfold isAggT; rw [hu]
            split at hc <;> (simp only [Option.some.injEq, Prod.mk.injEq] at hc; obtain ⟨rfl, _⟩ := hc; exact hf)
          · simp only [Option.map_eq_some_iff, Prod.mk.injEq] at hc
            obtain ⟨z, _, rfl, _⟩ := hc
            exact hb
        · cases hc
      · rcases hcond.2 with h2 | h2
        · exact .inl h2
        · exact .inr (by have := Nat.eq_of_beq_eq_true h2; omega)
    · cases h
  · cases h
def ReadAt (V : VH) (g : Bool) (x : OV) (o : Nat) (vs : List Value) : Prop := match g with | false => AtV V x.v o vs | true => AtG x.cs o vs
/-- reading a row's cells -/
theorem load_cells {t : TypeId} {agg : Bool} {ks : List RK} {cs : List (SC OV)} {ad : Addr} (h1 : isAggT P t = some agg) (h2 : szT P t = some ks.length) (h3 : agg = true ∨ ks.length = 1) (hl : cs.length = ks.length)
    (hc : ∀ (j : Nat) u, (evL ρ cs)[j]? = some u → w.cell? (ad.add j) = some u) : (Instr.loadAt t (.pointer (some ad))).run P w = .ok ((mkA agg cs).ev ρ) w := by
  unfold Instr.loadAt loadVar
  simp only [Instr.sureAddr, Sem.run_bind, Sem.run_pure, Result.andThen_ok]
  rw [run_isAgg h1, Result.andThen_ok]
  cases agg with
  | true =>
    have := run_loadCells_list (P := P) w ad (evL ρ cs) hc
    rw [evL_length, hl] at this
    simp only [if_true, Sem.run_bind, run_size h2, Result.andThen_ok, this, Sem.run_pure]
    cases cs with
    | nil => rfl
    | cons c l => rfl
  | false =>
    have h1' : ks.length = 1 := by simpa using h3
    rw [h1'] at hl
    match cs, hl with
    | [c], _ =>
      have := hc 0 (c.ev ρ) rfl
      rw [show ad.add 0 = ad by simp [Addr.add]] at this
      simp only [Bool.false_eq_true, if_false, run_load, this]
      rfl
theorem load_opq {bl : List (Nat × Blk OV)} (hbl : ∀ b blk, getA bl b = some blk → w.heap[ρ b]? = some (.cells (blk.ct.ev ρ).toArray blk.T)) (hw : V.inW w) {t : TypeId} {x : AV OV} {g : Bool} {y : OV} {o : SI OV} {ks : List RK} {agg : Bool} (h : loadA P bl t x = some (.opq g y o ks agg))
    {cs : List (SC OV)} (hlen : cs.length = ks.length) (hat : ReadAt V g y o.ev.toNat (evL ρ cs)) :
    (Instr.loadAt t (x.ev ρ)).run P w = .ok ((mkA agg cs).ev ρ) w := by
  unfold loadA at h
  split at h
  · rename_i b off
    split at h
    · rename_i blk hb
      have hh := hbl b blk hb
      split at h
      · exfalso
        split at h
        · split at h
          · cases hs : szT P t with
            | none => simp [hs] at h
            | some n =>
              simp only [hs, Option.bind_some] at h
              split at h <;> cases h
          · simp only [Option.map_eq_some_iff] at h
            obtain ⟨c, _, hc⟩ := h
            cases hc
          · cases h
        · cases h
      · exfalso
        split at h <;> cases h
      · rename_i s' x' t' hct
        rw [hct] at hh
        obtain ⟨ks', agg', e, q1, q2, q3⟩ := opqT_spec h
        injection e with e1 e2 e3 e4 e5
        subst e1; subst e2; subst e3; subst e4; subst e5
        simp only [AV.ev, SC.ev]
        refine load_cells q1 q2 q3 hlen fun j u hu => ?_
        rw [addr_add, cell_of_row w (ρ b) _ _ blk.T _ hh]
        have := hat j u hu
        simp only [Ct.ev, List.getElem?_toArray]
        rw [List.getElem?_append_left (List.getElem?_eq_some_iff.1 this).1]
        exact this
    · cases h
  · split at h <;> cases h
  · obtain ⟨ks', agg', e, q1, q2, q3⟩ := opqT_spec h
    injection e with e1 e2 e3 e4 e5
    subst e1; subst e2; subst e3; subst e4; subst e5
    obtain ⟨b, off, n, c, T, cells, fr, r1, r2, r3⟩ := hat
    simp only [AV.ev, SC.ev, r1, eptrV]
    refine load_cells q1 q2 q3 hlen fun j u hu => ?_
    rw [addr_add2, addr_add, cell_of_row w b _ _ T _ (hw _ _ r2)]
    have := r3 j u hu
    rwa [Nat.add_assoc] at this
  · cases h
theorem opqK_sound {P : Program} {R : Value → VH → Option (List Int) → Prop} {S : List LF} {v : Value} {g : Bool} {x : OV} {o : SI OV} {ks : List RK} {agg : Bool} {k : AV OV → Tree OV} (h : sem P R (opqK g x o ks agg k) v V ρ S) :
    ∃ cs : List (SC OV), cs.length = ks.length ∧ ReadAt V g x o.ev.toNat (evL ρ cs) ∧ sem P R (k (mkA agg cs)) v V ρ S := by
  unfold opqK at h
  obtain ⟨cs, h⟩ := binds_sound _ h
  refine ⟨cs, ?_⟩
  split at h
  · rename_i hb
    refine ⟨Nat.eq_of_beq_eq_true hb, ?_⟩
    cases g with
    | false => exact ⟨h.1, h.2⟩
    | true => exact ⟨h.1, h.2⟩
  · cases h
theorem underlying_int_agg {t : TypeId} {k : IntKind} (h : P.underlying t = some (.int k)) : isAggT P t = some false := by
  simp [isAggT, h]
/-- a load of one cell -/
theorem load_one {t : TypeId} (hagg : isAggT P t = some false) {ad : Addr} {v : Value} (hc : w.cell? ad = some v) (ho : v.oneCell' = true) : (Instr.loadAt t (.pointer (some ad))).run P w = .ok v w := by
  unfold Instr.loadAt loadVar
  simp only [Instr.sureAddr, Sem.run_bind, Sem.run_pure, Result.andThen_ok]
  rw [run_isAgg hagg, Result.andThen_ok]
  simp only [Bool.false_eq_true, if_false, run_load, hc]

/-- a load, out of blocks that stand in the world, or of a slice that came in -/
theorem load_sound {bl : List (Nat × Blk OV)} (hbl : ∀ b blk, getA bl b = some blk → w.heap[ρ b]? = some (.cells (blk.ct.ev ρ).toArray blk.T)) (hw : ∀ kd x, RdV V kd x → V.inW w) {t : TypeId} {x : AV OV} {l : Ld OV} (h : loadA P bl t x = some l) (hr : ∀ c ∈ l.reqs, c.ev = true) (hx : ∀ kd y r v, l = .ext kd y r v → RdV V kd y) (hno : ∀ g y o ks agg, l ≠ .opq g y o ks agg) :
    (Instr.loadAt t (x.ev ρ)).run P w = .ok (l.v.ev ρ) w := by
  unfold loadA at h
  split at h
  · rename_i b off
    split at h
    · rename_i blk hb
      have hh := hbl b blk hb
      split at h
      · rename_i cs hct
        rw [hct] at hh
        split at h
        · rename_i o
          have hoff : (SI.lit (Int.ofNat o) : SI OV).ev.toNat = o := by simp [SI.ev]
          split at h
          · rename_i hagg
            cases hs : szT P t with
            | none => simp [hs] at h
            | some n =>
              simp only [hs, Option.bind_some] at h
              split at h
              · rename_i hle
                injection h with h; subst h
                unfold Instr.loadAt loadVar
                simp only [AV.ev, SC.ev, hoff, Instr.sureAddr, Sem.run_bind, Sem.run_pure, Result.andThen_ok]
                rw [run_isAgg hagg, Result.andThen_ok]
                have := loadCells_at (P := P) (w := w) (ρ b) o n blk.T (evL ρ cs) hh (by rw [evL_length]; exact hle)
                simp only [if_true, Sem.run_bind, run_size hs, Result.andThen_ok, this, Sem.run_pure, AV.ev, Ld.v]
                simp [evL, List.map_take, List.map_drop]
              · cases h
          · rename_i hagg
            cases hc : cs[o]? with
            | none => simp [hc] at h
            | some c =>
              simp only [hc, Option.map_some, Option.some.injEq] at h; subst h
              unfold Instr.loadAt loadVar
              simp only [AV.ev, SC.ev, hoff, Instr.sureAddr, Sem.run_bind, Sem.run_pure, Result.andThen_ok]
              rw [run_isAgg hagg, Result.andThen_ok]
              have : w.cell? ⟨ρ b, o, none⟩ = some (c.ev ρ) := by
                rw [cell_of_row w (ρ b) o _ blk.T _ hh]; simp [Ct.ev, evL, hc]
              simp only [Bool.false_eq_true, if_false, run_load, this]
              cases c <;> rfl
          · cases h
        · cases h
      · rename_i k l0 hct
        rw [hct] at hh
        split at h
        · rename_i hagg
          injection h with h; subst h
          have c1 := ev_le' (hr (SB.le' (.lit 0) off) (by simp [Ld.reqs]))
          have c2 := ev_lt' (hr (SB.lt' off (.llen l0)) (by simp [Ld.reqs]))
          rw [lit0] at c1
          simp only [SI.ev] at c2
          have hlt : off.ev.toNat < l0.ev.length := by omega
          simp only [AV.ev, SC.ev, Ld.v, SI.ev]
          apply load_one hagg
          · rw [cell_of_row w (ρ b) _ _ blk.T _ hh]
            simp [Ct.ev, hlt]
          · rfl
        · cases h
      · obtain ⟨ks, agg, e, _⟩ := opqT_spec h
        exact absurd e (hno _ _ _ _ _)
    · cases h
  · rename_i y i
    split at h
    · rename_i k hu
      injection h with h; subst h
      have c1 := ev_le' (hr (SB.le' (.lit 0) i) (by simp [Ld.reqs]))
      have c2 := ev_lt' (hr (SB.lt' i (.llen (.var y))) (by simp [Ld.reqs]))
      rw [lit0] at c1
      simp only [SI.ev, SL.ev] at c2
      have hlt : i.ev.toNat < y.l.length := by omega
      have hrd := hx k y _ _ rfl
      have hvw := hw _ _ hrd
      obtain ⟨A, c, e1, e2, e3⟩ := hrd
      obtain ⟨b, off, T, cells, fr, q1, q2, q3⟩ := e3 (by omega)
      subst q1
      simp only [AV.ev, SC.ev, Ld.v, SI.ev, SL.ev, e1, eptrV, addr_add]
      apply load_one (underlying_int_agg hu)
      · have := hvw _ _ q2
        rw [cell_of_row w b _ _ T _ this]
        exact q3 _ hlt
      · rfl
    · cases h
  · obtain ⟨ks, agg, e, _⟩ := opqT_spec h
    exact absurd e (hno _ _ _ _ _)
  · cases h

theorem splice_eq {α : Type} {cs vs r : List α} {off : Nat} (h : splice cs off vs = some r) : off + vs.length ≤ cs.length ∧ r = cs.take off ++ (vs ++ cs.drop (off + vs.length)) := by
  unfold splice at h
  split at h
  · injection h with h; exact ⟨by assumption, h.symm⟩
  · cases h

/-- a store -/
theorem store_run {g off : Nat} {T t : TypeId} {cs vs r : List Value} (hg : w.heap[g]? = some (.cells cs.toArray T)) (hs : splice cs off vs = some r) (h1 : ∀ v ∈ vs, v.oneCell' = true) (hz : szT P t = some vs.length) {v : Value} (hv : v.cells = vs.toArray) :
    (Instr.storeAt t (.pointer (some ⟨g, off, none⟩)) v).run P w = .ok () (w.setRow g r.toArray) := by
  obtain ⟨hle, rfl⟩ := splice_eq hs
  unfold Instr.storeAt storeVar
  simp only [Instr.sureAddr, Sem.run_bind, Sem.run_pure, Result.andThen_ok, hv, run_size hz, List.size_toArray, ne_eq, not_true, if_false, Sem.run_ite]
  have := run_storeCells_at (P := P) g off T vs 0 cs.toArray w hg (by simpa using hle) h1
  simpa using this

inductive CK where | cells | arr (k : IntKind) | gr (s : Nat)
def Ct.kind {ν : Type} : Ct ν → CK | .cells _ => .cells | .arr k _ => .arr k | .gr s _ _ => .gr s
theorem set_splice {α : Type} (l : List α) (i : Nat) (x : α) (h : i < l.length) : splice l i [x] = some (l.set i x) := by
  unfold splice
  rw [if_pos (by simp; omega)]
  congr 1
  rw [List.set_eq_take_append_cons_drop, if_pos h]; rfl
/-- a store, of ours -/
theorem store_sound {bl : List (Nat × Blk OV)} {t : TypeId} {x v : AV OV} {reqs : List (SB OV)} {b : Nat} {blk : Blk OV} (h : storeA P bl t x v = some (reqs, b, blk)) (hr : ∀ c ∈ reqs, c.ev = true)
    (hh : ∀ blk0, getA bl b = some blk0 → w.heap[ρ b]? = some (.cells (blk0.ct.ev ρ).toArray blk0.T)) :
    ∃ blk0 off, getA bl b = some blk0 ∧ blk0.giv = false ∧ blk.giv = false ∧ blk.T = blk0.T ∧ blk.ct.kind = blk0.ct.kind ∧ blk.ver = blk0.ver + 1 ∧ x = .one (.ptr b off) ∧
      (Instr.storeAt t (x.ev ρ) (v.ev ρ)).run P w = .ok () (w.setRow (ρ b) (blk.ct.ev ρ).toArray) := by
  unfold storeA at h
  split at h
  · rename_i b' off vs hv
    split at h
    · rename_i blk0 n hb hsz
      split at h
      · rename_i hc
        obtain ⟨hc1, hc2, hc3, hc4⟩ := hc
        split at h
        · rename_i cs hct
          split at h
          · rename_i o
            simp only [Option.map_eq_some_iff, Prod.mk.injEq] at h
            obtain ⟨cs', hsp, rfl, rfl, rfl⟩ := h
            refine ⟨blk0, _, hb, hc1, hc1, rfl, by rw [hct]; rfl, rfl, rfl, ?_⟩
            have h1 := hh blk0 hb
            rw [hct] at h1
            have hoff : (SI.lit (Int.ofNat o) : SI OV).ev.toNat = o := by simp [SI.ev]
            simp only [AV.ev, SC.ev, hoff]
            exact store_run h1 (splice_ev hsp) (by
              intro u hu
              obtain ⟨c, hcm, rfl⟩ := List.mem_map.1 hu
              exact SC.ev_one (List.all_eq_true.1 hc3 c hcm)) (by rw [evL_length, hc2]; exact hsz) (cells_ev hv hc4)
          · cases h
        · rename_i k l hct
          split at h
          · rename_i k' m
            split at h
            · rename_i hk
              subst hk
              simp only [Option.some.injEq, Prod.mk.injEq] at h
              obtain ⟨rfl, rfl, rfl⟩ := h
              refine ⟨blk0, _, hb, hc1, hc1, rfl, by rw [hct]; rfl, rfl, rfl, ?_⟩
              have h1 := hh blk0 hb
              rw [hct] at h1
              have c1 := ev_le' (hr (SB.le' (.lit 0) off) (by simp))
              have c2 := ev_lt' (hr (SB.lt' off (.llen l)) (by simp))
              rw [lit0] at c1
              simp only [SI.ev] at c2
              have hlt : off.ev.toNat < l.ev.length := by omega
              have hvc := cells_ev (ρ := ρ) hv hc4
              simp only [AV.ev, SC.ev]
              refine store_run h1 (vs := [.int k m.ev]) (r := Ct.ev ρ (.arr k (.set l off m))) ?_ ?_ (by simpa [evL, ← hc2] using hsz) (by simpa [AV.ev, SC.ev, evL] using hvc)
              · simp only [Ct.ev, SL.ev, List.map_set]
                exact set_splice _ _ _ (by simpa using hlt)
              · intro u hu; simp only [List.mem_singleton] at hu; subst hu; rfl
            · cases h
          · cases h
        · cases h
      · cases h
    · cases h
  · cases h
end
end Go.Dx

set_option linter.unusedVariables false
set_option linter.unusedSimpArgs false
namespace Go.Dx
open Go.RowKit
section
variable {N : Nat} {B : Option Nat} {w0 : World} {V0 : VH} {st : St OV} {V : VH} {ρ : Nat → Nat} {a : Act} {w : World} {P : Program}

theorem Rel.lt (h : Rel N B w0 V0 st V ρ a w) {b : Nat} {blk : Blk OV} (hb : getA st.bl b = some blk) : ρ b < w.heap.size :=
  (Array.getElem?_eq_some_iff.1 (h.heapOf hb)).1
theorem getA_dropB {bs : List Nat} {b : Nat} : ∀ {bl : List (Nat × Blk OV)}, getA (dropB bs bl) b = if memB b bs then none else getA bl b
  | [] => by simp [dropB, getA]
  | (j, x) :: bl => by
    have ih := getA_dropB (bs := bs) (b := b) (bl := bl)
    unfold dropB at ih ⊢
    rw [List.filter_cons]
    by_cases hj : memB j bs = true
    · simp only [hj, Bool.not_true, Bool.false_eq_true, if_false]
      rw [ih, getA_cons]
      by_cases e : b = j
      · subst e; simp [hj]
      · rw [if_neg e]
    · simp only [hj, Bool.not_false, if_true]
      rw [getA_cons, getA_cons, ih]
      by_cases e : b = j
      · subst e; simp [hj]
      · rw [if_neg e, if_neg e]
theorem getA_dropB_some {bs : List Nat} {b : Nat} {bl : List (Nat × Blk OV)} {blk : Blk OV} (h : getA (dropB bs bl) b = some blk) : b ∉ bs ∧ getA bl b = some blk := by
  rw [getA_dropB] at h
  split at h
  · cases h
  · rename_i hm
    exact ⟨fun hc => hm ((memB_iff _ _).2 hc), h⟩
/-- some blocks are let go -/
theorem Rel.drop (h : Rel N B w0 V0 st V ρ a w) (bs : List Nat) : Rel N B w0 V0 { st with bl := dropB bs st.bl } V ρ a w :=
  { h with
    blt := fun b blk hb => h.blt b blk (getA_dropB_some hb).2
    own := fun b blk hb => h.own b blk (getA_dropB_some hb).2
    giv := fun b blk hb => h.giv b blk (getA_dropB_some hb).2
    inj := fun b b' blk blk' hb hg hb' hg' e => h.inj b b' blk blk' (getA_dropB_some hb).2 hg (getA_dropB_some hb').2 hg' e }
/-- the world has changed in one block, which is nobody's -/
theorem Rel.away (h : Rel N B w0 V0 st V ρ a w) {m : Nat} (hm : ∀ b blk, getA st.bl b = some blk → blk.giv = false → ρ b ≠ m) (hv : V.f m = none) (h0 : w0.heap.size ≤ m ∨ B = some m) {w' : World} (hb : BelowB (some m) w.heap.size w w') :
    Rel N B w0 V0 st V ρ a w' := by
  have hne : ∀ k, (∃ o, V.f k = some o) → k ≠ m := fun k ⟨o, ho⟩ e => by subst e; rw [hv] at ho; cases ho
  have hk : ∀ k, k ≠ m → k < w.heap.size → w'.heap[k]? = w.heap[k]? := fun k e hl => hb.block k hl (by simpa using fun e' => e e'.symm)
  refine { h with vw := ?_, own := ?_, below := ?_ }
  · intro k o hko
    have h1 := h.vw k o hko
    rw [hk k (hne k ⟨o, hko⟩) (Array.getElem?_eq_some_iff.1 h1).1]; exact h1
  · intro b blk hbl hg
    obtain ⟨h1, h2, h3⟩ := h.own b blk hbl hg
    exact ⟨by rw [hk _ (hm b blk hbl hg) (h.lt hbl)]; exact h1, h2, h3⟩
  · refine h.below.trans ⟨hb.os, hb.tape, hb.output, hb.size, fun k hkl hB => hk k ?_ (Nat.lt_of_lt_of_le hkl h.below.size)⟩
    rintro rfl
    rcases h0 with h0 | h0
    · omega
    · exact hB h0
/-- another drawing -/
theorem Rel.drew (h : Rel N B w0 V0 st V ρ a w) : Rel N B w0 V0 st V ρ a { w with drawn := w.drawn + 1 } :=
  { h with vw := h.vw, own := h.own, below := ⟨h.below.os, h.below.tape, h.below.output, h.below.size, h.below.block⟩ }

/-- one own block holds something else, in a world that differs there alone -/
theorem Rel.lend (h : Rel N B w0 V0 st V ρ a w) {b : Nat} {blk blk1 : Blk OV} (hb : getA st.bl b = some blk) (hg : blk.giv = false) (hg1 : blk1.giv = false) (hT : blk1.T = blk.T) (hcs : blk1.ct.wf st.nb = true) {w' : World} {V' : VH}
    (hbl : BelowB (some (ρ b)) w.heap.size w w') (hl : V.le V') (hi : V'.inW w') (hd : ∀ k, V'.f k ≠ none → V.f k ≠ none ∨ w.heap.size ≤ k) (hat : w'.heap[ρ b]? = some (.cells (blk1.ct.ev ρ).toArray blk.T)) :
    Rel N B w0 V0 { st with bl := (b, blk1) :: st.bl } V' ρ a w' := by
  have hh := h.own b blk hb hg
  have hlt : ∀ b blk, getA st.bl b = some blk → ρ b < w.heap.size := fun b blk hg => h.lt hg
  refine { h with wfF := h.wfF, blt := ?_, vw := hi, own := ?_, giv := ?_, inj := ?_, below := ?_, vdom := ?_, vle := VH.le_trans h.vle hl }
  · intro b' blk' hb'
    simp only [getA_cons] at hb'
    split at hb'
    · rename_i e; subst e; injection hb' with hb'; subst hb'; exact ⟨(h.blt _ _ hb).1, hcs⟩
    · exact h.blt _ _ hb'
  · intro b' blk' hb' hg'
    simp only [getA_cons] at hb'
    split at hb'
    · rename_i e; subst e; injection hb' with hb'; subst hb'
      refine ⟨by rw [hT]; exact hat, ?_, hh.2.2⟩
      cases hv : V'.f (ρ b') with
      | none => rfl
      | some o =>
        rcases hd (ρ b') (by rw [hv]; simp) with h4 | h4
        · exact absurd hh.2.1 h4
        · have := hlt _ _ hb; omega
    · rename_i e
      have h1 := h.own b' blk' hb' hg'
      have hne : ρ b ≠ ρ b' := fun e' => e (h.inj b b' blk blk' hb hg hb' hg' e').symm
      refine ⟨(hbl.block _ (hlt _ _ hb') (by simpa using hne)).trans h1.1, ?_, h1.2.2⟩
      cases hv : V'.f (ρ b') with
      | none => rfl
      | some o =>
        rcases hd (ρ b') (by rw [hv]; simp) with h4 | h4
        · exact absurd h1.2.1 h4
        · have := hlt _ _ hb'; omega
  · intro b' blk' hb' hg'
    simp only [getA_cons] at hb'
    split at hb'
    · rename_i e; subst e; injection hb' with hb'; subst hb'; simp [hg1] at hg'
    · exact hl _ _ (h.giv b' blk' hb' hg')
  · intro b1 b2 k1 k2 h1 g1 h2 g2 e
    simp only [getA_cons] at h1 h2
    split at h1 <;> split at h2
    · rename_i e1 e2; rw [e1, e2]
    · rename_i e1 e2; subst e1; exact h.inj _ _ _ _ hb hg h2 g2 e
    · rename_i e1 e2; subst e2; exact h.inj _ _ _ _ h1 g1 hb hg e
    · exact h.inj _ _ _ _ h1 g1 h2 g2 e
  · refine h.below.trans ⟨hbl.os, hbl.tape, hbl.output, hbl.size, fun k hk hB => hbl.block k (Nat.lt_of_lt_of_le hk h.below.size) ?_⟩
    intro e
    injection e with e
    subst e
    rcases hh.2.2 with h3 | h3
    · omega
    · exact hB h3
  · intro k hk
    rcases hd k hk with h1 | h1
    · exact h.vdom k h1
    · exact .inr (.inl (Nat.le_trans h.below.size h1))

theorem Rel.store (h : Rel N B w0 V0 st V ρ a w) {b : Nat} {blk blk1 : Blk OV} (hb : getA st.bl b = some blk) (hg : blk.giv = false) (hg1 : blk1.giv = false) (hT : blk1.T = blk.T) (hcs : blk1.ct.wf st.nb = true) :
    Rel N B w0 V0 { st with bl := (b, blk1) :: st.bl } V ρ a (w.setRow (ρ b) (blk1.ct.ev ρ).toArray) := by
  have hh := h.own b blk hb hg
  have hoth : ∀ k, k ≠ ρ b → (w.setRow (ρ b) (blk1.ct.ev ρ).toArray).heap[k]? = w.heap[k]? := fun k hk => setRow_other w _ k _ hk
  refine h.lend hb hg hg1 hT hcs ⟨rfl, rfl, rfl, by simp, fun k _ hk => hoth k (fun e => hk (by rw [e]))⟩ (VH.le_refl _) ?_ (fun k hk => .inl hk) (setRow_heap w _ _ _ _ _ hh.1)
  intro k o hk
  have hne : k ≠ ρ b := by intro e; subst e; rw [hh.2.1] at hk; cases hk
  rw [hoth k hne]; exact h.vw k o hk

theorem Rel.give (h : Rel N B w0 V0 st V ρ a w) {b : Nat} {blk : Blk OV} (hb : getA st.bl b = some blk) (hg : blk.giv = false) :
    Rel N B w0 V0 { st with bl := (b, { blk with giv := true }) :: st.bl } (V.put (ρ b) (.cells (blk.ct.ev ρ).toArray blk.T)) ρ a w := by
  have hh := h.own b blk hb hg
  refine { h with wfF := h.wfF, blt := ?_, vw := ?_, own := ?_, giv := ?_, inj := ?_, vdom := ?_, vle := VH.le_trans h.vle (VH.le_put hh.2.1 _) }
  · intro b' blk' hb'
    simp only [getA_cons] at hb'
    split at hb'
    · rename_i e; subst e; injection hb' with hb'; subst hb'; exact ⟨(h.blt _ _ hb).1, (h.blt _ _ hb).2⟩
    · exact h.blt _ _ hb'
  · intro k o hk
    simp only [VH.put] at hk
    split at hk
    · rename_i e; subst e; injection hk with hk; subst hk; exact hh.1
    · exact h.vw k o hk
  · intro b' blk' hb' hg'
    simp only [getA_cons] at hb'
    split at hb'
    · rename_i e; injection hb' with hb'; subst hb'; simp at hg'
    · rename_i e
      have h1 := h.own b' blk' hb' hg'
      have hne : ρ b' ≠ ρ b := fun e' => e (h.inj b' b blk' blk hb' hg' hb hg e')
      refine ⟨h1.1, ?_, h1.2.2⟩
      simp only [VH.put]; rw [if_neg hne]; exact h1.2.1
  · intro b' blk' hb' hg'
    simp only [getA_cons] at hb'
    simp only [VH.put]
    split at hb'
    · rename_i e; subst e; injection hb' with hb'; subst hb'; rw [if_pos rfl]
    · have h1 := h.giv b' blk' hb' hg'
      by_cases e : ρ b' = ρ b
      · rw [e, hh.2.1] at h1; cases h1
      · rw [if_neg e]; exact h1
  · intro b1 b2 k1 k2 h1 g1 h2 g2 e
    simp only [getA_cons] at h1 h2
    split at h1
    · injection h1 with h1; subst h1; simp at g1
    · split at h2
      · injection h2 with h2; subst h2; simp at g2
      · exact h.inj _ _ _ _ h1 g1 h2 g2 e
  · intro k hk
    simp only [VH.put] at hk
    split at hk
    · rename_i e; subst e; exact .inr hh.2.2
    · exact h.vdom k hk

theorem Rel.new (h : Rel N B w0 V0 st V ρ a w) {ct : Ct OV} {T : TypeId} {ver : Nat} (hcs : ct.wf st.nb = true) :
    Rel N B w0 V0 { st with bl := (st.nb, ⟨T, ct, false, ver⟩) :: st.bl, nb := st.nb + 1 } V (upd ρ st.nb w.heap.size) a (w.alloc (.cells (ct.ev ρ).toArray T)) := by
  have hag : ∀ b, b < st.nb → ρ b = upd ρ st.nb w.heap.size b := fun b hb => by rw [upd_eq, if_neg (by omega)]
  have hnew : upd ρ st.nb w.heap.size st.nb = w.heap.size := by rw [upd_eq, if_pos rfl]
  have hold : ∀ k, k < w.heap.size → (w.alloc (.cells (ct.ev ρ).toArray T)).heap[k]? = w.heap[k]? := fun k hk => by
    show (w.heap.push _)[k]? = _
    rw [Array.getElem?_push, if_neg (by omega)]
  have hvn : V.f w.heap.size = none := by
    cases hv : V.f w.heap.size with
    | none => rfl
    | some o => have := h.vw _ _ hv; simp at this
  refine { fr := ?_, sz := h.sz, df := h.df, wfF := ?_, blt := ?_, vw := ?_, own := ?_, giv := ?_, inj := ?_, below := ?_, vdom := h.vdom, vle := h.vle }
  · intro t v hv
    rw [h.fr t v hv]
    exact AV.ev_congr hag (h.wfF t v hv)
  · intro t v hv; exact AV.wf_mono (Nat.le_succ _) (h.wfF t v hv)
  · intro b blk hb
    simp only [getA_cons] at hb
    split at hb
    · rename_i e; subst e; injection hb with hb; subst hb
      exact ⟨Nat.lt_succ_self _, Ct.wf_mono (Nat.le_succ _) hcs⟩
    · have := h.blt b blk hb; exact ⟨Nat.lt_succ_of_lt this.1, Ct.wf_mono (Nat.le_succ _) this.2⟩
  · intro k o hk
    have hlt : k < w.heap.size := (Array.getElem?_eq_some_iff.1 (h.vw k o hk)).1
    rw [hold k hlt]; exact h.vw k o hk
  · intro b blk hb hg
    simp only [getA_cons] at hb
    split at hb
    · rename_i e; subst e; injection hb with hb; subst hb
      rw [hnew]
      refine ⟨?_, hvn, .inl h.below.size⟩
      rw [heap_alloc_new]
      simp only
      rw [Ct.ev_congr hag hcs]
    · rename_i e
      have h1 := h.own b blk hb hg
      have hbl := h.blt b blk hb
      rw [← hag b hbl.1, ← Ct.ev_congr hag hbl.2]
      exact ⟨by rw [hold _ (h.lt hb)]; exact h1.1, h1.2⟩
  · intro b blk hb hg
    simp only [getA_cons] at hb
    split at hb
    · injection hb with hb; subst hb; simp at hg
    · have hbl := h.blt b blk hb
      rw [← hag b hbl.1, ← Ct.ev_congr hag hbl.2]
      exact h.giv b blk hb hg
  · intro b1 b2 k1 k2 h1 g1 h2 g2 e
    simp only [getA_cons] at h1 h2
    split at h1 <;> split at h2
    · rename_i e1 e2; rw [e1, e2]
    · rename_i e1 e2; subst e1
      rw [hnew, ← hag b2 (h.blt _ _ h2).1] at e
      have := h.lt h2; omega
    · rename_i e1 e2; subst e2
      rw [hnew, ← hag b1 (h.blt _ _ h1).1] at e
      have := h.lt h1; omega
    · rw [← hag b1 (h.blt _ _ h1).1, ← hag b2 (h.blt _ _ h2).1] at e
      exact h.inj _ _ _ _ h1 g1 h2 g2 e
  · refine h.below.trans ⟨rfl, rfl, rfl, by show w.heap.size ≤ (w.heap.push _).size; simp, fun k hk _ => hold k (Nat.lt_of_lt_of_le hk h.below.size)⟩

/-- a block that a call has made becomes ours -/
theorem Rel.adopt (h : Rel N B w0 V0 st V ρ a w) {ct : Ct OV} {T : TypeId} {ver n0 : Nat} (hcs : ct.wf 0 = true) (hn : ∀ b blk, getA st.bl b = some blk → ρ b ≠ n0) (hat : w.heap[n0]? = some (.cells (ct.ev ρ).toArray T)) (hv : V.f n0 = none) (hge : w0.heap.size ≤ n0 ∨ B = some n0) :
    Rel N B w0 V0 { st with bl := (st.nb, ⟨T, ct, false, ver⟩) :: st.bl, nb := st.nb + 1 } V (upd ρ st.nb n0) a w := by
  have hag : ∀ b, b < st.nb → ρ b = upd ρ st.nb n0 b := fun b hb => by rw [upd_eq, if_neg (by omega)]
  have hnew : upd ρ st.nb n0 st.nb = n0 := by rw [upd_eq, if_pos rfl]
  refine { fr := ?_, sz := h.sz, df := h.df, wfF := ?_, blt := ?_, vw := h.vw, own := ?_, giv := ?_, inj := ?_, below := h.below, vdom := h.vdom, vle := h.vle }
  · intro t v hv
    rw [h.fr t v hv]
    exact AV.ev_congr hag (h.wfF t v hv)
  · intro t v hv; exact AV.wf_mono (Nat.le_succ _) (h.wfF t v hv)
  · intro b blk hb
    simp only [getA_cons] at hb
    split at hb
    · rename_i e; subst e; injection hb with hb; subst hb
      exact ⟨Nat.lt_succ_self _, Ct.wf_mono (Nat.zero_le _) hcs⟩
    · have := h.blt b blk hb; exact ⟨Nat.lt_succ_of_lt this.1, Ct.wf_mono (Nat.le_succ _) this.2⟩
  · intro b blk hb hg
    simp only [getA_cons] at hb
    split at hb
    · rename_i e; subst e; injection hb with hb; subst hb
      rw [hnew]
      refine ⟨?_, hv, hge⟩
      rw [hat]
      simp only
      rw [Ct.ev_congr (n := 0) (fun b hb => by omega) hcs]
    · rename_i e
      have h1 := h.own b blk hb hg
      have hbl := h.blt b blk hb
      rw [← hag b hbl.1, ← Ct.ev_congr hag hbl.2]
      exact h1
  · intro b blk hb hg
    simp only [getA_cons] at hb
    split at hb
    · injection hb with hb; subst hb; simp at hg
    · have hbl := h.blt b blk hb
      rw [← hag b hbl.1, ← Ct.ev_congr hag hbl.2]
      exact h.giv b blk hb hg
  · intro b1 b2 k1 k2 h1 g1 h2 g2 e
    simp only [getA_cons] at h1 h2
    split at h1 <;> split at h2
    · rename_i e1 e2; rw [e1, e2]
    · rename_i e1 e2; subst e1
      rw [hnew, ← hag b2 (h.blt _ _ h2).1] at e
      exact absurd e.symm (hn _ _ h2)
    · rename_i e1 e2; subst e2
      rw [hnew, ← hag b1 (h.blt _ _ h1).1] at e
      exact absurd e (hn _ _ h1)
    · rw [← hag b1 (h.blt _ _ h1).1, ← hag b2 (h.blt _ _ h2).1] at e
      exact h.inj _ _ _ _ h1 g1 h2 g2 e

/-- a block that stands already, and now has a number -/
theorem Rel.know (h : Rel N B w0 V0 st V ρ a w) {cs : List (SC OV)} {T : TypeId} {ver n0 : Nat} (hcs : cs.all (SC.wf 0) = true) (hat : V.f n0 = some (.cells (evL (upd ρ st.nb n0) cs).toArray T)) :
    Rel N B w0 V0 { st with bl := (st.nb, ⟨T, .cells cs, true, ver⟩) :: st.bl, nb := st.nb + 1 } V (upd ρ st.nb n0) a w := by
  have hag : ∀ b, b < st.nb → ρ b = upd ρ st.nb n0 b := fun b hb => by rw [upd_eq, if_neg (by omega)]
  have hnew : upd ρ st.nb n0 st.nb = n0 := by rw [upd_eq, if_pos rfl]
  refine { fr := ?_, sz := h.sz, df := h.df, wfF := ?_, blt := ?_, vw := h.vw, own := ?_, giv := ?_, inj := ?_, below := h.below, vdom := h.vdom, vle := h.vle }
  · intro t v hv
    rw [h.fr t v hv]
    exact AV.ev_congr hag (h.wfF t v hv)
  · intro t v hv; exact AV.wf_mono (Nat.le_succ _) (h.wfF t v hv)
  · intro b blk hb
    simp only [getA_cons] at hb
    split at hb
    · rename_i e; subst e; injection hb with hb; subst hb
      exact ⟨Nat.lt_succ_self _, all_wf_mono (Nat.zero_le _) hcs⟩
    · have := h.blt b blk hb; exact ⟨Nat.lt_succ_of_lt this.1, Ct.wf_mono (Nat.le_succ _) this.2⟩
  · intro b blk hb hg
    simp only [getA_cons] at hb
    split at hb
    · injection hb with hb; subst hb; cases hg
    · have h1 := h.own b blk hb hg
      have hbl := h.blt b blk hb
      rw [← hag b hbl.1, ← Ct.ev_congr hag hbl.2]
      exact h1
  · intro b blk hb hg
    simp only [getA_cons] at hb
    split at hb
    · rename_i e; subst e; injection hb with hb; subst hb
      rw [hnew]; exact hat
    · have hbl := h.blt b blk hb
      rw [← hag b hbl.1, ← Ct.ev_congr hag hbl.2]
      exact h.giv b blk hb hg
  · intro b1 b2 k1 k2 h1 g1 h2 g2 e
    simp only [getA_cons] at h1 h2
    split at h1
    · injection h1 with h1; subst h1; cases g1
    · split at h2
      · injection h2 with h2; subst h2; cases g2
      · rw [← hag b1 (h.blt _ _ h1).1, ← hag b2 (h.blt _ _ h2).1] at e
        exact h.inj _ _ _ _ h1 g1 h2 g2 e
theorem vnone (h : Rel N B w0 V0 st V ρ a w) : V.f w.heap.size = none := by
  cases hv : V.f w.heap.size with
  | none => rfl
  | some o => have := h.vw _ _ hv; simp at this
/-- new memory that nobody will write -/
theorem Rel.made (h : Rel N B w0 V0 st V ρ a w) (obj : Obj) : Rel N B w0 V0 st (V.put w.heap.size obj) ρ a (w.drew.alloc obj) := by
  have hold : ∀ k, k < w.heap.size → (w.drew.alloc obj).heap[k]? = w.heap[k]? := fun k hk => by
    show (w.heap.push _)[k]? = _
    rw [Array.getElem?_push, if_neg (by omega)]
  have hvn := vnone h
  have hlt : ∀ b blk, getA st.bl b = some blk → ρ b < w.heap.size := fun b blk hb => (Array.getElem?_eq_some_iff.1 (h.heapOf hb)).1
  refine { h with vw := ?_, own := ?_, giv := ?_, below := ?_, vdom := ?_, vle := VH.le_trans h.vle (VH.le_put hvn _) }
  · intro k o hk
    simp only [VH.put] at hk
    split at hk
    · rename_i e; subst e; injection hk with hk; subst hk
      show (w.heap.push _)[w.heap.size]? = _
      simp
    · have := h.vw k o hk
      rw [hold k (Array.getElem?_eq_some_iff.1 this).1]; exact this
  · intro b blk hb hg
    obtain ⟨q1, q2, q3⟩ := h.own b blk hb hg
    refine ⟨by rw [hold _ (hlt b blk hb)]; exact q1, ?_, q3⟩
    simp only [VH.put]
    rw [if_neg (by have := hlt b blk hb; omega)]; exact q2
  · intro b blk hb hg
    exact VH.le_put hvn _ _ _ (h.giv b blk hb hg)
  · refine h.below.trans ⟨rfl, rfl, rfl, ?_, fun k hk _ => hold k (Nat.lt_of_lt_of_le hk h.below.size)⟩
    show w.heap.size ≤ (w.heap.push _).size
    simp
  · intro k hk
    simp only [VH.put] at hk
    split at hk
    · rename_i e; subst e; exact .inr (.inl h.below.size)
    · exact h.vdom k hk

/-- new memory, as the machine makes it -/
theorem zrep_ev {z : List (SC OV)} (hz : z.length ≠ 0) (m : Nat) {zc : Array Value} (he : zc = (evL ρ z).toArray) : ((Array.range m).map fun i => zc[i % zc.size]!) = (evL ρ (zrep z m)).toArray := by
  subst he
  apply Array.ext'
  simp only [Array.toList_map, Array.toList_range, zrep, evL, List.map_map]
  apply List.map_congr_left
  intro i hi
  have hlt : i % z.length < z.length := Nat.mod_lt _ (by omega)
  simp [hlt]
theorem sameO_eq {x y : Operand} (h : sameO x y = true) : x = y := by
  unfold sameO at h
  split at h
  · exact congrArg _ (Nat.eq_of_beq_eq_true h)
  · cases h
set_option maxHeartbeats 1000000 in
theorem new_sound {nb : Nat} {ev : Operand → AV OV} {re : Operand → Value} {o : Oper} (hev : ∀ x ∈ o.op.operands, re x = (ev x).ev ρ) {reqs : List (SB OV)} {T : TypeId} {ct : Ct OV} {v : AV OV} (h : opNew P nb ev o.op = some (reqs, T, ct, v)) (hrq : ∀ c ∈ reqs, c.ev = true) :
    (execOp re o).run P w = .ok (.value (v.ev (upd ρ nb w.heap.size))) (w.alloc (.cells (ct.ev ρ).toArray T)) := by
  have hp : (AV.ev (upd ρ nb w.heap.size) (.one (.ptr nb (natI 0)))) = .pointer (some ⟨w.heap.size, 0, none⟩) := by
    simp [AV.ev, SC.ev, upd, natI_ev]
  have hs : ∀ l c, (AV.ev (upd ρ nb w.heap.size) (.one (.slice nb (natI 0) l c))) = .slice (some ⟨w.heap.size, 0, none⟩) l.ev.toNat c.ev.toNat := by
    intro l c; simp [AV.ev, SC.ev, upd, natI_ev]
  unfold execOp
  cases ho : o.op with
  | alloc t =>
    rw [ho] at h; simp only [opNew, Option.map_eq_some_iff, Prod.mk.injEq] at h
    obtain ⟨z, hz, rfl, rfl, rfl, rfl⟩ := h
    obtain ⟨zv, hr, hc⟩ := run_zero (ρ := ρ) hz w
    simp only [Instr.alloc, Sem.run_bind, hr, Result.andThen_ok, newVar, newRow, run_newObj, Sem.run_pure, hp, hc]
    rfl
  | box t x =>
    rw [ho] at h hev; simp only [opNew] at h
    split at h
    · rename_i hok
      simp only [Option.map_eq_some_iff, Prod.mk.injEq] at h
      obtain ⟨z, hz, rfl, rfl, rfl, rfl⟩ := h
      have hc := cells_ev (ρ := ρ) hz hok
      simp only [hev x (by simp [Op.operands]), Instr.box, newVar, newRow, Sem.run_bind, run_newObj, Result.andThen_ok, Sem.run_pure, hp, hc]
      rfl
    · cases h
  | buildSlice t n parts =>
    rw [ho] at h hev; simp only [opNew] at h
    split at h
    · rename_i e hu
      split at h
      · rename_i s z hsz hz
        split at h
        · rename_i hc
          obtain ⟨hc1, hc2, hc3, hc4⟩ := hc
          simp only [Option.map_eq_some_iff, Prod.mk.injEq] at h
          obtain ⟨cs', hf, rfl, rfl, rfl, rfl⟩ := h
          obtain ⟨zv, hr, hzc⟩ := run_zero (ρ := ρ) hz w
          have hfl := fill_ev (ρ := ρ) _ hf (by
            intro p hp'
            obtain ⟨q, hq, rfl⟩ := List.mem_map.1 hp'
            exact List.all_eq_true.1 hc4 q hq)
          have e2 : (parts.map fun (i, x) => (i, re x)).toList = ((parts.toList.map fun p => (p.1, ev p.2)).map fun p => (p.1, p.2.ev ρ)) := by
            simp only [Array.toList_map, List.map_map]
            apply List.map_congr_left
            intro p hp
            simp only [Function.comp]
            rw [hev p.2 (by simp only [Op.operands, List.mem_toArray]; exact List.mem_map.2 ⟨p, hp, rfl⟩)]
          simp only [Instr.buildSlice, Sem.run_bind, run_underlying hu, Result.andThen_ok, run_size hsz, Sem.run_ite, hr, Sem.run_pure, e2]
          rw [if_neg (by omega), if_neg (by omega)]
          have hzr := zrep_ev (ρ := ρ) hc2 (n * s) hzc
          rw [hzr, hfl]
          simp only [newRow, Sem.run_bind, run_newObj, Result.andThen_ok, Sem.run_pure, hs, natI_ev, Int.toNat_natCast]
          rfl
        · split at h
          · rename_i hc
            simp only [Bool.and_eq_true, Nat.beq_eq, Array.isEmpty_iff] at hc
            obtain ⟨rfl, rfl⟩ := hc
            simp only [Option.some.injEq, Prod.mk.injEq] at h
            obtain ⟨rfl, rfl, rfl, rfl⟩ := h
            have hf0 : Instr.fill (fun i => some (i * s, s)) ((Array.range 0).map (fun _ => (default : Value))) [] = some #[] := by
              simp [Instr.fill]
            simp [Instr.buildSlice, run_underlying hu, run_size hsz, newRow, hs, natI_ev, Ct.ev, evL]
            rw [hf0]
            simp [run_newObj, Sem.run_bind, Sem.run_pure]
          · cases h
      · cases h
    · cases h
  | makeSlice t l c =>
    rw [ho] at h hev; simp only [opNew] at h
    have hevl := hev l (by simp [Op.operands])
    have hevc := hev c (by simp [Op.operands])
    split at h
    · rename_i e hu
      split at h
      · rename_i n m i z hl hcp hi hz
        split at h
        · rename_i hc
          obtain ⟨rfl, hc1, hc2, hc3, hc4⟩ := hc
          simp only [Option.some.injEq, Prod.mk.injEq] at h
          obtain ⟨rfl, rfl, rfl, rfl⟩ := h
          obtain ⟨zv, hr, hzc⟩ := run_zero (ρ := ρ) hz w
          obtain ⟨k1, hk1⟩ := litN_ev (ρ := ρ) hl
          obtain ⟨k2, hk2⟩ := litN_ev (ρ := ρ) hcp
          have hwr : IntKind.i64.wrap (n : Int) = n := IntWalk.i64_in _ (by omega)
          have hti : (typeInfo e).run P w = .ok i w := Go.run_typeInfo (w := w) hi
          have hsz : szT P e = some i.size := by simp [szT, hi]
          have hb : ¬ ((i.bytes : Int) * (n : Int) > 2 ^ 48) := by
            have : (i.bytes : Int) * (n : Int) = ((i.bytes * n : Nat) : Int) := by simp
            rw [this]; omega
          have hzr := zrep_ev (ρ := ρ) hc3 (n * i.size) hzc
          simp only [hevl, hevc, hk1, hk2, Instr.makeSlice, Sem.run_bind, run_underlying hu, Result.andThen_ok, asInt, asIntOf, Sem.run_pure, hti, hwr]
          have hn0 : ¬ ((n : Int) < 0) := by omega
          simp only [hn0, hb, decide_false, Bool.or_false, Bool.false_or, Int.lt_irrefl, gt_iff_lt, Bool.false_eq_true, if_false, Sem.run_pure, Result.andThen_ok, run_askRoom, Sem.run_bind, run_size hsz, Int.toNat_natCast, Sem.run_ite, hr]
          rw [if_neg (by omega)]
          simp only [Result.andThen_ok, hzr, newRow, Sem.run_bind, run_newObj, Sem.run_pure, hs, natI_ev, Int.toNat_natCast]
          rfl
        · cases h
      · rename_i i k hi hz hno
        split at h
        · rename_i hc
          obtain ⟨hc1, hc2, hc3⟩ := hc
          have hlc := sameO_eq hc1
          subst hlc
          split at h
          · rename_i n hn
            simp only [Option.some.injEq, Prod.mk.injEq] at h
            obtain ⟨rfl, rfl, rfl, rfl⟩ := h
            have c1 := ev_le' (hrq (SB.le' (.lit 0) n) (by simp))
            have c2 := ev_le' (hrq (SB.le' n (.lit 1099511627776)) (by simp))
            simp only [SI.ev] at c1 c2
            obtain ⟨zv, hr, hzc⟩ := run_zero (ρ := ρ) hz w
            obtain ⟨k1, hk1⟩ := intA_ev (ρ := ρ) hn
            have hwr : IntKind.i64.wrap n.ev = n.ev := IntWalk.i64_in _ (by omega)
            have hti : (typeInfo e).run P w = .ok i w := Go.run_typeInfo (w := w) hi
            have hsz : szT P e = some i.size := by simp [szT, hi]
            have hb : ¬ ((i.bytes : Int) * n.ev > 2 ^ 48) := by
              have : (i.bytes : Int) * n.ev ≤ 16 * n.ev := Int.mul_le_mul_of_nonneg_right (by omega) c1
              omega
            have hzr := zrep_ev (ρ := ρ) (z := [.int k (.lit 0)]) (by simp) (n.ev.toNat * i.size) hzc
            have hzr2 : evL ρ (zrep [.int k (.lit 0)] (n.ev.toNat * i.size)) = Ct.ev ρ (.arr k (.rep n (.lit 0))) := by
              rw [hc2]
              simp [zrep, evL, Ct.ev, SL.ev, SI.ev, SC.ev, Nat.mod_one, Function.comp_def]
              induction n.ev.toNat with
              | zero => rfl
              | succ m ih => rw [List.range_succ, List.map_append, ih, List.replicate_succ']; simp [SC.ev, SI.ev]
            simp only [hevl, hk1, Instr.makeSlice, Sem.run_bind, run_underlying hu, Result.andThen_ok, asInt, asIntOf, Sem.run_pure, hti, hwr]
            have hn0 : ¬ (n.ev < 0) := by omega
            simp only [hn0, hb, decide_false, Bool.or_false, Bool.false_or, Int.lt_irrefl, gt_iff_lt, Bool.false_eq_true, if_false, Sem.run_pure, Result.andThen_ok, run_askRoom, Sem.run_bind, run_size hsz, Sem.run_ite, hr]
            by_cases hz0 : n.ev.toNat * i.size = 0
            · rw [if_pos hz0]
              have hl0 : Ct.ev ρ (.arr k (.rep n (.lit 0))) = [] := by rw [← hzr2, hz0]; rfl
              have hr0 : Array.range 0 = #[] := by simp
              simp only [Result.andThen_ok, hz0, hl0, hr0, Array.map_empty, newRow, Sem.run_bind, run_newObj, Sem.run_pure, hs]
              rfl
            · rw [if_neg hz0]
              simp only [Result.andThen_ok, hzr, hzr2, newRow, Sem.run_bind, run_newObj, Sem.run_pure, hs]
              rfl
          · cases h
        · cases h
      · cases h
    · cases h
  | _ => rw [ho] at h; simp [opNew] at h
/-! rows that grow -/
theorem eqT_eq {a b : Nat} (h : eqT a b = true) : a = b := Nat.eq_of_beq_eq_true h
theorem ev_eq' {a b : SI OV} (h : (SB.eq' a b).ev = true) : a.ev = b.ev := by rw [SB.eq'_ev] at h; exact eq_of_beq h
theorem growA_spec {bl : List (Nat × Blk OV)} {e : TypeId} {s b : Nat} {off n c : SI OV} {reqs : List (SB OV)} {x t : OV} (h : growA bl e s b off n c = some (reqs, x, t)) (hr : ∀ c ∈ reqs, c.ev = true) :
    ∃ ver, getA bl b = some ⟨e, .gr s x t, false, ver⟩ ∧ off.ev = 0 ∧ n.ev = glen s x.cs ∧ c.ev = gtot s x.cs t.cs ∧ GOk s x.cs t.cs := by
  unfold growA at h
  split at h
  · rename_i T s' x' t' ver hb
    split at h
    · rename_i hc
      simp only [Bool.and_eq_true] at hc
      have e1 := eqT_eq hc.1
      have e2 := eqT_eq hc.2
      subst e1; subst e2
      simp only [Option.some.injEq, Prod.mk.injEq] at h
      obtain ⟨rfl, rfl, rfl⟩ := h
      have c1 := ev_eq' (hr (SB.eq' off (.lit 0)) (by simp))
      have c2 := ev_eq' (hr (SB.eq' n (.clen s' x')) (by simp))
      have c3 := ev_eq' (hr (SB.eq' c (.ctot s' x' t')) (by simp))
      have c4 := hr (.gok s' x' t') (by simp)
      rw [lit0] at c1
      exact ⟨ver, hb, c1, c2, c3, of_decide_eq_true c4⟩
    · cases h
  · cases h
theorem gok_len {s : Nat} {cs tl : List Value} (h : GOk s cs tl) : cs.length = cs.length / s * s ∧ cs.length + tl.length = (cs.length + tl.length) / s * s ∧ cs.length / s ≤ (cs.length + tl.length) / s := by
  obtain ⟨h0, h1, h2, h3⟩ := h
  exact ⟨(Nat.div_mul_cancel h1).symm, (Nat.div_mul_cancel (Nat.dvd_add h1 h2)).symm, Nat.div_le_div_right (Nat.le_add_right _ _)⟩
theorem appSrc_sound {bl : List (Nat × Blk OV)} (hh : ∀ b blk, getA bl b = some blk → w.heap[ρ b]? = some (.cells (blk.ct.ev ρ).toArray blk.T)) {e : TypeId} {s : Nat} {x : AV OV} {reqs : List (SB OV)} {src : GSrc OV} {nI : SI OV} (h : appSrc bl e s x = some (reqs, src, nI)) (hr : ∀ c ∈ reqs, c.ev = true) :
    ∃ n : Nat, nI.ev = n ∧ w.ownsRow 0 e s (x.ev ρ) n (src.ev ρ) ∧
      ((src.blk = [] ∧ (x.ev ρ).ownBlock = none ∧ ∀ b off n c, x ≠ .one (.slice b off n c)) ∨ ∃ b off n c ct ver, x = .one (.slice b off n c) ∧ src.blk = [b] ∧ getA bl b = some ⟨e, ct, false, ver⟩ ∧ (x.ev ρ).ownBlock = some (ρ b)) := by
  unfold appSrc at h
  split at h
  · simp only [Option.some.injEq, Prod.mk.injEq] at h
    obtain ⟨rfl, rfl, rfl⟩ := h
    exact ⟨0, by simp [natI_ev], World.ownsRow_nil w 0 e s, .inl ⟨rfl, rfl, fun _ _ _ _ e => by cases e⟩⟩
  · rename_i b off n c
    split at h
    · rename_i r x' t' hg
      simp only [Option.some.injEq, Prod.mk.injEq] at h
      obtain ⟨rfl, rfl, rfl⟩ := h
      obtain ⟨ver, hb, c1, c2, c3, c4⟩ := growA_spec hg hr
      obtain ⟨g1, g2, g3⟩ := gok_len c4
      have hv : (AV.one (SC.slice b off n c)).ev ρ = .slice (some ⟨ρ b, 0, none⟩) (x'.cs.length / s) ((x'.cs.length + t'.cs.length) / s) := by
        simp only [AV.ev, SC.ev, c1, c2, c3, glen, gtot, Int.toNat_natCast, Int.toNat_zero]
      refine ⟨x'.cs.length / s, rfl, ?_, .inr ⟨b, off, n, c, _, ver, rfl, rfl, hb, by rw [hv]; rfl⟩⟩
      rw [hv]
      refine ⟨g1, .inr ⟨ρ b, _, _, rfl, Nat.zero_le _, hh b _ hb, g3, c4.2.2.2, ?_, ?_⟩⟩
      · simp only [Ct.ev, List.size_toArray, List.length_append]; exact g2
      · simp only [Ct.ev, GSrc.ev]; rw [← g1]; simp
    · split at h
      · rename_i T cs ver n0 m0 hb hgn
        split at h
        · rename_i hc
          simp only [Bool.and_eq_true] at hc
          obtain ⟨⟨⟨c1, c2⟩, c3⟩, c4⟩ := hc
          have c1 := eqT_eq c1; have c2 := eqT_eq c2; have c3 := eqT_eq c3; have c4 := Nat.le_of_ble_eq_true c4
          subst c1; subst c2
          simp only [Option.some.injEq, Prod.mk.injEq] at h
          obtain ⟨rfl, rfl, rfl⟩ := h
          have hv : (AV.one (SC.slice b (.lit 0) (.lit (.ofNat n0)) (.lit (.ofNat n0)))).ev ρ = .slice (some ⟨ρ b, 0, none⟩) n0 n0 := by
            simp [AV.ev, SC.ev, SI.ev]
          refine ⟨n0, by simp [natI_ev], ?_, .inr ⟨b, _, _, _, _, ver, rfl, rfl, hb, by rw [hv]; rfl⟩⟩
          rw [hv]
          refine ⟨by simp only [GSrc.ev, evL_length]; exact c3, .inr ⟨ρ b, _, _, rfl, Nat.zero_le _, hh b _ hb, Nat.le_refl _, by simp only [maxLen]; omega, ?_, ?_⟩⟩
          · simp only [Ct.ev, List.size_toArray, evL_length]; exact c3
          · simp only [Ct.ev, GSrc.ev]; rw [← c3]; exact List.take_of_length_le (by rw [evL_length]; exact Nat.le_refl _)
        · cases h
      · cases h
  · cases h
theorem appNew_sound {bl : List (Nat × Blk OV)} (hh : ∀ b blk, getA bl b = some blk → w.heap[ρ b]? = some (.cells (blk.ct.ev ρ).toArray blk.T)) (hw : V.inW w) {s : Nat} {x : AV OV} {reqs : List (SB OV)} {news : GNew OV} {nI : SI OV} (h : appNew bl s x = some (reqs, news, nI)) (hr : ∀ c ∈ reqs, c.ev = true) {old : List Value} {K : List Value → Prop} (hg : Grown V s old ρ news K) :
    ∃ (k : Nat) (L : List Value), nI.ev = k ∧ L.length = k * s ∧ (∀ u ∈ L, u.oneCell' = true) ∧ K (old ++ L) ∧
      ((∃ ad c, x.ev ρ = .slice (some ad) k c ∧ ∀ (j : Nat) u, L[j]? = some u → w.cell? (ad.add j) = some u) ∨ (k = 0 ∧ ∃ c, x.ev ρ = .slice none 0 c)) := by
  unfold appNew at h
  split at h
  · rename_i b o n cp
    split at h
    · rename_i T cs gv vr hb
      split at h
      · rename_i hc
        simp only [Bool.and_eq_true] at hc
        obtain ⟨⟨c1, c2⟩, c3⟩ := hc
        have c1 := blt_lt c1
        have c2 := Nat.le_of_ble_eq_true c2
        simp only [Option.some.injEq, Prod.mk.injEq] at h
        obtain ⟨rfl, rfl, rfl⟩ := h
        refine ⟨n, _, by simp [natI_ev], ?_, ?_, hg, .inl ⟨⟨ρ b, o, none⟩, cp.ev.toNat, by simp [AV.ev, SC.ev, SI.ev], fun j u hj => ?_⟩⟩
        · simp [evL]; omega
        · intro u hu
          obtain ⟨c, hcm, rfl⟩ := List.mem_map.1 hu
          exact SC.ev_one (List.all_eq_true.1 c3 c (List.mem_of_mem_drop (List.mem_of_mem_take hcm)))
        · rw [addr_add, cell_of_row w (ρ b) (o + j) _ T _ (hh b _ hb)]
          simp only [Ct.ev, evL, List.getElem?_map, List.getElem?_take, List.getElem?_drop] at hj ⊢
          split at hj
          · simpa using hj
          · simp at hj
      · cases h
    · cases h
  · rename_i y
    simp only [Option.some.injEq, Prod.mk.injEq] at h
    obtain ⟨rfl, rfl, rfl⟩ := h
    obtain ⟨ys, ⟨A, n, c, e1, e2, e3, e4, e5⟩, hk⟩ := hg
    refine ⟨n, ys, by simp [SI.ev, e1, lenV], e2, e4, hk, ?_⟩
    cases A with
    | none =>
      by_cases h0 : 0 < n
      · obtain ⟨b, off, T, cells, fr, q1, _⟩ := e5 h0; cases q1
      · have : n = 0 := by omega
        subst this
        exact .inr ⟨rfl, c, e1⟩
    | some ad =>
      refine .inl ⟨ad, c, e1, fun j u hj => ?_⟩
      have h0 : 0 < n := by
        apply Nat.pos_of_ne_zero
        rintro rfl
        have : ys = [] := List.eq_nil_of_length_eq_zero (by rw [e2]; simp)
        subst this; simp at hj
      obtain ⟨b, off, T, cells, fr, q1, q2, q3⟩ := e5 h0
      injection q1 with q1; subst q1
      rw [addr_add, cell_of_row w b _ _ T _ (hw _ _ q2)]
      exact q3 j u hj
  · cases h
/-- AN APPEND -/
theorem grow_run {st : St OV} (hh : ∀ b blk, getA st.bl b = some blk → w.heap[ρ b]? = some (.cells (blk.ct.ev ρ).toArray blk.T)) (hw : V.inW w) {t t' e ty : TypeId} {s : Nat} {x y : AV OV} {reqs : List (SB OV)} {src : GSrc OV} {news : GNew OV} (h : appA P st t t' x y = some (reqs, e, s, src, news)) (hr : ∀ c ∈ reqs, c.ev = true)
    {K : List Value → Prop} (hg : Grown V s (src.ev ρ) ρ news K) :
    t = t' ∧ ∃ (w' : World) (m : Nat) (cs tl : List Value), (Builtin.append_ #[t, t] ty #[x.ev ρ, y.ev ρ]).run P w = .ok (.slice (some ⟨m, 0, none⟩) (cs.length / s) ((cs.length + tl.length) / s)) w' ∧ K cs ∧ GOk s cs tl ∧
      w'.heap[m]? = some (.cells (cs ++ tl).toArray e) ∧ w.grownBy w' (x.ev ρ).ownBlock ∧ (m = w.heap.size ∨ (x.ev ρ).ownBlock = some m) ∧
      ((src.blk = [] ∧ (x.ev ρ).ownBlock = none ∧ ∀ b off n c, x ≠ .one (.slice b off n c)) ∨ ∃ b off n c ct ver, x = .one (.slice b off n c) ∧ src.blk = [b] ∧ getA st.bl b = some ⟨e, ct, false, ver⟩ ∧ (x.ev ρ).ownBlock = some (ρ b)) := by
  unfold appA at h
  split at h
  · rename_i e0 hu
    split at h
    · rename_i i z hi hz
      split at h
      · rename_i hc
        simp only [Bool.and_eq_true] at hc
        obtain ⟨⟨⟨c1, c2⟩, c3⟩, c4⟩ := hc
        have c1 := eqT_eq c1; have c2 := Nat.le_of_ble_eq_true c2; have c3 := blt_lt c3; have c4 := eqT_eq c4
        subst c1
        split at h
        · rename_i r1 src' n1 r2 news' n2 hs hn
          simp only [Option.some.injEq, Prod.mk.injEq] at h
          obtain ⟨rfl, rfl, rfl, rfl, rfl⟩ := h
          obtain ⟨n, en, hown, hloc⟩ := appSrc_sound hh hs (fun c hc => hr c (by simp [hc]))
          obtain ⟨k, L, ek, hL, h1, hK, hy⟩ := appNew_sound hh hw hn (fun c hc => hr c (by simp [hc])) hg
          have b0 := ev_lt' (hr (SB.lt' (.lit 0) (SI.add' n1 n2)) (by simp))
          have b1 := ev_le' (hr (SB.le' (SI.add' n1 n2) (.lit 1099511627776)) (by simp))
          rw [SI.add'_ev, en, ek] at b0 b1
          simp only [SI.ev] at b0 b1
          obtain ⟨zv, hzv, hzl⟩ : ∃ zv, i.zero = some zv ∧ zv.cells.size = i.size := by
            unfold zeroT at hz; rw [hi] at hz
            simp only [Option.map_eq_some_iff] at hz
            obtain ⟨zv, q1, q2⟩ := hz
            refine ⟨zv, q1, ?_⟩
            rw [← q2] at c4
            simpa using c4
          have fin : ∀ (v' : Value) (w' : World), (Builtin.append_ #[t, t] ty #[x.ev ρ, y.ev ρ]).run P w = .ok v' w' → w'.ownsRow 0 e0 i.size v' (n + k) (src'.ev ρ ++ L) → w.grownBy w' (x.ev ρ).ownBlock → (v'.ownBlock = (x.ev ρ).ownBlock ∨ v'.ownBlock = some w.heap.size) →
              ∃ (w' : World) (m : Nat) (cs tl : List Value), (Builtin.append_ #[t, t] ty #[x.ev ρ, y.ev ρ]).run P w = .ok (.slice (some ⟨m, 0, none⟩) (cs.length / i.size) ((cs.length + tl.length) / i.size)) w' ∧ K cs ∧ GOk i.size cs tl ∧
                w'.heap[m]? = some (.cells (cs ++ tl).toArray e0) ∧ w.grownBy w' (x.ev ρ).ownBlock ∧ (m = w.heap.size ∨ (x.ev ρ).ownBlock = some m) ∧
                ((src'.blk = [] ∧ (x.ev ρ).ownBlock = none ∧ ∀ b off n c, x ≠ .one (.slice b off n c)) ∨ ∃ b off n c ct ver, x = .one (.slice b off n c) ∧ src'.blk = [b] ∧ getA st.bl b = some ⟨e0, ct, false, ver⟩ ∧ (x.ev ρ).ownBlock = some (ρ b)) := by
            intro v' w' hrun ho2 hgb hl
            obtain ⟨ho3, ho4⟩ := ho2
            rcases ho4 with ⟨_, h0⟩ | ⟨g, cap, cur, rfl, _, hat, hnc, hcm, hcs, htk⟩
            · omega
            · have hsplit : cur.toList = (src'.ev ρ ++ L) ++ cur.toList.drop ((n + k) * i.size) := by
                rw [← htk]; exact (List.take_append_drop _ _).symm
              have hlen : (cur.toList.drop ((n + k) * i.size)).length = cap * i.size - (n + k) * i.size := by simp [hcs]
              have hmul : (n + k) * i.size ≤ cap * i.size := Nat.mul_le_mul_right _ hnc
              have e1 : (src'.ev ρ ++ L).length / i.size = n + k := by rw [ho3]; exact Nat.mul_div_cancel _ c3
              have e2 : ((src'.ev ρ ++ L).length + (cur.toList.drop ((n + k) * i.size)).length) / i.size = cap := by
                rw [ho3, hlen, show (n + k) * i.size + (cap * i.size - (n + k) * i.size) = cap * i.size by omega]
                exact Nat.mul_div_cancel _ c3
              refine ⟨w', g, src'.ev ρ ++ L, cur.toList.drop ((n + k) * i.size), by rw [e1, e2]; exact hrun, hK, ⟨c3, by rw [ho3]; exact Nat.dvd_mul_left _ _, ?_, by rw [e2]; exact hcm⟩, ?_, hgb, ?_, hloc⟩
              · rw [hlen, ← Nat.sub_mul]; exact Nat.dvd_mul_left _ _
              · rw [← hsplit, Array.toArray_toList]; exact hat
              · rcases hl with hl | hl
                · exact .inr (by rw [← hl]; rfl)
                · simp only [Value.ownBlock, Option.some.injEq] at hl; exact .inl hl
          refine ⟨rfl, ?_⟩
          rcases hy with ⟨ad, c, ey, hcell⟩ | ⟨rfl, c, ey⟩
          · have hb2 : (n + k) * i.bytes ≤ 140737488355328 := by
              have : (n + k) * i.bytes ≤ 1099511627776 * 128 := Nat.mul_le_mul (by omega) c2
              omega
            obtain ⟨v', w', hrun, ho2, hgb, _, hl⟩ := run_append_own_at (P := P) w 0 t ty e0 i zv i.size i.bytes hu hi hzv rfl rfl hzl c3 (x.ev ρ) n (src'.ev ρ) hown ad k c L hL hcell h1 (by simp only [maxLen]; omega) hb2 (Nat.zero_le _)
            exact fin v' w' (by rw [ey]; exact hrun) ho2 hgb hl
          · have hL0 : L = [] := List.eq_nil_of_length_eq_zero (by rw [hL]; simp)
            subst hL0
            obtain ⟨hxs, hv⟩ := hown
            have hsl : ∃ A nn cc, x.ev ρ = .slice A nn cc ∧ nn ≤ cc := by
              rcases hv with ⟨e1, _⟩ | ⟨g, cap, cur, e1, _, _, hle, _⟩
              · exact ⟨_, _, _, e1, Nat.le_refl _⟩
              · exact ⟨_, _, _, e1, hle⟩
            obtain ⟨A, nn, cc, ex, hle⟩ := hsl
            have hrun := run_append_nothing (P := P) w t t ty e0 i hu hi A nn cc hle (y.ev ρ) (by rw [ey]; exact Src.ofNil w hu c)
            exact fin (x.ev ρ) w (by rw [← ex] at hrun; exact hrun) ⟨by simpa using hxs, by simpa using hv⟩ ⟨rfl, rfl, rfl, Nat.le_refl _, fun _ _ _ => rfl⟩ (.inl rfl)
        · cases h
      · cases h
    · cases h
  · cases h
end
end Go.Dx
