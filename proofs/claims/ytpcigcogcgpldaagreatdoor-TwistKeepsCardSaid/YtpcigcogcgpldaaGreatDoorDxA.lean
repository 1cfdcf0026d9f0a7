/- A text of this claim's own: Dx.Core, Dx.Ops. -/
import Derived.WalkKit
import Derived.OrdersHeld
import Derived.ChangeKeysEq
set_option linter.unusedVariables false
set_option linter.unusedSimpArgs false
set_option linter.unusedVariables false
namespace Go.Dx
open Go.RowKit

/-! ### 1. Symbolic values -/
mutual
/-- strings -/
inductive SS (ν : Type) where
  | lit (s : ByteArray)
  | var (x : ν)
  | cat (a b : SS ν)
  | sub (s : SS ν) (lo hi : SI ν)
/-- whole numbers -/
inductive SI (ν : Type) where
  | lit (n : Int)
  | var (x : ν)
  | add (a b : SI ν)
  | sub (a b : SI ν)
  | mul (a b : SI ν)
  | quo (a b : SI ν)
  | rem (a b : SI ν)
  | fdiv (a b : SI ν)
  | wrap (k : IntKind) (a : SI ν)
  | op2 (op : BinOp) (k : IntKind) (a b : SI ν)
  | len (s : SS ν)
  | bt (s : SS ν) (i : SI ν)
  | rd (l : SL ν) (i : SI ν)
  | llen (l : SL ν)
  | lenv (x : ν)
  | capv (x : ν)
  | iflt (l r a b : SI ν)
  | ifeq (l r a b : SI ν)
  | clen (s : Nat) (x : ν)
  | ctot (s : Nat) (x t : ν)
/-- lists of whole numbers -/
inductive SL (ν : Type) where
  | var (x : ν)
  | rep (n v : SI ν)
  | set (l : SL ν) (i v : SI ν)
end
/-- truth values -/
inductive SB (ν : Type) where
  | lit (b : Bool)
  | var (x : ν)
  | lt (a b : SI ν)
  | le (a b : SI ν)
  | eq (a b : SI ν)
  | seq (a b : SS ν)
  | beq (a b : SB ν)
  | not (a : SB ν)
  | and (a b : SB ν)
  | ite (c a b : SB ν)
  | isSl (x : ν)
  | hasB (x : ν)
  | gok (s : Nat) (x t : ν)
/-- one cell -/
inductive SC (ν : Type) where
  | val (x : ν)
  | const (v : Value)
  | int (k : IntKind) (n : SI ν)
  | bool (b : SB ν)
  | str (s : SS ν)
  | ptr (b : Nat) (off : SI ν)
  | slice (b : Nat) (off len cap : SI ν)
  | ext (x : ν) (len : SI ν)
  | eptr (x : ν) (i : SI ν)
  | aptr (x : ν) (o : SI ν)
  | cut (s : Nat) (x : ν) (lo hi : SI ν)
  | clo (f : Nat) (caps : List (Nat × Nat))
/-- a value: one cell, a struct or an array, several results -/
inductive AV (ν : Type) where
  | one (c : SC ν)
  | agg (cs : List (SC ν))
  | tup (vs : List (Bool × List (SC ν)))

/-- A value of one cell; where it leads to numbers: these. -/
structure OV where
  v : Value
  one : v.oneCell' = true
  l : List Int := []
  cs : List Value := []
instance : Inhabited OV := ⟨⟨.bool false, rfl, [], []⟩⟩
def OV.int (k : IntKind) (n : Int) : OV := ⟨.int k n, rfl, [], []⟩
def OV.bool (b : Bool) : OV := ⟨.bool b, rfl, [], []⟩
def OV.str (s : ByteArray) : OV := ⟨.string s, rfl, [], []⟩
def OV.lst (l : List Int) : OV := ⟨.bool false, rfl, l, []⟩
/-- a row of cells -/
def OV.gs (cs : List Value) : OV := ⟨.bool false, rfl, [], cs⟩
/-- any value of one cell -/
def OV.of (v : Value) (h : v.oneCell' = true) : OV := ⟨v, h, [], []⟩
/-- a slice over numbers -/
def OV.sl (A : Option Addr) (c : Nat) (l : List Int) : OV := ⟨.slice A l.length c, rfl, l, []⟩
/-- two cells: an integer -/
structure R2 where
  n : Bool
  A : Option Addr
  l : List Int
  c : Nat
def R2.a (r : R2) : OV := OV.bool r.n
def R2.b (r : R2) : OV := OV.sl r.A r.c r.l
/-- four cells: a rational -/
structure R4 where
  x : R2
  y : R2
def R2.v (r : R2) : Value := .agg #[.bool r.n, .slice r.A r.l.length r.c]
def R4.v (r : R4) : Value := .agg #[.bool r.x.n, .slice r.x.A r.x.l.length r.x.c, .bool r.y.n, .slice r.y.A r.y.l.length r.y.c]

def intV : Value → Int | .int _ n => n | _ => 0
def boolV : Value → Bool | .bool b => b | _ => false
def strV : Value → ByteArray | .string s => s | _ => ByteArray.empty
def lenV : Value → Int | .slice _ n _ => n | _ => 0
def capV : Value → Int | .slice _ _ c => c | _ => 0
def isSlV : Value → Bool | .slice _ _ _ => true | _ => false
def hasBV : Value → Bool | .slice (some _) _ _ => true | _ => false
/-- a slice cut to another length -/
def cutV (v : Value) (n : Int) : Value := match v with | .slice A _ c => .slice A n.toNat c | _ => .slice none 0 0
/-- the address of element i -/
def eptrV (v : Value) (i : Int) : Value := match v with | .slice (some a) _ _ => .pointer (some (a.add i.toNat)) | _ => .pointer none
/-- a slice of a slice -/
def cut2V (v : Value) (s : Nat) (lo hi : Int) : Value := match v with | .slice A _ c => .slice (if c = lo.toNat then A else A.map (·.add (lo.toNat * s))) (hi.toNat - lo.toNat) (c - lo.toNat) | _ => .slice none 0 0
/-- a row that grows: its cells, and the room behind them, are whole elements -/
def GOk (s : Nat) (cs tl : List Value) : Prop := 0 < s ∧ s ∣ cs.length ∧ s ∣ tl.length ∧ (cs.length + tl.length) / s ≤ maxLen
instance (s : Nat) (cs tl : List Value) : Decidable (GOk s cs tl) := inferInstanceAs (Decidable (_ ∧ _))
def glen (s : Nat) (cs : List Value) : Int := ((cs.length / s : Nat) : Int)
def gtot (s : Nat) (cs tl : List Value) : Int := (((cs.length + tl.length) / s : Nat) : Int)
def btV (s : ByteArray) (i : Int) : Int := match s[i.toNat]? with | some b => b.toNat | none => 0
def op2V (op : BinOp) (k : IntKind) (x y : Int) : Int :=
  match op with
  | .shl => k.wrap (x * 2 ^ min y.toNat k.bits)
  | .shr => x.fdiv (2 ^ min y.toNat k.bits)
  | .and => k.wrap ((BitVec.ofInt k.bits x &&& BitVec.ofInt k.bits y).toNat)
  | .or => k.wrap ((BitVec.ofInt k.bits x ||| BitVec.ofInt k.bits y).toNat)
  | .xor => k.wrap ((BitVec.ofInt k.bits x ^^^ BitVec.ofInt k.bits y).toNat)
  | .andNot => k.wrap ((BitVec.ofInt k.bits x &&& ~~~ BitVec.ofInt k.bits y).toNat)
  | _ => 0

mutual
def SS.ev : SS OV → ByteArray
  | .lit s => s
  | .var x => strV x.v
  | .cat a b => a.ev ++ b.ev
  | .sub s lo hi => s.ev.extract lo.ev.toNat hi.ev.toNat
def SI.ev : SI OV → Int
  | .lit n => n
  | .var x => intV x.v
  | .add a b => a.ev + b.ev
  | .sub a b => a.ev - b.ev
  | .mul a b => a.ev * b.ev
  | .quo a b => a.ev.tdiv b.ev
  | .rem a b => a.ev.tmod b.ev
  | .fdiv a b => a.ev.fdiv b.ev
  | .wrap k a => k.wrap a.ev
  | .op2 op k a b => op2V op k a.ev b.ev
  | .len s => (s.ev.size : Int)
  | .bt s i => btV s.ev i.ev
  | .rd l i => l.ev.getD i.ev.toNat 0
  | .llen l => (l.ev.length : Int)
  | .lenv x => lenV x.v
  | .capv x => capV x.v
  | .iflt l r a b => if l.ev < r.ev then a.ev else b.ev
  | .ifeq l r a b => if l.ev = r.ev then a.ev else b.ev
  | .clen s x => glen s x.cs
  | .ctot s x t => gtot s x.cs t.cs
def SL.ev : SL OV → List Int
  | .var x => x.l
  | .rep n v => List.replicate n.ev.toNat v.ev
  | .set l i v => l.ev.set i.ev.toNat v.ev
end
def SB.ev : SB OV → Bool
  | .lit b => b
  | .var x => boolV x.v
  | .lt a b => decide (a.ev < b.ev)
  | .le a b => decide (a.ev ≤ b.ev)
  | .eq a b => a.ev == b.ev
  | .seq a b => a.ev.toList == b.ev.toList
  | .beq a b => a.ev == b.ev
  | .not a => !a.ev
  | .and a b => a.ev && b.ev
  | .ite c a b => if c.ev then a.ev else b.ev
  | .isSl x => isSlV x.v
  | .hasB x => hasBV x.v
  | .gok s x t => decide (GOk s x.cs t.cs)
def ptrV (ρ : Nat → Nat) (p : Nat × Nat) : Value := .pointer (some ⟨ρ p.1, p.2, none⟩)
def SC.ev (ρ : Nat → Nat) : SC OV → Value
  | .val x => x.v
  | .const v => v
  | .int k n => .int k n.ev
  | .bool b => .bool b.ev
  | .str s => .string s.ev
  | .ptr b off => .pointer (some ⟨ρ b, off.ev.toNat, none⟩)
  | .slice b off len cap => .slice (some ⟨ρ b, off.ev.toNat, none⟩) len.ev.toNat cap.ev.toNat
  | .ext x len => cutV x.v len.ev
  | .eptr x i => eptrV x.v i.ev
  | .aptr x o => eptrV x.v o.ev
  | .cut s x lo hi => cut2V x.v s lo.ev hi.ev
  | .clo f caps => .func (.func f) #[] (caps.map (ptrV ρ)).toArray
def evL (ρ : Nat → Nat) (cs : List (SC OV)) : List Value := cs.map (SC.ev ρ)
def aggV (ρ : Nat → Nat) (p : Bool × List (SC OV)) : Value :=
  match p with
  | (true, cs) => .agg (evL ρ cs).toArray
  | (false, [c]) => c.ev ρ
  | (false, _) => .tuple #[]
def AV.ev (ρ : Nat → Nat) : AV OV → Value
  | .one c => c.ev ρ
  | .agg cs => .agg (evL ρ cs).toArray
  | .tup vs => .tuple (vs.map (aggV ρ)).toArray

def ofConstC {ν : Type} : Value → SC ν
  | .int k n => .int k (.lit n)
  | .bool b => .bool (.lit b)
  | .string s => .str (.lit s)
  | v => .const v
def ofConst {ν : Type} : Value → AV ν
  | .agg cs => .agg (cs.toList.map ofConstC)
  | v => .one (ofConstC v)
theorem ofConstC_ev (ρ : Nat → Nat) (v : Value) : (ofConstC v : SC OV).ev ρ = v := by
  cases v <;> simp [ofConstC, SC.ev, SI.ev, SB.ev, SS.ev]
theorem ofConst_ev (ρ : Nat → Nat) (v : Value) : (ofConst v : AV OV).ev ρ = v := by
  cases v with
  | agg cs =>
    simp only [ofConst, AV.ev, evL, List.map_map]
    have : (SC.ev ρ ∘ ofConstC) = (id : Value → Value) := funext (ofConstC_ev ρ)
    rw [this]; simp
  | _ => simp only [ofConst, AV.ev]; exact ofConstC_ev ρ _

/-! ### 2. Smart constructors -/
section
variable {ν : Type}
def SI.add' : SI ν → SI ν → SI ν
  | .lit a, .lit b => .lit (a + b)
  | .lit 0, b => b
  | a, .lit 0 => a
  | a, b => .add a b
def SI.sub' : SI ν → SI ν → SI ν
  | .lit a, .lit b => .lit (a - b)
  | a, .lit 0 => a
  | a, b => .sub a b
def SI.mul' : SI ν → SI ν → SI ν
  | .lit a, .lit b => .lit (a * b)
  | a, .lit 1 => a
  | a, b => .mul a b
def SI.quo' : SI ν → SI ν → SI ν
  | .lit a, .lit b => .lit (a.tdiv b)
  | a, b => .quo a b
def SI.rem' : SI ν → SI ν → SI ν
  | .lit a, .lit b => .lit (a.tmod b)
  | a, b => .rem a b
def SI.wrap' (k : IntKind) : SI ν → SI ν
  | .lit a => .lit (k.wrap a)
  | a => .wrap k a
def SI.op2' (op : BinOp) (k : IntKind) : SI ν → SI ν → SI ν
  | .lit a, .lit b => .lit (op2V op k a b)
  | a, b => .op2 op k a b
def SS.len' : SS ν → SI ν
  | .lit s => .lit s.size
  | s => .len s
def SS.cat' : SS ν → SS ν → SS ν
  | .lit a, .lit b => .lit (a ++ b)
  | a, b => .cat a b
def SB.lt' : SI ν → SI ν → SB ν
  | .lit a, .lit b => .lit (decide (a < b))
  | a, b => .lt a b
def SB.le' : SI ν → SI ν → SB ν
  | .lit a, .lit b => .lit (decide (a ≤ b))
  | a, b => .le a b
def SB.eq' : SI ν → SI ν → SB ν
  | .lit a, .lit b => .lit (a == b)
  | a, b => .eq a b
def SB.seq' : SS ν → SS ν → SB ν
  | .lit a, .lit b => .lit (a.data.toList == b.data.toList)
  | a, b => .seq a b
def SB.beq' : SB ν → SB ν → SB ν
  | .lit a, .lit b => .lit (a == b)
  | a, b => .beq a b
def SB.not' : SB ν → SB ν
  | .lit a => .lit (!a)
  | .not a => a
  | a => .not a
def SB.and' : SB ν → SB ν → SB ν
  | .lit true, b => b
  | .lit false, _ => .lit false
  | a, .lit true => a
  | a, b => .and a b
def SB.ite' : SB ν → SB ν → SB ν → SB ν
  | .lit true, a, _ => a
  | .lit false, _, b => b
  | c, a, b => .ite c a b
end
theorem SI.add'_ev (a b : SI OV) : (SI.add' a b).ev = a.ev + b.ev := by unfold SI.add'; split <;> simp [SI.ev]
theorem SI.sub'_ev (a b : SI OV) : (SI.sub' a b).ev = a.ev - b.ev := by unfold SI.sub'; split <;> simp [SI.ev]
theorem SI.mul'_ev (a b : SI OV) : (SI.mul' a b).ev = a.ev * b.ev := by unfold SI.mul'; split <;> simp [SI.ev]
theorem SI.quo'_ev (a b : SI OV) : (SI.quo' a b).ev = a.ev.tdiv b.ev := by unfold SI.quo'; split <;> simp [SI.ev]
theorem SI.rem'_ev (a b : SI OV) : (SI.rem' a b).ev = a.ev.tmod b.ev := by unfold SI.rem'; split <;> simp [SI.ev]
theorem SI.wrap'_ev (k : IntKind) (a : SI OV) : (SI.wrap' k a).ev = k.wrap a.ev := by unfold SI.wrap'; split <;> simp [SI.ev]
theorem SI.op2'_ev (op : BinOp) (k : IntKind) (a b : SI OV) : (SI.op2' op k a b).ev = op2V op k a.ev b.ev := by unfold SI.op2'; split <;> simp [SI.ev]
theorem SS.len'_ev (s : SS OV) : (SS.len' s).ev = (s.ev.size : Int) := by unfold SS.len'; split <;> simp [SI.ev, SS.ev]
theorem SS.cat'_ev (a b : SS OV) : (SS.cat' a b).ev = a.ev ++ b.ev := by unfold SS.cat'; split <;> simp [SS.ev]
theorem SB.lt'_ev (a b : SI OV) : (SB.lt' a b).ev = decide (a.ev < b.ev) := by unfold SB.lt'; split <;> rfl
theorem SB.le'_ev (a b : SI OV) : (SB.le' a b).ev = decide (a.ev ≤ b.ev) := by unfold SB.le'; split <;> rfl
theorem SB.eq'_ev (a b : SI OV) : (SB.eq' a b).ev = (a.ev == b.ev) := by unfold SB.eq'; split <;> simp [SB.ev, SI.ev]
theorem toList_data (s : ByteArray) : s.toList = s.data.toList := by
  first | exact ByteArray.toList_data s | exact (ByteArray.data_toList s).symm | simp [ByteArray.toList_eq]
theorem SB.seq'_ev (a b : SS OV) : (SB.seq' a b).ev = (a.ev.toList == b.ev.toList) := by
  unfold SB.seq'; split
  · simp only [SB.ev, SS.ev, toList_data]
  · rfl
theorem SB.beq'_ev (a b : SB OV) : (SB.beq' a b).ev = (a.ev == b.ev) := by unfold SB.beq'; split <;> rfl
theorem SB.not'_ev (a : SB OV) : (SB.not' a).ev = !a.ev := by unfold SB.not'; split <;> simp [SB.ev]
theorem SB.and'_ev (a b : SB OV) : (SB.and' a b).ev = (a.ev && b.ev) := by unfold SB.and'; split <;> simp [SB.ev]
theorem SB.ite'_ev (c a b : SB OV) : (SB.ite' c a b).ev = if c.ev then a.ev else b.ev := by unfold SB.ite'; split <;> simp [SB.ev]

/-! ### 3. Association lists -/
def getA {α : Type} : List (Nat × α) → Nat → Option α
  | [], _ => none
  | (j, x) :: t, i => match Nat.beq i j with | true => some x | false => getA t i
theorem getA_nil {α : Type} (i : Nat) : getA ([] : List (Nat × α)) i = none := rfl
theorem getA_cons {α : Type} (j : Nat) (x : α) (t : List (Nat × α)) (i : Nat) : getA ((j, x) :: t) i = if i = j then some x else getA t i := by
  simp only [getA]
  by_cases h : i = j
  · subst h; simp
  · have : Nat.beq i j = false := by
      cases hb : Nat.beq i j with
      | true => exact absurd (Nat.eq_of_beq_eq_true hb) h
      | false => rfl
    simp [this, h]
def memB (f : Nat) : List Nat → Bool
  | [] => false
  | g :: l => Nat.beq f g || memB f l
theorem memB_iff (f : Nat) : ∀ l : List Nat, memB f l = true ↔ f ∈ l
  | [] => by simp [memB]
  | g :: l => by
    simp only [memB, Bool.or_eq_true, memB_iff f l, List.mem_cons]
    constructor
    · rintro (h | h)
      · exact .inl (Nat.eq_of_beq_eq_true h)
      · exact .inr h
    · rintro (rfl | h)
      · exact .inl (Nat.beq_refl _)
      · exact .inr h

/-! ### 4. Blocks, states -/
/-- What a block holds: cells one by one, or a list of numbers. -/
inductive Ct (ν : Type) where
  | cells (cs : List (SC ν))
  | arr (k : IntKind) (l : SL ν)
  | gr (s : Nat) (x t : ν)
structure Blk (ν : Type) where
  T : TypeId
  ct : Ct ν
  giv : Bool
  ver : Nat
structure St (ν : Type) where
  fr : List (Nat × AV ν)
  bl : List (Nat × Blk ν)
  nb : Nat
def Ct.ev (ρ : Nat → Nat) : Ct OV → List Value
  | .cells cs => evL ρ cs
  | .arr k l => l.ev.map (Value.int k)
  | .gr _ x t => x.cs ++ t.cs

/-! ### 5. Operations that neither call nor touch memory -/
section
variable {ν : Type} (P : Program)
def evO (st : St ν) : Operand → AV ν
  | .tmp t => (getA st.fr t).getD (.tup [])
  | .const v => ofConst v
  | .global g => .one (.const (.pointer (some ⟨g, 0, none⟩)))
  | .func f => .one (.const (.func (.func f) #[] #[]))
/-- an operand that is known -/
def okO (st : St ν) : Operand → Bool
  | .tmp t => (getA st.fr t).isSome
  | _ => true
def isAggT (t : TypeId) : Option Bool :=
  match P.underlying t with
  | some (.struct _) | some (.array _ _) => some true
  | some _ => some false
  | none => none
def szT (t : TypeId) : Option Nat := (P.info? t).map (·.size)
def zeroT (t : TypeId) : Option (List (SC ν)) :=
  match P.info? t with
  | some i => i.zero.map fun z => z.cells.toList.map ofConstC
  | none => none
def AV.cells : AV ν → Option (List (SC ν))
  | .one c => some [c]
  | .agg cs => some cs
  | .tup _ => none
def AV.comp : AV ν → Option (Bool × List (SC ν))
  | .one c => some (false, [c])
  | .agg cs => some (true, cs)
  | .tup _ => none
def splice {α : Type} (cs : List α) (off : Nat) (vs : List α) : Option (List α) :=
  if off + vs.length ≤ cs.length then some (cs.take off ++ (vs ++ cs.drop (off + vs.length))) else none
/-- a part of a struct or of an array: cells from 'off' on -/
def partA (t : TypeId) (cs : List (SC ν)) (off : Nat) : Option (AV ν) :=
  match isAggT P t with
  | some true => (szT P t).bind fun n => if off + n ≤ cs.length then some (.agg ((cs.drop off).take n)) else none
  | some false => (cs[off]?).map .one
  | none => none
def places (t : TypeId) : Option (Nat → Option (Nat × Nat)) :=
  match P.underlying t with
  | some (.struct fs) => some fun i => (fs[i]?).bind fun f => (szT P f.type).map fun n => (f.offset, n)
  | some (.array _ e) => (szT P e).map fun n => fun i => some (i * n, n)
  | _ => none
def fillA (place : Nat → Option (Nat × Nat)) : List (SC ν) → List (Nat × AV ν) → Option (List (SC ν))
  | cells, [] => some cells
  | cells, (i, v) :: rest =>
    match place i, v.cells with
    | some (off, size), some vs =>
      if vs.length = size then (splice cells off vs).bind fun cs => fillA place cs rest else none
    | _, _ => none
def structSizes (t : TypeId) : Bool :=
  match P.underlying t with
  | some (.struct fs) => fs.toList.all fun f => (szT P f.type).isSome
  | _ => true
/-- the cells of two values of a type that is compared cell by cell: whole numbers, bools, strings -/
def eqCells : List (SC ν) → List (SC ν) → Option (SB ν)
  | [], [] => some (.lit true)
  | .int k a :: x, .int k' b :: y => if k = k' then (eqCells x y).map (SB.and' (SB.eq' a b)) else none
  | .bool a :: x, .bool b :: y => (eqCells x y).map (SB.and' (SB.beq' a b))
  | .str a :: x, .str b :: y => (eqCells x y).map (SB.and' (SB.seq' a b))
  | _, _ => none
def maxI : Int := 9223372036854775807
/-- a shift by a known count is a product or a quotient -/
def shlI (k : IntKind) (a b : SI ν) : SI ν :=
  match b with
  | .lit (.ofNat n) => SI.wrap' k (SI.mul' a (.lit ((2 ^ min n k.bits : Nat) : Int)))
  | b => SI.op2' .shl k a b
def shrI (k : IntKind) (a b : SI ν) : SI ν :=
  match b with
  | .lit (.ofNat n) => .fdiv a (.lit ((2 ^ min n k.bits : Nat) : Int))
  | b => SI.op2' .shr k a b
/-- two operands of one cell; what must hold first, and the result -/
def binC (op : BinOp) : SC ν → SC ν → Option (List (SB ν) × SC ν)
  | .int k a, .int k' b =>
    match op with
    | .shl => some ([SB.le' (.lit 0) b], .int k (shlI k a b))
    | .shr => some ([SB.le' (.lit 0) b], .int k (shrI k a b))
    | op =>
    if k ≠ k' then none else
    match op with
    | .add => some ([], .int k (SI.wrap' k (SI.add' a b)))
    | .sub => some ([], .int k (SI.wrap' k (SI.sub' a b)))
    | .mul => some ([], .int k (SI.wrap' k (SI.mul' a b)))
    | .quo => some ([SB.not' (SB.eq' b (.lit 0))], .int k (SI.wrap' k (SI.quo' a b)))
    | .rem => some ([SB.not' (SB.eq' b (.lit 0))], .int k (SI.rem' a b))
    | .eql => some ([], .bool (SB.eq' a b))
    | .neq => some ([], .bool (SB.not' (SB.eq' a b)))
    | .lss => some ([], .bool (SB.lt' a b))
    | .leq => some ([], .bool (SB.le' a b))
    | .gtr => some ([], .bool (SB.lt' b a))
    | .geq => some ([], .bool (SB.le' b a))
    | .and => some ([], .int k (SI.op2' .and k a b))
    | .or => some ([], .int k (SI.op2' .or k a b))
    | .xor => some ([], .int k (SI.op2' .xor k a b))
    | .andNot => some ([], .int k (SI.op2' .andNot k a b))
    | _ => none
  | .str a, .str b =>
    match op with
    | .add => some ([SB.le' (SI.add' (SS.len' a) (SS.len' b)) (.lit maxI)], .str (SS.cat' a b))
    | .eql => some ([], .bool (SB.seq' a b))
    | .neq => some ([], .bool (SB.not' (SB.seq' a b)))
    | _ => none
  | _, _ => none
end
end Go.Dx

set_option linter.unusedVariables false
set_option linter.unusedSimpArgs false
namespace Go.Dx
open Go.RowKit

section
variable {ν : Type} (P : Program)

def SC.oneC : SC ν → Bool
  | .const v => v.oneCell'
  | _ => true
def AV.okCells : AV ν → Bool
  | .one c => c.oneC
  | _ => true
def litN (a : AV ν) : Option Nat :=
  match a with
  | .one (.int _ (.lit (.ofNat n))) => some n
  | _ => none
def intA (a : AV ν) : Option (SI ν) :=
  match a with
  | .one (.int _ n) => some n
  | _ => none
def optI : Option (AV ν) → SI ν → Option (SI ν)
  | none, d => some d
  | some a, _ => intA a
def binA (op : BinOp) (x y : AV ν) : Option (List (SB ν) × AV ν) :=
  match x, y with
  | .one a, .one b => (binC op a b).map fun r => (r.1, .one r.2)
  | _, _ => none
/-- equality, part by part -/
def eqFs (f : TypeId → AV ν → AV ν → Option (SB ν)) (xs ys : List (SC ν)) : List Field → Option (SB ν)
  | [] => some (.lit true)
  | fd :: fs =>
    if fd.name ≠ "_" then
      match partA P fd.type xs fd.offset, partA P fd.type ys fd.offset with
      | some a, some b =>
        match f fd.type a b, eqFs f xs ys fs with
        | some c, some r => some (SB.and' c r)
        | _, _ => none
      | _, _ => none
    else eqFs f xs ys fs
def eqIs (f : AV ν → AV ν → Option (SB ν)) (e : TypeId) (c : Nat) (xs ys : List (SC ν)) : List Nat → Option (SB ν)
  | [] => some (.lit true)
  | i :: is =>
    match partA P e xs (i * c), partA P e ys (i * c) with
    | some a, some b =>
      match f a b, eqIs f e c xs ys is with
      | some c, some r => some (SB.and' c r)
      | _, _ => none
    | _, _ => none
def eqA : Nat → TypeId → AV ν → AV ν → Option (SB ν)
  | 0, _, _, _ => none
  | d + 1, t, x, y =>
    match P.underlying t, x, y with
    | some .bool, .one (.bool a), .one (.bool b) => some (SB.beq' a b)
    | some (.int _), .one (.int k a), .one (.int k' b) => if k = k' then some (SB.eq' a b) else none
    | some .string, .one (.str a), .one (.str b) => some (SB.seq' a b)
    | some (.struct _), .agg xs, .agg ys => if P.stoodInHeld t then none else eqFs P (eqA d) xs ys (P.fieldsOf t).toList
    | some (.array n e), .agg xs, .agg ys =>
      match P.info? e with
      | some _ => eqIs P (eqA d e) e (P.cellsOf e) xs ys (List.range n)
      | none => none
    | _, _, _ => none
def eqTop (t : TypeId) (x y : AV ν) : Option (SB ν) :=
  match x, y with
  | .one (.bool a), .one (.bool b) => eqA P 6 t (.one (.bool a)) (.one (.bool b))
  | .agg xs, .agg ys => if P.eqGuardType P.depth t then none else eqA P 6 t (.agg xs) (.agg ys)
  | _, _ => none
def binT (op : BinOp) (t : TypeId) (x y : AV ν) : Option (List (SB ν) × AV ν) :=
  match binA op x y with
  | some r => some r
  | none =>
    match op with
    | .eql => (eqTop P t x y).map fun c => ([], .one (.bool c))
    | .neq => (eqTop P t x y).map fun c => ([], .one (.bool (SB.not' c)))
    | _ => none
def capPtrs : List (AV ν) → Option (List (Nat × Nat))
  | [] => some []
  | .one (.ptr b (.lit (.ofNat off))) :: l => (capPtrs l).map ((b, off) :: ·)
  | _ :: _ => none
def natI (n : Nat) : SI ν := .lit (.ofNat n)
def isIntT (P : Program) (t : TypeId) : Bool := match P.underlying t with | some (.int _) => true | _ => false
/-- operations that neither call nor touch memory -/
def opPure (ev : Operand → AV ν) : Op → Option (List (SB ν) × AV ν)
  | .move x => some ([], ev x)
  | .assign x => some ([], ev x)
  | .pick c a b =>
    match ev c with
    | .one (.bool (.lit true)) => some ([], ev a)
    | .one (.bool (.lit false)) => some ([], ev b)
    | .one (.bool c) =>
      match ev a, ev b with
      | .one (.bool a), .one (.bool b) => some ([], .one (.bool (SB.ite' c a b)))
      | _, _ => none
    | _ => none
  | .build t parts =>
    if structSizes P t && (parts.toList.all fun p => (ev p.2).okCells) then
      match (zeroT P t : Option (List (SC ν))), places P t with
      | some z, some pl => (fillA pl z (parts.toList.map fun p => (p.1, ev p.2))).map fun cs => ([], .agg cs)
      | _, _ => none
    else none
  | .nilCheck x =>
    match ev x with
    | .one (.ptr b off) => some ([], .one (.ptr b off))
    | .one (.clo f caps) => some ([], .one (.clo f caps))
    | .one (.const (.func (.func f) a b)) => some ([], .one (.const (.func (.func f) a b)))
    | _ => none
  | .binOp op t x y _ => binT P op t (ev x) (ev y)
  | .unOp op _ x =>
    match op, ev x with
    | .neg, .one (.int k n) => some ([], .one (.int k (SI.wrap' k (SI.sub' (.lit 0) n))))
    | .not, .one (.bool b) => some ([], .one (.bool (SB.not' b)))
    | _, _ => none
  | .convert src dst x =>
    match P.underlying src, P.underlying dst, ev x with
    | some _, some (.int k), .one (.int _ n) => some ([], .one (.int k (SI.wrap' k n)))
    | some _, some .string, .one (.str s) => some ([], .one (.str s))
    | _, _, _ => none
  | .sliceToArrayPointer arr x =>
    match P.underlying arr, ev x with
    | some (.array n _), .one (.slice b off (.lit (.ofNat len)) _) => if n ≤ len then some ([], .one (.ptr b off)) else none
    | some (.array n _), .one (.val x) => some ([.isSl x, SB.le' (natI n) (.lenv x)], .one (.aptr x (natI 0)))
    | some (.array n _), .one (.ext x len) => some ([.isSl x, SB.le' (natI n) len], .one (.aptr x (natI 0)))
    | some (.array n _), .one (.cut s x l h) => some ([.isSl x, SB.le' (.lit 0) l, SB.le' (natI n) (SI.sub' h l), SB.lt' l (.capv x)], .one (.aptr x (SI.mul' l (natI s))))
    | _, _ => none
  | .makeFunc (.func f) first captured =>
    if first.isEmpty then (capPtrs (captured.toList.map ev)).map fun l => ([], .one (.clo f l)) else none
  | .slice t x lo hi mx =>
    match mx with
    | some _ => none
    | none =>
    match P.underlying t, ev x with
    | some (.array n e), .one (.ptr b off) =>
      match szT P e, optI (lo.map ev) (natI 0), optI (hi.map ev) (natI n) with
      | some s, some l, some h => some ([SB.le' (.lit 0) off, SB.le' (.lit 0) l, SB.le' l h, SB.le' h (natI n), SB.lt' l (natI n)], .one (.slice b (SI.add' off (SI.mul' l (natI s))) (SI.sub' h l) (SI.sub' (natI n) l)))
      | _, _, _ => none
    | some (.slice e), .one (.slice b off len cap) =>
      match szT P e, optI (lo.map ev) (natI 0), optI (hi.map ev) len with
      | some s, some l, some h => some ([SB.le' (.lit 0) off, SB.le' (.lit 0) l, SB.le' l h, SB.le' h cap, SB.lt' l cap], .one (.slice b (SI.add' off (SI.mul' l (natI s))) (SI.sub' h l) (SI.sub' cap l)))
      | _, _, _ => none
    | some (.slice e), .one (.val x) =>
      match lo, szT P e, optI (hi.map ev) (.lenv x) with
      | none, some _, some h => some ([.isSl x, SB.le' (.lit 0) h, SB.le' h (.capv x)], .one (.ext x h))
      | some lo, some s, some h =>
        match intA (ev lo) with
        | some l => some ([.isSl x, SB.le' (.lit 0) l, SB.le' l h, SB.le' h (.capv x)], .one (.cut s x l h))
        | none => none
      | _, _, _ => none
    | some (.slice e), .one (.ext x len) =>
      match lo, szT P e, optI (hi.map ev) len with
      | none, some _, some h => some ([.isSl x, SB.le' (.lit 0) len, SB.le' (.lit 0) h, SB.le' h (.capv x)], .one (.ext x h))
      | _, _, _ => none
    | some .string, .one (.str s) =>
      match optI (lo.map ev) (natI 0), optI (hi.map ev) (SS.len' s) with
      | some l, some h => some ([SB.le' (.lit 0) l, SB.le' l h, SB.le' h (SS.len' s)], .one (.str (.sub s l h)))
      | _, _ => none
    | _, _ => none
  | .fieldAddr s x f =>
    match P.underlying s, ev x with
    | some (.struct fs), .one (.ptr b off) =>
      match fs[f]? with
      | some fd => match szT P fd.type with
        | some (n + 1) => some ([SB.le' (.lit 0) off], .one (.ptr b (SI.add' off (natI fd.offset))))
        | _ => none
      | none => none
    | some (.struct fs), .one (.aptr x off) =>
      match fs[f]? with
      | some fd => match szT P fd.type with
        | some (n + 1) => some ([.hasB x, SB.le' (.lit 0) off], .one (.aptr x (SI.add' off (natI fd.offset))))
        | _ => none
      | none => none
    | _, _ => none
  | .field t x f =>
    match P.underlying t, ev x with
    | some (.struct fs), .agg cs =>
      match fs[f]? with
      | some fd => (partA P fd.type cs fd.offset).map fun a => ([], a)
      | none => none
    | _, _ => none
  | .indexAddr t x ix =>
    match P.underlying t, ev x, intA (ev ix) with
    | some (.array n e), .one (.ptr b off), some i =>
      match szT P e with
      | some s => some ([SB.le' (.lit 0) off, SB.le' (.lit 0) i, SB.lt' i (natI n)], .one (.ptr b (SI.add' off (SI.mul' i (natI s)))))
      | none => none
    | some (.slice e), .one (.slice b off len _), some i =>
      match szT P e with
      | some s => some ([SB.le' (.lit 0) off, SB.le' (.lit 0) i, SB.lt' i len], .one (.ptr b (SI.add' off (SI.mul' i (natI s)))))
      | none => none
    | some (.slice e), .one (.val x), some i =>
      match szT P e, isIntT P e with
      | some 1, true => some ([.hasB x, SB.le' (.lit 0) i, SB.lt' i (.lenv x)], .one (.eptr x i))
      | some s, _ => some ([.hasB x, SB.le' (.lit 0) i, SB.lt' i (.lenv x)], .one (.aptr x (SI.mul' i (natI s))))
      | none, _ => none
    | some (.slice e), .one (.ext x len), some i =>
      match szT P e, isIntT P e with
      | some 1, true => some ([.hasB x, SB.le' (.lit 0) len, SB.le' (.lit 0) i, SB.lt' i len], .one (.eptr x i))
      | some s, _ => some ([.hasB x, SB.le' (.lit 0) len, SB.le' (.lit 0) i, SB.lt' i len], .one (.aptr x (SI.mul' i (natI s))))
      | none, _ => none
    | some (.slice e), .one (.cut s' x l h), some i =>
      match szT P e with
      | some s => if s = s' then some ([.hasB x, SB.le' (.lit 0) l, SB.le' (.lit 0) i, SB.lt' i (SI.sub' h l), SB.lt' l (.capv x)], .one (.aptr x (SI.mul' (SI.add' l i) (natI s)))) else none
      | none => none
    | some (.array n e), .one (.aptr x off), some i =>
      match szT P e with
      | some s => some ([.hasB x, SB.le' (.lit 0) off, SB.le' (.lit 0) i, SB.lt' i (natI n)], .one (.aptr x (SI.add' off (SI.mul' i (natI s)))))
      | none => none
    | _, _, _ => none
  | .index t x ix =>
    match P.underlying t, ev x with
    | some (.array n e), .agg cs =>
      match litN (ev ix), szT P e with
      | some i, some s => if i < n then (partA P e cs (i * s)).map fun a => ([], a) else none
      | _, _ => none
    | some .string, .one (.str s) =>
      match intA (ev ix) with
      | some i => some ([SB.le' (.lit 0) i, SB.lt' i (SS.len' s)], .one (.int .u8 (.bt s i)))
      | none => none
    | _, _ => none
  | .extract x i =>
    match ev x with
    | .tup vs => match vs[i]? with
      | some (true, cs) => some ([], .agg cs)
      | some (false, [c]) => some ([], .one c)
      | _ => none
    | _ => none
  | .call { callee := .builtin .len, args := args, argTypes := ts } =>
    match args.toList, ts.toList with
    | [x], [t] =>
      match P.underlying t, ev x with
      | some .string, .one (.str s) => some ([], .one (.int .i64 (SS.len' s)))
      | some (.slice _), .one (.slice _ _ len _) => some ([SB.le' (.lit 0) len], .one (.int .i64 len))
      | some (.slice _), .one (.val x) => some ([.isSl x], .one (.int .i64 (.lenv x)))
      | some (.slice _), .one (.ext x len) => some ([.isSl x, SB.le' (.lit 0) len], .one (.int .i64 len))
      | some (.slice _), .one (.cut _ x l h) => some ([.isSl x, SB.le' (.lit 0) l, SB.le' l h], .one (.int .i64 (SI.sub' h l)))
      | some (.slice _), .one (.const (.slice none 0 0)) => some ([], .one (.int .i64 (natI 0)))
      | some (.array n _), _ => some ([], .one (.int .i64 (natI n)))
      | _, _ => none
    | _, _ => none
  | .call { callee := .builtin .max, args := args, argTypes := _ } =>
    match args.toList with
    | [x, y] => match ev x, ev y with
      | .one (.int k a), .one (.int _ b) => some ([], .one (.int k (.iflt a b b a)))
      | _, _ => none
    | _ => none
  | .call { callee := .builtin .min, args := args, argTypes := _ } =>
    match args.toList with
    | [x, y] => match ev x, ev y with
      | .one (.int k a), .one (.int _ b) => some ([], .one (.int k (.iflt b a b a)))
      | _, _ => none
    | _ => none
  | _ => none
end

/-! ### soundness -/
section
variable {P : Program} {ρ : Nat → Nat}

theorem cells_of_one {v : Value} (h : v.oneCell' = true) : v.cells = #[v] := by
  cases v <;> first | rfl | (simp [Value.oneCell'] at h)
theorem cut2V_one (v : Value) (s : Nat) (lo hi : Int) : (cut2V v s lo hi).oneCell' = true := by unfold cut2V; split <;> rfl
theorem cutV_one (v : Value) (n : Int) : (cutV v n).oneCell' = true := by unfold cutV; split <;> rfl
theorem eptrV_one (v : Value) (n : Int) : (eptrV v n).oneCell' = true := by unfold eptrV; split <;> rfl
theorem SC.ev_one {c : SC OV} (h : c.oneC = true) : (c.ev ρ).oneCell' = true := by
  cases c with
  | val x => exact x.one
  | const v => exact h
  | ext x n => exact cutV_one _ _
  | eptr x n => exact eptrV_one _ _
  | aptr x n => exact eptrV_one _ _
  | cut s x l h => exact cut2V_one _ _ _ _
  | _ => rfl

theorem run_isAgg {t : TypeId} {b : Bool} (h : isAggT P t = some b) (w : World) : (isAgg t).run P w = .ok b w := by
  unfold isAggT at h
  cases hu : P.underlying t with
  | none => simp [hu] at h
  | some d =>
    unfold isAgg
    rw [Sem.run_bind, run_underlying hu]
    rw [hu] at h
    cases d <;> simp_all
theorem run_size {t : TypeId} {n : Nat} (h : szT P t = some n) (w : World) : (sizeOf t).run P w = .ok n w := by
  unfold szT at h
  cases hi : P.info? t with
  | none => simp [hi] at h
  | some i => simp [sizeOf, typeInfo, hi]; simpa [hi] using h
theorem run_part {t : TypeId} {cs : List (SC OV)} {off : Nat} {a : AV OV} (h : partA P t cs off = some a) (w : World) :
    (part t (evL ρ cs).toArray off).run P w = .ok (a.ev ρ) w := by
  unfold partA at h
  cases hb : isAggT P t with
  | none => simp [hb] at h
  | some b =>
    unfold part
    rw [Sem.run_bind, run_isAgg hb]
    cases b with
    | true =>
      simp only [hb] at h
      cases hs : szT P t with
      | none => simp [hs] at h
      | some n =>
        simp only [hs, Option.bind_some] at h
        split at h
        · rename_i hle
          injection h with h; subst h
          simp only [Result.andThen_ok, if_true, Sem.run_bind, run_size hs, Sem.run_pure, AV.ev]
          congr 2
          apply Array.ext'
          simp [evL, List.extract_eq_take_drop, List.map_take, List.map_drop]
        · cases h
    | false =>
      simp only [hb] at h
      cases hc : cs[off]? with
      | none => simp [hc] at h
      | some c =>
        simp [hc] at h
        subst h
        simp [AV.ev, evL, hc]
end
end Go.Dx
