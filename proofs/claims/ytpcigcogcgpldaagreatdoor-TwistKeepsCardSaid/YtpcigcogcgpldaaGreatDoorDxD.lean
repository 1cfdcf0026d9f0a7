/- A text of this claim's own: Dx.Exec. -/
import Derived.Test.YtpcigcogcgpldaaGreatDoorDxC
set_option linter.unusedVariables false
set_option linter.unusedSimpArgs false
set_option linter.unusedVariables false
set_option linter.unusedSimpArgs false
namespace Go.Dx
open Go.RowKit

/-- What the pieces of a result are. -/
inductive RK where
  | any | int (k : IntKind) | bool | str | sl | isl
  deriving DecidableEq
/-- a loop's variable: a cell, or a list of numbers -/
inductive LV (ν : Type) where
  | cell (c : SC ν)
  | lst (l : SL ν)
  | gnil
  | gs (x : ν)
/-- what a growing row begins with; what comes behind it -/
inductive GSrc (ν : Type) where
  | nil
  | cells (b : Nat) (cs : List (SC ν))
  | var (b : Nat) (x t : ν)
inductive GNew (ν : Type) where
  | cells (cs : List (SC ν))
  | var (y : ν)
/-- .. its kind -/
inductive UK where
  | i (k : IntKind) | b | s | x | l
  deriving DecidableEq

/-- What a function comes to: calls, tests, loops, in order. -/
inductive Tree (ν : Type) where
  | call (f : Nat) (args : List (AV ν)) (k : Tree ν)
  | callb (f : Nat) (args : List (AV ν)) (b : Nat) (T : TypeId) (kd : IntKind) (l : SL ν) (k : ν → Tree ν)
  | callo (f : Nat) (args : List (AV ν)) (b : Nat) (T : TypeId) (kd : IntKind) (k : Tree ν) (own : ν → Tree ν)
  | bx (k : ν → Tree ν)
  | bi (kd : IntKind) (k : ν → Tree ν)
  | bb (k : ν → Tree ν)
  | bs (k : ν → Tree ν)
  | b2 (k : ν → ν → Tree ν)
  | b4 (k : ν → ν → ν → ν → Tree ν)
  | bsl (k : ν → Tree ν)
  | got (v : AV ν) (k : Tree ν)
  | new (b : Nat) (k : Tree ν)
  | give (b : Nat) (T : TypeId) (ct : Ct ν) (k : Tree ν)
  | test (c : SB ν) (t e : Tree ν)
  | need (c : SB ν) (want : Bool) (k : Tree ν)
  | both (a b : Tree ν)
  | reads (kd : IntKind) (x : ν) (k : Tree ν)
  | loop (init : List (LV ν)) (body : Tree ν)
  | ux (k : ν → Tree ν)
  | ui (kd : IntKind) (k : ν → Tree ν)
  | ub (k : ν → Tree ν)
  | us (k : ν → Tree ν)
  | ul (k : ν → Tree ν)
  | hd (xs : List ν) (k : Tree ν)
  | again (vs : List (LV ν))
  | out (k : Tree ν)
  | app (T : TypeId) (news : List (SC ν)) (n : Nat) (k : ν → Tree ν)
  | blk (b : Nat) (k : Tree ν)
  | has (b : Nat) (T : TypeId) (cs : List (SC ν)) (k : Tree ν)
  | at (x : ν) (o : SI ν) (cs : List (SC ν)) (k : Tree ν)
  | atg (x : ν) (o : SI ν) (cs : List (SC ν)) (k : Tree ν)
  | grow (b : Nat) (T : TypeId) (s : Nat) (src : GSrc ν) (news : GNew ν) (k : ν → ν → Tree ν)
  | ug (b : Nat) (s : Nat) (nil : Bool) (kn : ν → Tree ν) (ko : ν → ν → Tree ν)
  | callg (f : Nat) (args : List (AV ν)) (b : Nat) (T : TypeId) (x t : ν) (k : ν → Tree ν)
  | ret (v : AV ν) (bor : Option (SL ν))
  | fail (s : String)

inductive Ex where
  | nrm | exit (id : Nat) | ret
inductive Hint where
  | d (b : Bool) | both | inv (slots blks : List Nat) | auto | roll | lst | mrg | own (g : List Nat)
abbrev Hints := List Hint
structure Cfg where
  P : Program
  N : Nat
  cal : List Nat
  bor : List Nat
  own : List (Nat × Bool)
  giv : List (Nat × Nat)
  grw : Bool := false

section
variable {ν : Type}
def SC.wf (n : Nat) : SC ν → Bool
  | .ptr b _ => Nat.blt b n
  | .slice b _ _ _ => Nat.blt b n
  | .clo _ caps => caps.all fun p => Nat.blt p.1 n
  | _ => true
def AV.wf (n : Nat) : AV ν → Bool
  | .one c => c.wf n
  | .agg cs => cs.all (SC.wf n)
  | .tup vs => vs.all fun p => p.2.all (SC.wf n)
def Ct.wf (n : Nat) : Ct ν → Bool
  | .cells cs => cs.all (SC.wf n)
  | .arr _ _ => true
  | .gr _ _ _ => true
def St.put (st : St ν) (d : Option Nat) (v : AV ν) : St ν :=
  match d with
  | none => st
  | some d => { st with fr := (d, v) :: st.fr }
def dstOk (N : Nat) : Option Nat → Bool
  | none => true
  | some d => Nat.blt d N
def putOk (N : Nat) (st : St ν) (d : Option Nat) (v : AV ν) : Bool :=
  v.wf st.nb && dstOk N d
def needs (reqs : List (SB ν)) (k : Tree ν) : Tree ν :=
  match reqs with
  | [] => k
  | .lit true :: l => needs l k
  | c :: l => .need c true (needs l k)
def opsOk (st : St ν) (o : Op) : Bool := o.operands.toList.all (okO st)

/-! results -/
def kindOf : Value → RK
  | .int k _ => .int k
  | .bool _ => .bool
  | .string _ => .str
  | .slice _ _ _ => .sl
  | _ => .any
def compT (P : Program) (t : TypeId) : Option (Bool × List RK) :=
  match isAggT P t, P.info? t with
  | some b, some i =>
    match P.underlying t with
    | some (.slice e) => if isIntT P e then some (false, [.isl]) else some (false, [.sl])
    | _ => i.zero.map fun z => (b, z.cells.toList.map kindOf)
  | _, _ => none
def binds : List RK → (List (SC ν) → Tree ν) → Tree ν
  | [], k => k []
  | .bool :: .sl :: .bool :: .sl :: l, k => .b4 fun a b c d => binds l fun cs => k (.bool (.var a) :: .val b :: .bool (.var c) :: .val d :: cs)
  | .bool :: .sl :: l, k => .b2 fun a b => binds l fun cs => k (.bool (.var a) :: .val b :: cs)
  | .bool :: l, k => .bb fun x => binds l fun cs => k (.bool (.var x) :: cs)
  | .int kd :: l, k => .bi kd fun x => binds l fun cs => k (.int kd (.var x) :: cs)
  | .str :: l, k => .bs fun x => binds l fun cs => k (.str (.var x) :: cs)
  | .sl :: l, k => .bx fun x => binds l fun cs => k (.val x :: cs)
  | .isl :: l, k => .bsl fun x => binds l fun cs => k (.val x :: cs)
  | .any :: l, k => .bx fun x => binds l fun cs => k (.val x :: cs)

/-! memory -/
/-- a load: what must hold, the value; of a slice that came in: that it is read -/
inductive Ld (ν : Type) where
  | val (reqs : List (SB ν)) (v : AV ν)
  | ext (kd : IntKind) (x : ν) (reqs : List (SB ν)) (v : AV ν)
  | opq (g : Bool) (x : ν) (o : SI ν) (ks : List RK) (agg : Bool)
def opqT (P : Program) (t : TypeId) (g : Bool) (x : ν) (o : SI ν) : Option (Ld ν) :=
  match compT P t, szT P t with
  | some (agg, ks), some n => if Nat.beq ks.length n && (agg || Nat.beq n 1) then some (.opq g x o ks agg) else none
  | _, _ => none
/-- what has been read -/
def mkA : Bool → List (SC ν) → AV ν
  | false, [c] => .one c
  | _, cs => .agg cs
/-- reading out of a row: the cells, bound -/
def opqK (g : Bool) (x : ν) (o : SI ν) (ks : List RK) (agg : Bool) (k : AV ν → Tree ν) : Tree ν :=
  binds ks fun cs => match Nat.beq cs.length ks.length with
    | true => match g with
      | false => .at x o cs (k (mkA agg cs))
      | true => .atg x o cs (k (mkA agg cs))
    | false => .fail "read"
def loadA (P : Program) (bl : List (Nat × Blk ν)) (t : TypeId) (a : AV ν) : Option (Ld ν) :=
  match a with
  | .one (.ptr b off) =>
    match getA bl b with
    | some blk =>
      match blk.ct with
      | .cells cs =>
        match off with
        | .lit (.ofNat o) =>
          match isAggT P t with
          | some true => (szT P t).bind fun n => if o + n ≤ cs.length then some (.val [] (.agg ((cs.drop o).take n))) else none
          | some false => (cs[o]?).map fun c => .val [] (.one c)
          | none => none
        | _ => none
      | .arr k l =>
        match isAggT P t with
        | some false => some (.val [SB.le' (.lit 0) off, SB.lt' off (.llen l)] (.one (.int k (.rd l off))))
        | _ => none
      | .gr _ x _ => opqT P t true x off
    | none => none
  | .one (.eptr x i) =>
    match P.underlying t with
    | some (.int k) => some (.ext k x [SB.le' (.lit 0) i, SB.lt' i (.llen (.var x))] (.one (.int k (.rd (.var x) i))))
    | _ => none
  | .one (.aptr x o) => opqT P t false x o
  | _ => none
/-- a store: what must hold, which block, and the block afterwards -/
def storeA (P : Program) (bl : List (Nat × Blk ν)) (t : TypeId) (a v : AV ν) : Option (List (SB ν) × Nat × Blk ν) :=
  match a, v.cells with
  | .one (.ptr b off), some vs =>
    match getA bl b, szT P t with
    | some blk, some n =>
      if blk.giv = false ∧ vs.length = n ∧ vs.all SC.oneC = true ∧ v.okCells = true then
        match blk.ct with
        | .cells cs =>
          match off with
          | .lit (.ofNat o) => (splice cs o vs).map fun cs => ([], b, { blk with ct := .cells cs, ver := blk.ver + 1 })
          | _ => none
        | .arr k l =>
          match vs with
          | [.int k' m] => if k = k' then some ([SB.le' (.lit 0) off, SB.lt' off (.llen l)], b, { blk with ct := .arr k (.set l off m), ver := blk.ver + 1 }) else none
          | _ => none
        | .gr _ _ _ => none
      else none
    | _, _ => none
  | _, _ => none
def zrep (z : List (SC ν)) (m : Nat) : List (SC ν) := (List.range m).map fun i => (z[i % z.length]?).getD (.const (.bool false))
def sameO : Operand → Operand → Bool
  | .tmp a, .tmp b => Nat.beq a b
  | _, _ => false
/-- new memory: what must hold, its type, what it holds, the value -/
def opNew (P : Program) (nb : Nat) (ev : Operand → AV ν) : Op → Option (List (SB ν) × TypeId × Ct ν × AV ν)
  | .alloc T => (zeroT P T).map fun z => ([], T, .cells z, .one (.ptr nb (natI 0)))
  | .box T x => if (ev x).okCells then (ev x).cells.map fun cs => ([], T, .cells cs, .one (.ptr nb (natI 0))) else none
  | .buildSlice t n parts =>
    match P.underlying t with
    | some (.slice e) =>
      match szT P e, (zeroT P e : Option (List (SC ν))) with
      | some s, some z =>
        if n * s ≤ 16777216 ∧ z.length ≠ 0 ∧ n * s ≠ 0 ∧ (parts.toList.all fun p => (ev p.2).okCells) = true then
          (fillA (fun i => some (i * s, s)) (zrep z (n * s)) (parts.toList.map fun p => (p.1, ev p.2))).map fun cs => ([], e, .cells cs, .one (.slice nb (natI 0) (natI n) (natI n)))
        else if Nat.beq n 0 && parts.isEmpty then some ([], e, .cells [], .one (.slice nb (natI 0) (natI 0) (natI 0)))
        else none
      | _, _ => none
    | _ => none
  | .makeSlice t l c =>
    match P.underlying t with
    | some (.slice e) =>
      match litN (ev l), litN (ev c), P.info? e, (zeroT P e : Option (List (SC ν))) with
      | some n, some m, some i, some z =>
        if n = m ∧ i.bytes * n ≤ 1099511627776 ∧ n ≤ 1099511627776 ∧ z.length ≠ 0 ∧ n * i.size ≠ 0 then some ([], e, .cells (zrep z (n * i.size)), .one (.slice nb (natI 0) (natI n) (natI n))) else none
      | _, _, some i, some [.int k (.lit 0)] =>
        if sameO l c = true ∧ i.size = 1 ∧ i.bytes ≤ 16 then
          match intA (ev l) with
          | some n => some ([SB.le' (.lit 0) n, SB.le' n (.lit 1099511627776)], e, .arr k (.rep n (.lit 0)), .one (.slice nb (natI 0) n n))
          | none => none
        else none
      | _, _, _, _ => none
    | _ => none
  | _ => none

/-! calls -/
def ptrsC : SC ν → List Nat
  | .ptr b _ => [b]
  | .slice b _ _ _ => [b]
  | .clo _ caps => caps.map (·.1)
  | _ => []
def ptrsA : AV ν → List Nat
  | .one c => ptrsC c
  | .agg cs => cs.flatMap ptrsC
  | .tup vs => vs.flatMap fun p => p.2.flatMap ptrsC
def ptrsT : Ct ν → List Nat
  | .cells cs => cs.flatMap ptrsC
  | .arr _ _ => []
  | .gr _ _ _ => []
def giveAll : Nat → List Nat → St ν → (St ν → Tree ν) → Tree ν
  | 0, _, _, _ => .fail "give"
  | _ + 1, [], st, k => k st
  | n + 1, b :: bs, st, k =>
    match getA st.bl b with
    | none => .fail "give: no such block"
    | some blk =>
      if blk.giv then giveAll n bs st k
      else .give b blk.T blk.ct (giveAll n (ptrsT blk.ct ++ bs) { st with bl := (b, { blk with giv := true }) :: st.bl } k)
def bindsT : List (Bool × List RK) → (List (Bool × List (SC ν)) → Tree ν) → Tree ν
  | [], k => k []
  | (b, l) :: r, k => binds l fun cs => bindsT r fun vs => k ((b, cs) :: vs)
/-- the results of a call of type t, bound -/
def results? (P : Program) (t : TypeId) (k : AV ν → Tree ν) : Tree ν :=
  match P.underlying t with
  | some (.tuple ts) =>
    match ts.toList.mapM (compT P) with
    | some l => bindsT l fun vs => .got (.tup vs) (k (.tup vs))
    | none => .fail "results"
  | _ =>
    match compT P t with
    | some (true, l) => binds l fun cs => .got (.agg cs) (k (.agg cs))
    | some (false, l) => binds l fun cs => match cs with
      | [c] => .got (.one c) (k (.one c))
      | _ => .fail "result"
    | none => .fail "result type"
def target (fv : AV ν) : Option (Nat × List (AV ν)) :=
  match fv with
  | .one (.const (.func (.func f) first cap)) => if first.isEmpty && cap.isEmpty then some (f, []) else none
  | .one (.clo f caps) => some (f, caps.map fun p => .one (.ptr p.1 (natI p.2)))
  | _ => none

/-! rows that grow -/
def dropB (bs : List Nat) (bl : List (Nat × Blk ν)) : List (Nat × Blk ν) := bl.filter fun p => !memB p.1 bs
def GSrc.blk : GSrc ν → List Nat
  | .nil => []
  | .cells b _ => [b]
  | .var b _ _ => [b]
def eqT (a b : Nat) : Bool := Nat.beq a b
/-- a row that grows, and is whole: what must hold -/
def growA (bl : List (Nat × Blk ν)) (e : TypeId) (s : Nat) (b : Nat) (off n c : SI ν) : Option (List (SB ν) × ν × ν) :=
  match getA bl b with
  | some ⟨T, .gr s' x t, false, _⟩ => if eqT T e && eqT s' s then some ([SB.eq' off (.lit 0), SB.eq' n (.clen s x), SB.eq' c (.ctot s x t), .gok s x t], x, t) else none
  | _ => none
def appSrc (bl : List (Nat × Blk ν)) (e : TypeId) (s : Nat) : AV ν → Option (List (SB ν) × GSrc ν × SI ν)
  | .one (.const (.slice none 0 0)) => some ([], .nil, natI 0)
  | .one (.slice b off n c) =>
    match growA bl e s b off n c with
    | some (reqs, x, t) => some (reqs, .var b x t, .clen s x)
    | none =>
      match getA bl b, off, n, c with
      | some ⟨T, .cells cs, false, _⟩, .lit 0, .lit (.ofNat n), .lit (.ofNat m) => if eqT n m && eqT T e && eqT cs.length (n * s) && Nat.ble n 1099511627776 then some ([], .cells b cs, natI n) else none
      | _, _, _, _ => none
  | _ => none
def appNew (bl : List (Nat × Blk ν)) (s : Nat) : AV ν → Option (List (SB ν) × GNew ν × SI ν)
  | .one (.slice b (.lit (.ofNat o)) (.lit (.ofNat n)) _) =>
    match getA bl b with
    | some ⟨_, .cells cs, _, _⟩ => if Nat.blt 0 n && Nat.ble (o + n * s) cs.length && cs.all SC.oneC then some ([], .cells ((cs.drop o).take (n * s)), natI n) else none
    | _ => none
  | .one (.val y) => some ([], .var y, .lenv y)
  | _ => none
def appA (P : Program) (st : St ν) (t t' : TypeId) (s x : AV ν) : Option (List (SB ν) × TypeId × Nat × GSrc ν × GNew ν) :=
  match P.underlying t with
  | some (.slice e) =>
    match P.info? e, (zeroT P e : Option (List (SC ν))) with
    | some i, some z =>
      if eqT t t' && Nat.ble i.bytes 128 && Nat.blt 0 i.size && eqT z.length i.size then
        match appSrc st.bl e i.size s, appNew st.bl i.size x with
        | some (r1, src, n1), some (r2, news, n2) => some (r1 ++ (r2 ++ [SB.lt' (.lit 0) (SI.add' n1 n2), SB.le' (SI.add' n1 n2) (.lit 1099511627776)]), e, i.size, src, news)
        | _, _ => none
      else none
    | _, _ => none
  | _ => none
/-- One operation that is carried out. -/
def doOp (C : Cfg) (o : Oper) (st : St ν) (k : St ν → Tree ν) : Tree ν :=
  if opsOk st o.op = false then .fail "operand" else
  match opPure C.P (evO st) o.op with
  | some (reqs, v) => if putOk C.N st o.dst v then needs reqs (k (st.put o.dst v)) else .fail "put"
  | none =>
  match o.op with
  | .load t a =>
    match loadA C.P st.bl t (evO st a) with
    | some (.val reqs v) => if putOk C.N st o.dst v then needs reqs (k (st.put o.dst v)) else .fail "put"
    | some (.ext kd x reqs v) => if putOk C.N st o.dst v then .reads kd x (needs reqs (k (st.put o.dst v))) else .fail "put"
    | some (.opq g x ofs ks agg) => opqK g x ofs ks agg fun v => if putOk C.N st o.dst v then k (st.put o.dst v) else .fail "put"
    | none => .fail "load"
  | .store t a x =>
    match storeA C.P st.bl t (evO st a) (evO st x) with
    | some (reqs, b, blk) => if blk.ct.wf st.nb && putOk C.N st o.dst (.tup []) then needs reqs (k ({ st with bl := (b, blk) :: st.bl }.put o.dst (.tup []))) else .fail "put"
    | none => .fail "store"
  | .call { callee := .value f, args := args, argTypes := _ } =>
    match target (evO st f) with
    | some (g, extra) =>
      if memB g C.cal then
        if memB g C.bor then
          match (args.toList.map (evO st) ++ extra).flatMap ptrsA with
          | b :: _ =>
            match getA st.bl b with
            | some ⟨T, .arr kd l, false, ver⟩ =>
              .callb g (args.toList.map (evO st) ++ extra) b T kd l fun x =>
                results? C.P o.type fun v =>
                  if putOk C.N st o.dst v then k ({ st with bl := (b, ⟨T, .arr kd (.var x), false, ver + 1⟩) :: st.bl }.put o.dst v) else .fail "put"
            | some ⟨T, .gr s x t, false, ver⟩ =>
              .callg g (args.toList.map (evO st) ++ extra) b T x t fun y =>
                results? C.P o.type fun v =>
                  if putOk C.N st o.dst v then k ({ st with bl := (b, ⟨T, .gr s y t, false, ver + 1⟩) :: st.bl }.put o.dst v) else .fail "put"
            | _ => .fail "borrow"
          | [] => .fail "borrow"
        else match getA C.own g with
        | some sure =>
          match C.P.underlying o.type with
          | some (.slice e) =>
            match C.P.underlying e with
            | some (.int kd) =>
              giveAll 60 ((args.toList.map (evO st) ++ extra).flatMap ptrsA) st fun st' =>
                .callo g (args.toList.map (evO st) ++ extra) st'.nb e kd (match sure with | true => .fail "none" | false => results? C.P o.type fun v => if putOk C.N st' o.dst v then k (st'.put o.dst v) else .fail "put")
                  fun L => .bi .i64 fun n => .bi .i64 fun c => .got (.one (.slice st'.nb (.lit 0) (.var n) (.var c)))
                    (if dstOk C.N o.dst then k ({ st' with bl := (st'.nb, ⟨e, .arr kd (.var L), false, 0⟩) :: st'.bl, nb := st'.nb + 1 }.put o.dst (.one (.slice st'.nb (.lit 0) (.var n) (.var c)))) else .fail "put")
            | _ => .fail "own"
          | _ => .fail "own"
        | none =>
        match getA C.giv g with
        | some n =>
          match C.P.underlying o.type with
          | some (.slice e) =>
            match compT C.P e with
            | some (_, ks) =>
              giveAll 60 ((args.toList.map (evO st) ++ extra).flatMap ptrsA) st fun st' =>
                .call g (args.toList.map (evO st) ++ extra) (.blk st'.nb (binds (List.replicate n ks).flatten fun cs => .bi .i64 fun c =>
                  .got (.one (.slice st'.nb (.lit 0) (natI n) (.var c))) (.has st'.nb e cs
                    (if cs.all (SC.wf 0) && dstOk C.N o.dst then k ({ st' with bl := (st'.nb, ⟨e, .cells cs, true, 0⟩) :: st'.bl, nb := st'.nb + 1 }.put o.dst (.one (.slice st'.nb (.lit 0) (natI n) (.var c)))) else .fail "put"))))
            | none => .fail "given"
          | _ => .fail "given"
        | none =>
        giveAll 60 ((args.toList.map (evO st) ++ extra).flatMap ptrsA) st fun st' =>
          .call g (args.toList.map (evO st) ++ extra) (results? C.P o.type fun v => if putOk C.N st' o.dst v then k (st'.put o.dst v) else .fail "put")
      else .fail "callee"
    | none => .fail "call"
  | .call { callee := .builtin .append, args := args, argTypes := ts } =>
    match C.grw, args.toList, ts.toList with
    | true, [s, x], [t, t'] =>
      match appA C.P st t t' (evO st s) (evO st x) with
      | some (reqs, e, n, src, news) =>
        if dstOk C.N o.dst then
          needs reqs (.grow st.nb e n src news fun x y => k ({ st with bl := (st.nb, ⟨e, .gr n x y, false, 0⟩) :: dropB src.blk st.bl, nb := st.nb + 1 }.put o.dst (.one (.slice st.nb (.lit 0) (.clen n x) (.ctot n x y)))))
        else .fail "put"
      | none => .fail "append"
    | false, [s, x], [t, t'] =>
      match evO st s, evO st x, C.P.underlying t with
      | .one (.const (.slice none 0 0)), .one (.slice b (.lit (.ofNat o0)) (.lit (.ofNat n)) _), some (.slice e) =>
        match getA st.bl b, C.P.info? e, (zeroT C.P e : Option (List (SC ν))) with
        | some ⟨_, .cells cs, _, _⟩, some i, some _ =>
          if Nat.beq t t' && Nat.blt 0 n && Nat.ble (n * i.bytes) 1099511627776 && Nat.ble n 1099511627776 && Nat.ble (o0 + n * i.size) cs.length && dstOk C.N o.dst then
            .app e ((cs.drop o0).take (n * i.size)) n fun x => k (st.put o.dst (.one (.val x)))
          else .fail "append"
        | _, _, _ => .fail "append"
      | _, _, _ => .fail "append"
    | _, _, _ => .fail "append"
  | op =>
    match opNew C.P st.nb (evO st) op with
    | some (reqs, T, ct, v) =>
      if ct.wf st.nb && dstOk C.N o.dst && v.wf (st.nb + 1) then
        needs reqs (.new st.nb (k ({ st with bl := (st.nb, ⟨T, ct, false, 0⟩) :: st.bl, nb := st.nb + 1 }.put o.dst v)))
      else .fail "new"
    | none => .fail "op"

/-- a truth that isn't known is decided, and kept -/
def decideAt (d : Nat) (c : SB ν) (st : St ν) (h : Hints) (k : Bool → St ν → Hints → Tree ν) : Tree ν :=
  match h with
  | .d b :: h => .need c b (k b { st with fr := (d, .one (.bool (.lit b))) :: st.fr } h)
  | .both :: h => .test c (k true { st with fr := (d, .one (.bool (.lit true))) :: st.fr } h) (k false { st with fr := (d, .one (.bool (.lit false))) :: st.fr } h)
  | h => .test c (k true { st with fr := (d, .one (.bool (.lit true))) :: st.fr } h) (k false { st with fr := (d, .one (.bool (.lit false))) :: st.fr } h)
/-- is an operation's guard open? .. -/
inductive Gd (ν : Type) where
  | yes | no | ask (d : Nat) (c : SB ν) | bad
def gdOf (N : Nat) (ops : Array Oper) (o : Oper) (st : St ν) : Gd ν :=
  match o.guard with
  | none => .yes
  | some (j, want) =>
    match (ops[j]?).bind (·.dst) with
    | none => .bad
    | some d =>
      if Nat.blt d N then
      match getA st.fr d with
      | some (.one (.bool (.lit b))) => if b == want then .yes else .no
      | some (.one (.bool c)) => .ask d c
      | some (.tup []) => .no
      | _ => .bad
      else .bad
/-- Is an operation carried out? -/
def guarded (N : Nat) (ops : Array Oper) (o : Oper) (st : St ν) (h : Hints) (yes no : St ν → Hints → Tree ν) : Tree ν :=
  match gdOf N ops o st with
  | .yes => yes st h
  | .no => no st h
  | .ask d c => decideAt d c st h fun b st h => match o.guard with
    | some (_, want) => if b == want then yes st h else no st h
    | none => .fail "guard"
  | .bad => .fail "guard"
def execL (C : Cfg) (ops : Array Oper) : List Oper → St ν → Hints → (St ν → Hints → Tree ν) → Tree ν
  | [], st, h, k => k st h
  | o :: rest, st, h, k =>
    guarded C.N ops o st h (fun st h => doOp C o st fun st' => execL C ops rest st' h k)
      (fun st h => if putOk C.N st o.dst (.tup []) then execL C ops rest (st.put o.dst (.tup [])) h k else .fail "put")

/-! a region that draws its order -/
/-- the blocks that a region stores to -/
def storedTo (ops : Array Oper) (st : St ν) : Nat → Operand → Option (List Nat)
  | 0, _ => none
  | n + 1, .tmp t =>
    match ops.toList.find? fun o => o.dst == some t with
    | some o =>
      match o.op with
      | .alloc _ => some []
      | .indexAddr _ x _ => storedTo ops st n x
      | .fieldAddr _ x _ => storedTo ops st n x
      | .nilCheck x => storedTo ops st n x
      | .move x => storedTo ops st n x
      | _ => none
    | none =>
      match getA st.fr t with
      | some (.one (.ptr b _)) => some [b]
      | some (.one (.slice b _ _ _)) => some [b]
      | _ => none
  | _ + 1, _ => none
def targets (ops : Array Oper) (st : St ν) : List Oper → Option (List Nat)
  | [] => some []
  | o :: l =>
    match o.op with
    | .store _ a _ =>
      match storedTo ops st 6 a, targets ops st l with
      | some b, some r => some (b ++ r)
      | _, _ => none
    | _ => targets ops st l
/-- no function that borrows is called -/
def noBor (bor : List Nat) (o : Oper) : Bool :=
  match o.op with
  | .call { callee := .value (.func g), args := _, argTypes := _ } => !memB g bor
  | .call { callee := .value _, args := _, argTypes := _ } => bor.isEmpty
  | _ => true
def dedupB : List (Nat × Blk ν) → List Nat → List (Nat × Blk ν)
  | [], _ => []
  | (b, blk) :: l, seen => if memB b seen then dedupB l seen else (b, blk) :: dedupB l (b :: seen)
/-- the blocks that no store of the region hits, as they are at its begin -/
def heldB (bor : List Nat) (ops : Array Oper) (st : St ν) : List (Nat × Blk ν) :=
  if ops.toList.all (noBor bor) then
  match targets ops st ops.toList with
  | some l => (dedupB st.bl l).filter fun p => match p.2.ct with | .gr _ _ _ => false | _ => true
  | none => []
  else []
/-- does an operation change what stands in memory for good: a call? -/
def isCall (o : Oper) : Bool := match o.op with | .call { callee := .value _, args := _, argTypes := _ } => true | .call { callee := .builtin .append, args := _, argTypes := _ } => true | _ => false
inductive Tk (ν : Type) where
  | val (reqs : List (SB ν)) (v : AV ν)
  | ext (kd : IntKind) (x : ν) (reqs : List (SB ν)) (v : AV ν)
  | opq (x : ν) (o : SI ν) (ks : List RK) (agg : Bool)
/-- what an operation yields whatever happens beside it -/
def takeV (C : Cfg) (L : List (Nat × Blk ν)) (clean : Bool) (o : Oper) (st : St ν) : Option (Tk ν) :=
  if opsOk st o.op = false then none else
  match opPure C.P (evO st) o.op with
  | some r => if putOk C.N st o.dst r.2 then some (.val r.1 r.2) else none
  | none =>
    match o.op with
    | .load t a => match loadA C.P L t (evO st a) with
      | some (.val reqs v) => if putOk C.N st o.dst v then some (.val reqs v) else none
      | some (.ext kd x reqs v) => if putOk C.N st o.dst v && clean then some (.ext kd x reqs v) else none
      | some (.opq false x ofs ks agg) => if clean then some (.opq x ofs ks agg) else none
      | some (.opq true x ofs ks agg) => none
      | none => none
    | _ => none
inductive Pick (ν : Type) where
  | take (i : Nat) (o : Oper) (t : Tk ν)
  | skip (i : Nat) (o : Oper)
  | none
def pickOf (C : Cfg) (ops : Array Oper) (L : List (Nat × Blk ν)) (clean : Bool) (listed : Array Bool) (st : St ν) : List Nat → Pick ν
  | [] => .none
  | i :: rest =>
    match ops[i]? with
    | none => pickOf C ops L clean listed st rest
    | some o =>
      match gdOf C.N ops o st with
      | .yes =>
        match takeV C L clean o st with
        | some t => if Region.free .any ops listed i then .take i o t else pickOf C ops L clean listed st rest
        | none => pickOf C ops L clean listed st rest
      | .no => if Region.free .any ops listed i && putOk C.N st o.dst (.tup []) then .skip i o else pickOf C ops L clean listed st rest
      | _ => pickOf C ops L clean listed st rest
def storeOut (L : List (Nat × Blk ν)) (o : Oper) (st : St ν) : Bool :=
  match o.op with
  | .store _ a _ => match evO st a with
    | .one (.ptr b _) => (getA L b).isNone
    | _ => false
  | .call { callee := .builtin .append, args := args, argTypes := _ } => match args.toList with
    | a :: _ => match evO st a with
      | .one (.slice b _ _ _) => (getA L b).isNone
      | _ => true
    | [] => true
  | _ => true
/-- a call that borrows: only where nothing is held -/
def borOut (C : Cfg) (L : List (Nat × Blk ν)) (o : Oper) (st : St ν) : Bool :=
  match o.op with
  | .call { callee := .value f, args := _, argTypes := _ } => match target (evO st f) with
    | some (g, _) => !memB g C.bor || L.isEmpty
    | none => false
  | _ => true
def bothL : List (Tree ν) → Tree ν
  | [] => .fail "both"
  | [t] => t
  | t :: l => .both t (bothL l)
def askAll (N : Nat) (ops : Array Oper) : List Nat → St ν → Hints → (St ν → Hints → Tree ν) → Tree ν
  | [], st, h, k => k st h
  | i :: rest, st, h, k =>
    match ops[i]? with
    | none => askAll N ops rest st h k
    | some o =>
      match gdOf N ops o st with
      | .ask d c => decideAt d c st h fun _ st h => askAll N ops rest st h k
      | _ => askAll N ops rest st h k
/-- the flags, evaluated: the kernel then meets them written out -/
def forceL {α : Type} : List Bool → (List Bool → α) → α
  | [], k => k []
  | true :: l, k => forceL l fun m => k (true :: m)
  | false :: l, k => forceL l fun m => k (false :: m)
def execD (C : Cfg) (ops : Array Oper) (L : List (Nat × Blk ν)) : Nat → Bool → Array Bool → St ν → Hints → (St ν → Hints → Tree ν) → Tree ν
  | 0, _, listed, st, h, k => match Region.ready .any ops listed with | [] => k st h | _ => .fail "fuel"
  | n + 1, clean, listed0, st, h, k =>
    forceL listed0.toList fun ll =>
    let listed := ll.toArray
    match Region.ready .any ops listed with
    | [] => k st h
    | rs =>
      askAll C.N ops rs st h fun st h =>
      match pickOf C ops L clean listed st rs with
      | .take i o (.val reqs v) => needs reqs (execD C ops L n clean (listed.setIfInBounds i true) (st.put o.dst v) h k)
      | .take i o (.ext kd x reqs v) => .reads kd x (needs reqs (execD C ops L n clean (listed.setIfInBounds i true) (st.put o.dst v) h k))
      | .take i o (.opq x ofs ks agg) => opqK false x ofs ks agg fun v => if putOk C.N st o.dst v then execD C ops L n clean (listed.setIfInBounds i true) (st.put o.dst v) h k else .fail "put"
      | .skip i o => execD C ops L n clean (listed.setIfInBounds i true) (st.put o.dst (.tup [])) h k
      | .none => bothL (rs.map fun i =>
        match ops[i]? with
        | none => .fail "op"
        | some o => if storeOut L o st && borOut C L o st then
            match gdOf C.N ops o st with
            | .yes => doOp C o st fun st' => execD C ops L n (clean && !isCall o) (listed.setIfInBounds i true) st' h k
            | .no => if putOk C.N st o.dst (.tup []) then execD C ops L n clean (listed.setIfInBounds i true) (st.put o.dst (.tup [])) h k else .fail "put"
            | _ => .fail "guard"
          else .fail "store")

/-! allocations that may come up at any time: carried out when the calls are done -/
def isAllocB (o : Oper) : Bool := match o.op with | .alloc _ => true | _ => false
def lateX (ops : Array Oper) : List Nat := (List.range ops.size).filter fun i => match ops[i]? with
  | some o => isAllocB o && o.guard.isNone && o.after.isEmpty && o.dst.isSome
  | none => false
def dstX (ops : Array Oper) (X : List Nat) : List Nat := X.filterMap fun i => (ops[i]?).bind (·.dst)
/-- waits for none of X -/
def afterNo (X : List Nat) (o : Oper) : Bool := o.after.toList.all fun e => !memB e.on X
def waits (o : Oper) (i : Nat) : Bool := o.after.toList.any fun e => Region.binds .any e && Nat.beq e.on i
/-- waits for i, by way of such as wait for none of X -/
def reach (ops : Array Oper) (X : List Nat) : Nat → Oper → Nat → Bool
  | 0, o, i => waits o i
  | n + 1, o, i => waits o i || o.after.toList.any fun e => Region.binds .any e && (match ops[e.on]? with | some oj => afterNo X oj && reach ops X n oj i | none => false)
/-- waits for another that waits for one of X -/
def waitsB (ops : Array Oper) (X : List Nat) (o : Oper) : Bool :=
  o.after.toList.any fun e => Region.binds .any e && (!memB e.on X && (match ops[e.on]? with | some oj => !afterNo X oj | none => false))
/-- all that wait for one of X wait for r, or for another such -/
def needB (ops : Array Oper) (X : List Nat) (r : Nat) : Bool :=
  (List.range ops.size).all fun i => memB i X || match ops[i]? with | some o => afterNo X o || (waitsB ops X o || reach ops X 6 o r) | none => true
def lateOp (C : Cfg) (ops : Array Oper) (X : List Nat) (i : Nat) : Bool :=
  match ops[i]? with
  | some o =>
    match o.op, o.dst with
    | .alloc T, some d => (match (zeroT C.P T : Option (List (SC OV))) with | some z => z.all (SC.wf 0) | none => false) && Nat.blt d C.N && o.guard.isNone && o.after.isEmpty &&
        X.all fun j => Nat.beq j i || (match (ops[j]?).bind (·.dst) with | some d' => !Nat.beq d d' | none => false)
    | _, _ => false
  | none => false
def otherOp (ops : Array Oper) (X : List Nat) (i : Nat) : Bool :=
  memB i X || match ops[i]? with
  | some o => (match o.dst with | some d => !memB d (dstX ops X) | none => true) && (afterNo X o || X.all (waits o))
  | none => true
def nodupB : List Nat → Bool
  | [] => true
  | i :: l => !memB i l && nodupB l
def lateOk (C : Cfg) (ops : Array Oper) (X : List Nat) : Bool :=
  !X.isEmpty && nodupB X && X.all (lateOp C ops X) && (List.range ops.size).all (otherOp ops X)
def markA (X : List Nat) (l : Array Bool) : Array Bool := X.foldl (fun l i => l.setIfInBounds i true) l
def allocsX (C : Cfg) (ops : Array Oper) : List Nat → St ν → (St ν → Tree ν) → Tree ν
  | [], st, k => k st
  | i :: l, st, k =>
    match ops[i]? with
    | some o =>
      match o.op, o.dst with
      | .alloc T, some d =>
        match (zeroT C.P T : Option (List (SC ν))) with
        | some z => .new st.nb (allocsX C ops l { fr := (d, .one (.ptr st.nb (natI 0))) :: st.fr, bl := (st.nb, ⟨T, .cells z, false, 0⟩) :: st.bl, nb := st.nb + 1 } k)
        | none => .fail "late"
      | _, _ => .fail "late"
    | none => .fail "late"
def execA (C : Cfg) (ops : Array Oper) (L : List (Nat × Blk ν)) (X : List Nat) : Nat → Bool → Array Bool → St ν → Hints → (St ν → Hints → Tree ν) → Tree ν
  | 0, clean, listed, st, h, k =>
    match (Region.ready .any ops listed).filter (fun i => !memB i X) with
    | [] => allocsX C ops X st fun st => execD C ops L 0 clean (markA X listed) st h k
    | _ => .fail "fuel"
  | n + 1, clean, listed0, st, h, k =>
    forceL listed0.toList fun ll =>
    let listed := ll.toArray
    match (Region.ready .any ops listed).filter (fun i => !memB i X) with
    | [] => allocsX C ops X st fun st => execD C ops L (n + 1) clean (markA X listed) st h k
    | rs =>
      askAll C.N ops rs st h fun st h =>
      match pickOf C ops L clean listed st rs with
      | .take i o (.val reqs v) => needs reqs (execA C ops L X n clean (listed.setIfInBounds i true) (st.put o.dst v) h k)
      | .take i o (.ext kd x reqs v) => .reads kd x (needs reqs (execA C ops L X n clean (listed.setIfInBounds i true) (st.put o.dst v) h k))
      | .take i o (.opq x ofs ks agg) => opqK false x ofs ks agg fun v => if putOk C.N st o.dst v then execA C ops L X n clean (listed.setIfInBounds i true) (st.put o.dst v) h k else .fail "put"
      | .skip i o => execA C ops L X n clean (listed.setIfInBounds i true) (st.put o.dst (.tup [])) h k
      | .none => match rs.any (needB ops X) with
       | false => .fail "late"
       | true => bothL (rs.map fun i =>
        match ops[i]? with
        | none => .fail "op"
        | some o => if storeOut L o st && borOut C L o st then
            match gdOf C.N ops o st with
            | .yes => doOp C o st fun st' => execA C ops L X n (clean && !isCall o) (listed.setIfInBounds i true) st' h k
            | .no => if putOk C.N st o.dst (.tup []) then execA C ops L X n clean (listed.setIfInBounds i true) (st.put o.dst (.tup [])) h k else .fail "put"
            | _ => .fail "guard"
          else .fail "store")

/-! loops -/
def dstsC : Code → List Nat
  | .region _ ops _ => ops.toList.filterMap (·.dst)
  | .seq a b => dstsC a ++ dstsC b
  | .cond c a b => (match c with | .tmp d => [d] | _ => []) ++ (dstsC a ++ dstsC b)
  | .block _ b => dstsC b
  | .loop b => dstsC b
  | _ => []
def ukOf : LV ν → Option UK
  | .cell (.int k _) => some (.i k)
  | .cell (.bool _) => some .b
  | .cell (.str _) => some .s
  | .cell (.val _) => some .x
  | .cell (.ext _ _) => some .x
  | .cell (.const (.slice _ _ _)) => some .x
  | .lst _ => some .l
  | _ => none
def slotLV (st : St ν) (t : Nat) : Option (LV ν) :=
  match getA st.fr t with
  | some (.one c) => if c.wf 0 then some (.cell c) else none
  | _ => none
def blkLV (st : St ν) (b : Nat) : Option (LV ν) :=
  match getA st.bl b with
  | some ⟨_, .arr _ l, false, _⟩ => some (.lst l)
  | _ => none
def lvs (st : St ν) (slots blks : List Nat) : Option (List (LV ν)) :=
  match slots.mapM (slotLV st), blks.mapM (blkLV st) with
  | some a, some b => some (a ++ b)
  | _, _ => none
def ubinds : List UK → (List ν → Tree ν) → Tree ν
  | [], k => k []
  | .i kd :: l, k => .ui kd fun x => ubinds l fun xs => k (x :: xs)
  | .b :: l, k => .ub fun x => ubinds l fun xs => k (x :: xs)
  | .s :: l, k => .us fun x => ubinds l fun xs => k (x :: xs)
  | .x :: l, k => .ux fun x => ubinds l fun xs => k (x :: xs)
  | .l :: l, k => .ul fun x => ubinds l fun xs => k (x :: xs)
def varC : UK → ν → SC ν
  | .i k, x => .int k (.var x)
  | .b, x => .bool (.var x)
  | .s, x => .str (.var x)
  | .x, x => .val x
  | .l, x => .val x
/-- the frame at a loop's head -/
def headFr : List Nat → List UK → List ν → List (Nat × AV ν) → List (Nat × AV ν)
  | t :: ts, u :: us, x :: xs, fr => (t, .one (varC u x)) :: headFr ts us xs fr
  | _, _, _, fr => fr
def headBl (bl0 : List (Nat × Blk ν)) : List Nat → List ν → List (Nat × Blk ν) → List (Nat × Blk ν)
  | b :: bs, x :: xs, bl =>
    match getA bl0 b with
    | some ⟨T, .arr k _, g, v⟩ => (b, ⟨T, .arr k (.var x), g, v + 1⟩) :: headBl bl0 bs xs bl
    | _ => headBl bl0 bs xs bl
  | _, _, bl => bl
def dropFr (ds : List Nat) (fr : List (Nat × AV ν)) : List (Nat × AV ν) := fr.filter fun p => !memB p.1 ds
def headSt (st : St ν) (ds slots blks : List Nat) (uks : List UK) (xs : List ν) : St ν :=
  { fr := headFr slots uks xs (dropFr ds st.fr), bl := headBl st.bl blks (xs.drop slots.length) st.bl, nb := st.nb }
/-- the blocks that a round leaves as they are -/
def sameBl (st st' : St ν) (blks : List Nat) : Bool :=
  st.bl.all fun p => memB p.1 blks || (match getA st.bl p.1, getA st'.bl p.1 with
    | some b, some b' => Nat.beq b'.ver b.ver && b'.giv == b.giv
    | _, _ => false)
def dedupN : List Nat → List Nat → List Nat
  | [], _ => []
  | t :: l, seen => if memB t seen then dedupN l seen else t :: dedupN l (t :: seen)
/-- how a loop is taken: its variables, and the hints behind; or round by round -/
def loopHint (b : Code) (st : St ν) : Hints → Option (List Nat × List Nat × Hints)
  | .inv slots blks :: h => some (slots, blks, h)
  | .auto :: h => some ((dedupN (dstsC b) []).filter (fun t => (slotLV st t).isSome), (dedupN (st.bl.map (·.1)) []).filter (fun b => (blkLV st b).isSome), h)
  | _ => none
/-- the row that grows in a loop -/
inductive GE (ν : Type) where
  | nil
  | gr (b : Nat) (x t : ν) (reqs : List (SB ν))
def growLV (e : TypeId) (s : Nat) (st : St ν) (t : Nat) : Option (GE ν) :=
  match getA st.fr t with
  | some (.one (.const (.slice none 0 0))) => some .nil
  | some (.one (.slice b off n c)) => (growA st.bl e s b off n c).map fun r => .gr b r.2.1 r.2.2 r.1
  | _ => none
def GE.reqs : GE ν → List (SB ν)
  | .nil => []
  | .gr _ _ _ r => r
def GE.lv : GE ν → LV ν
  | .nil => .gnil
  | .gr _ x _ _ => .gs x
def GE.blk : GE ν → List Nat
  | .nil => []
  | .gr b _ _ _ => [b]
def GE.isNil : GE ν → Bool
  | .nil => true
  | _ => false
def GE.ok (nil : Bool) (nb : Nat) : GE ν → Bool
  | .nil => nil
  | .gr b _ _ _ => Nat.ble nb b
def appT (P : Program) : Code → Option (TypeId × Nat)
  | .region _ ops _ => ops.toList.findSome? fun o => match o.op with
    | .call { callee := .builtin .append, args := _, argTypes := ts } => match ts.toList with
      | t :: _ => match P.underlying t with
        | some (.slice e) => (szT P e).map fun n => (e, n)
        | _ => none
      | [] => none
    | _ => none
  | .seq a b => match appT P a with
    | some r => some r
    | none => appT P b
  | .cond _ a b => match appT P a with
    | some r => some r
    | none => appT P b
  | .block _ b => appT P b
  | .loop b => appT P b
  | _ => none
def growSlot (P : Program) (b : Code) (st : St ν) (g : List Nat) : Option (Nat × TypeId × Nat × GE ν) :=
  match appT P b with
  | some (e, s) =>
    match g, (dedupN (dstsC b) []).filter (fun t => (growLV e s st t).isSome) with
    | [t], _ => (growLV e s st t).map fun x => (t, e, s, x)
    | [], [t] => (growLV e s st t).map fun x => (t, e, s, x)
    | _, _ => none
  | none => none
def ownHint : Hints → Option (List Nat × Hints)
  | .own g :: h => some (g, h)
  | _ => none
def nilC : AV ν := .one (.const (.slice none 0 0))
def headN (st : St ν) (g : Nat) : St ν := { st with fr := (g, nilC) :: st.fr }
def headG (st : St ν) (g : Nat) (T : TypeId) (s : Nat) (x t : ν) : St ν := { fr := (g, .one (.slice st.nb (.lit 0) (.clen s x) (.ctot s x t))) :: st.fr, bl := (st.nb, ⟨T, .gr s x t, false, 0⟩) :: st.bl, nb := st.nb + 1 }
def gSt (st : St ν) (ge : GE ν) : St ν := { st with bl := dropB ge.blk st.bl }
def gSlots (b : Code) (st0 : St ν) (g : Nat) : List Nat := (dedupN (dstsC b) []).filter (fun t => !Nat.beq t g && (slotLV st0 t).isSome)
def gBlks (st0 : St ν) : List Nat := (dedupN (st0.bl.map (·.1)) []).filter (fun b => (blkLV st0 b).isSome)
def kbG (T : TypeId) (s : Nat) (g : Nat) (st0 : St ν) (slots blks : List Nat) (uks : List UK) (nil : Bool) (k : Ex → St ν → Hints → Tree ν) (e : Ex) (st' : St ν) (h : Hints) : Tree ν :=
  match e with
  | .nrm =>
    match lvs st' slots blks, growLV T s st' g with
    | some vs, some ge => if (vs.mapM ukOf) = some uks ∧ sameBl st0 st' blks = true ∧ ge.ok nil st0.nb = true then needs ge.reqs (.again (vs ++ [ge.lv])) else .fail "again"
    | _, _ => .fail "again"
  | e => .out (k e st' h)
/-- a loop that is taken round by round, by a hint -/
def rollH : Hints → Hints
  | .roll :: h => h
  | h => h
/-- two ways that only reckon, brought together: on numbers -/
def pureL (C : Cfg) : List Oper → St ν → Option (St ν)
  | [], st => some st
  | o :: l, st =>
    if o.guard.isNone && opsOk st o.op then
      match opPure C.P (evO st) o.op with
      | some ([], v) => if putOk C.N st o.dst v then pureL C l (st.put o.dst v) else none
      | _ => none
    else none
def pureC (C : Cfg) : Code → St ν → Option (St ν)
  | .skip, st => some st
  | .seq a b, st => match pureC C a st with
    | some st' => pureC C b st'
    | none => none
  | .region _ ops false, st => pureL C ops.toList st
  | _, _ => none
def mergeF (f : SI ν → SI ν → SI ν) (s1 s2 : St ν) : List Nat → List (Nat × AV ν)
  | [] => []
  | d :: ds => match getA s1.fr d, getA s2.fr d with
    | some (.one (.int k a)), some (.one (.int k' b)) => if k = k' then (d, .one (.int k (f a b))) :: mergeF f s1 s2 ds else mergeF f s1 s2 ds
    | _, _ => mergeF f s1 s2 ds
def mergeS (c : SB ν) (st s1 s2 : St ν) (ds : List Nat) : Option (St ν) :=
  match c with
  | .lt l r => some { st with fr := mergeF (.iflt l r) s1 s2 ds ++ dropFr ds st.fr }
  | .eq l r => some { st with fr := mergeF (.ifeq l r) s1 s2 ds ++ dropFr ds st.fr }
  | _ => none
def mrgH : Hints → Option Hints
  | .mrg :: h => some h
  | _ => none
/-- a region's last operation, carried out behind all the others -/
def lstH (h : Hints) : Bool := h.any fun | .lst => true | _ => false
def backOk (o : Oper) (j : Nat) : Bool := o.after.toList.all fun e => !Region.binds .any e || Nat.blt e.on j
def lastOk (ops : Array Oper) : Option Oper :=
  match ops[ops.size - 1]? with
  | some oz =>
    if (List.range (ops.size - 1)).all (fun j => waits oz j && match ops[j]? with
        | some o => (match o.guard with | some (g, _) => Nat.blt g (ops.size - 1) | none => true) && backOk o j
        | none => true) && backOk oz (ops.size - 1) then some oz else none
  | none => none
def forceS {α β : Type} : List α → (List α → β) → β
  | [], k => k []
  | a :: l, k => forceS l fun m => k (a :: m)
def regD (C : Cfg) (ops : Array Oper) (st : St ν) (h : Hints) (k : St ν → Hints → Tree ν) : Tree ν :=
  match lateOk C ops (lateX ops) with
  | true => execA C ops (heldB C.bor ops st) (lateX ops) (ops.size - (lateX ops).length) true (Array.replicate ops.size false) { st with fr := dropFr (dstX ops (lateX ops)) st.fr } h k
  | false => execD C ops (heldB C.bor ops st) ops.size true (Array.replicate ops.size false) st h k
def exec (C : Cfg) : Nat → Code → St ν → Hints → (Ex → St ν → Hints → Tree ν) → Tree ν
  | 0, _, _, _, _ => .fail "fuel"
  | _ + 1, .skip, st, h, k => k .nrm st h
  | n + 1, .seq a b, st, h, k => exec C n a st h fun e st h => match e with
    | .nrm => exec C n b st h k
    | e => k e st h
  | n + 1, .cond (.tmp d) t e, st, h, k =>
    match getA st.fr d with
    | some (.one (.bool (.lit b))) => match b with
      | true => exec C n t st h k
      | false => exec C n e st h k
    | some (.one (.bool c)) => if Nat.blt d C.N then
      match mrgH h with
      | some h' => match pureC C t st, pureC C e st with
        | some s1, some s2 => match mergeS c st s1 s2 (dstsC t ++ dstsC e) with
          | some s => k .nrm s h'
          | none => .fail "merge"
        | _, _ => .fail "merge"
      | none => decideAt d c st h fun b st h => match b with
        | true => exec C n t st h k
        | false => exec C n e st h k
      else .fail "cond"
    | _ => .fail "cond"
  | n + 1, .cond (.const (.bool b)) t e, st, h, k => match b with
    | true => exec C n t st h k
    | false => exec C n e st h k
  | n + 1, .block id b, st, h, k => exec C n b st h fun e st h => match e with
    | .exit i => if Nat.beq i id then k .nrm st h else k (.exit i) st h
    | e => k e st h
  | n + 1, .loop b, st, h, k =>
    match ownHint h with
    | some (gs, h') =>
      match growSlot C.P b st gs with
      | some (g, T, s, ge) =>
        match Nat.blt g C.N with
        | true =>
          match lvs (gSt st ge) (gSlots b (gSt st ge) g) (gBlks (gSt st ge)) with
          | some init =>
            match init.mapM ukOf with
            | some uks =>
              needs ge.reqs (.loop (init ++ [ge.lv]) (ubinds uks fun xs => .ug st.nb s ge.isNil
                (fun y => match ge.isNil with
                  | true => .hd (xs ++ [y]) (exec C n b (headN (headSt (gSt st ge) (dstsC b) (gSlots b (gSt st ge) g) (gBlks (gSt st ge)) uks xs) g) h' (kbG T s g (gSt st ge) (gSlots b (gSt st ge) g) (gBlks (gSt st ge)) uks ge.isNil k))
                  | false => .fail "own")
                (fun y t => .hd (xs ++ [y]) (exec C n b (headG (headSt (gSt st ge) (dstsC b) (gSlots b (gSt st ge) g) (gBlks (gSt st ge)) uks xs) g T s y t) h' (kbG T s g (gSt st ge) (gSlots b (gSt st ge) g) (gBlks (gSt st ge)) uks ge.isNil k)))))
            | none => .fail "loop"
          | none => .fail "loop"
        | false => .fail "loop"
      | none => .fail "grows"
    | none =>
    match loopHint b st h with
    | some (slots, blks, h') =>
      match lvs st slots blks with
      | some init =>
        match init.mapM ukOf with
        | some uks =>
          .loop init (ubinds uks fun xs => .hd xs (exec C n b (headSt st (dstsC b) slots blks uks xs) h' fun e st' h => match e with
            | .nrm =>
              match lvs st' slots blks with
              | some vs => if (vs.mapM ukOf) = some uks ∧ sameBl st st' blks = true then .again vs else .fail "again"
              | none => .fail "again"
            | e => .out (k e st' h)))
        | none => .fail "loop"
      | none => .fail "loop"
    | none => exec C n b st (rollH h) fun e st h => match e with
      | .nrm => exec C n (.loop b) st h k
      | e => k e st h
  | _ + 1, .exit id, st, h, k => k (.exit id) st h
  | _ + 1, .ret, st, h, k => k .ret st h
  | _ + 1, .region _ ops draw, st, h, k =>
    match draw with
    | true => if Region.noSelect ops then
        match (if lstH h then lastOk ops else none) with
        | some oz => forceS ops.pop.toList fun l => regD C l.toArray st h fun st h => execL C ops [oz] st h fun st h => k .nrm st h
        | none => regD C ops st h fun st h => k .nrm st h
      else .fail "select"
    | false => execL C ops ops.toList st h fun st h => k .nrm st h
  | _ + 1, _, _, _, _ => .fail "code"

/-- the results at the end -/
def resV (P : Program) (st : St ν) : ResultVar → Option (AV ν)
  | .tmp t => getA st.fr t
  | .cell a t => match getA st.fr a with
    | some p => match loadA P st.bl t p with
      | some (.val [] v) => some v
      | _ => none
    | none => none
def finish (P : Program) (rs : List ResultVar) (st : St ν) : Option (AV ν) :=
  match rs with
  | [r] => resV P st r
  | rs => (rs.mapM fun r => (resV P st r).bind AV.comp).map .tup
/-- what a function does with memory: nothing of note; it is lent block 0; it hands back a slice over a block of its own -/
inductive Md where
  | plain | bor | own (T : TypeId) (kd : IntKind)
def Md.isBor : Md → Bool | .bor => true | _ => false
/-- at the end: what is handed back is given; a borrowed block (number 0) says what it holds; so does a block handed over -/
def endOf (C : Cfg) (md : Md) (fn : Func) (st : St ν) : Tree ν :=
  match finish C.P fn.results.toList st with
  | some v =>
    match md with
    | .own T kd =>
      match v with
      | .one (.slice b (.lit (.ofNat 0)) _ _) =>
        match getA st.bl b with
        | some ⟨T', .arr kd' l, false, _⟩ => if Nat.beq T' T && kd' == kd then .ret v (some l) else .fail "own"
        | _ => .fail "own"
      | _ => .fail "own"
    | md =>
    giveAll 60 ((ptrsA v).filter fun b => !(md.isBor && Nat.beq b 0)) st fun st' =>
    match md.isBor with
    | false => .ret v none
    | true => match getA st'.bl 0 with
      | some ⟨_, .arr _ l, false, _⟩ => .ret v (some l)
      | _ => .fail "borrowed"
  | none => .fail "results"
def run (C : Cfg) (fn : Func) (st : St ν) (md : Md) (fuel : Nat) (h : Hints) : Tree ν :=
  match fn.body with
  | none => .fail "body"
  | some c =>
    exec C fuel c st h fun e st h =>
      match e with
      | .exit _ => .fail "exit"
      | .nrm => endOf C md fn st
      | .ret => endOf C md fn st
def startSt (args : List (AV ν)) (bl : List (Nat × Blk ν)) : St ν := { fr := args.zipIdx.map (fun p => (p.2, p.1)), bl := bl, nb := bl.length }
end
end Go.Dx
