/- The symbolic executor: operations, regions, code, calls. -/
import Derived.Test.YtinfmmofcadjgaaZa
namespace Go.Proofs.Ytinfmmofcadjgaa
open Go.RowKit

/-! ### Which ids a value names -/
def S0.ids : S0 → List Nat
  | .ptr id _ => [id] | .sl id _ _ _ => [id] | .clo _ cap => cap.map (·.1) | .yl id => [id] | _ => []
def S.ids : S → List Nat
  | .z s => s.ids
  | .iface _ _ cs => cs.flatMap S0.ids
  | .meth _ _ _ cs => cs.flatMap S0.ids
def V2.ids : V2 → List Nat
  | .one s => s.ids
  | .agg cs => cs.flatMap S.ids
def V.ids : V → List Nat
  | .v x => x.ids
  | .tup l => l.flatMap V2.ids
def Blk.ids : Blk → List Nat
  | .cells _ cs => cs.flatMap S.ids
  | .row _ cs => cs.flatMap S.ids
  | .loop _ _ tm _ _ _ df => df :: tm.flatMap V.ids
  | _ => []
def S0.solid : S0 → Bool
  | .any => false
  | .const v => scalar v
  | _ => true
def S.solid : S → Bool
  | .z s => s.solid
  | .iface _ _ _ => true
  | .meth _ _ _ _ => true
def V2.solid : V2 → Bool
  | .one s => s.solid
  | .agg cs => cs.all S.solid

def opV (tm : List V) : Operand → V
  | .tmp t => tm.getD t V.any
  | .const v => .v (cV2 v)
  | .func f => .s0 (.clo f [])
  | .global _ => V.any

/-! ### Types -/
def kindsL (f : TypeId → Option (List CK)) : List Field → Option (List CK)
  | [] => some []
  | x :: r => match f x.type, kindsL f r with
    | some a, some b => some (a ++ b)
    | _, _ => none
def kinds (P : Program) : Nat → TypeId → Option (List CK)
  | 0, _ => none
  | n + 1, t => match P.underlying t with
    | some (.int k) => some [.int k]
    | some .bool => some [.bool]
    | some (.slice e) => (kinds P n e).map fun l => [.sl l]
    | some (.struct fs) => kindsL (kinds P n) fs.toList
    | some (.array m e) => (kinds P n e).map fun l => (List.replicate m l).flatten
    | _ => none
/-- The kinds of a type's cells, as many as it has. -/
def kindsOf (P : Program) (t : TypeId) : Option (List CK) := match kinds P 20 t with | some ks => if Nat.beq ks.length (P.cellsOf t) then some ks else none | none => none
def isAggT (P : Program) (t : TypeId) : Bool := match P.underlying t with | some (.struct _) | some (.array _ _) => true | _ => false
def rdS (x : X) (i : E) (off : Nat) : CK → S
  | .int k => .z (.int k (.rd x i off))
  | .bool => .z (.bool (.rd x i off))
  | .sl ks => .z (.ext ks (.rd x i off) false)
def rdL (x : X) (i : E) : Nat → List CK → List S
  | _, [] => []
  | off, k :: ks => rdS x i off k :: rdL x i (off + 1) ks
/-- A part of a struct or an array. -/
def partS (P : Program) (t : TypeId) (cs : List S) (off : Nat) : Option V2 :=
  match P.underlying t with
  | none => none
  | some _ => if isAggT P t then (if off + P.cellsOf t ≤ cs.length then some (.agg ((cs.drop off).take (P.cellsOf t))) else none)
    else (cs[off]?).map .one
def eqFs (P : Program) (f : TypeId → V2 → V2 → Option B) (xs ys : List S) : List Field → Option B
  | [] => some (.lit true)
  | fd :: r => if fd.name = "_" then none else
    match partS P fd.type xs fd.offset, partS P fd.type ys fd.offset with
    | some p, some q => match f fd.type p q, eqFs P f xs ys r with
      | some a, some b => some (.andS a b)
      | _, _ => none
    | _, _ => none
/-- '==' on integers, truth values, structs of them. -/
def eqV2 (P : Program) : Nat → TypeId → V2 → V2 → Option B
  | 0, _, _, _ => none
  | n + 1, t, x, y => match P.underlying t, x, y with
    | some (.int _), .one (.z (.int j a)), .one (.z (.int k b)) => if j = k then some (.cmpS .eql a b) else none
    | some .bool, .one (.z (.bool a)), .one (.z (.bool b)) => some (.eqS a b)
    | some (.struct fs), .agg xs, .agg ys => if P.stoodInHeld t then none else eqFs P (eqV2 P n) xs ys fs.toList
    | _, _, _ => none

def setRange (cs : List S) (off : Nat) (new : List S) : List S := cs.take off ++ new ++ cs.drop (off + new.length)
def fillS (place : Nat → Option (Nat × Nat)) (cells : List S) : List (Nat × V2) → Option (List S)
  | [] => some cells
  | (i, v) :: rest => match place i with
    | none => none
    | some (off, size) => if v.cells.length ≠ size || off + v.cells.length > cells.length || !v.solid then none else fillS place (setRange cells off v.cells) rest
def builtS (P : Program) (t : TypeId) (parts : List (Nat × V2)) : Option (List S) :=
  match P.info? t, P.underlying t with
  | some it, some (.array _ e) =>
    match it.zero, P.info? e with
    | some z, some ie => fillS (fun i => some (i * ie.size, ie.size)) (cV2 z).cells parts
    | _, _ => none
  | some it, some (.struct fields) =>
    match it.zero, fields.toList.mapM (fun f => (P.info? f.type).map fun i => (f.offset, i.size)) with
    | some z, some places => fillS (places.toArray[·]?) (cV2 z).cells parts
    | _, _ => none
  | _, _ => none
def toV2 : V → Option V2
  | .v x => some x
  | .tup _ => none
def toV2s : List (Nat × V) → Option (List (Nat × V2))
  | [] => some []
  | (i, .v x) :: r => (toV2s r).map ((i, x) :: ·)
  | _ => none
def S0s : List S → Option (List S0)
  | [] => some []
  | .z s :: r => (S0s r).map (s :: ·)
  | _ => none
def ptrs : List V → Option (List (Nat × Nat))
  | [] => some []
  | .v (.one (.z (.ptr id off))) :: r => (ptrs r).map ((id, off) :: ·)
  | _ => none
def v2s : List V → Option (List V2)
  | [] => some []
  | .v x :: r => (v2s r).map (x :: ·)
  | _ => none

abbrev PR := Option (List Ob × V)
def okV (v : V) : PR := some ([], v)

def shrS (k : IntKind) (a b : E) : PR := match b with
  | .lit n => if 0 ≤ n then okV (iV k (.arS .shr k a (.lit n))) else none
  | _ => none
def binS (P : Program) (o : BinOp) (t : TypeId) : V → V → PR
  | .v (.one (.z (.int k a))), .v (.one (.z (.int k' b))) =>
    if o = .shr then shrS k a b else if k = k' then match o with
      | .add | .sub | .mul => okV (iV k (.arS o k a b))
      | .quo | .rem => match B.cmpS .neq b (.lit 0) with
        | .lit true => okV (iV k (.arS o k a b))
        | .lit false => none
        | c => some ([.tru c], iV k (.arS o k a b))
      | .eql | .neq | .lss | .leq | .gtr | .geq => okV (bV (.cmpS o a b))
      | _ => none
    else none
  | .v (.one (.z (.bool a))), .v (.one (.z (.bool b))) =>
    match P.underlying t, o with
    | some .bool, .eql => okV (bV (.eqS a b))
    | some .bool, .neq => okV (bV (B.eqS a b).notS)
    | _, _ => none
  | .v (.agg xs), .v (.agg ys) =>
    if !P.eqGuardType P.depth t then match o with
      | .eql => (eqV2 P 20 t (.agg xs) (.agg ys)).map fun b => ([], bV b)
      | .neq => (eqV2 P 20 t (.agg xs) (.agg ys)).map fun b => ([], bV b.notS)
      | _ => none
    else none
  | _, _ => none
def unS (o : UnOp) : V → PR
  | .v (.one (.z (.int k a))) => match o with | .neg => okV (iV k (.arS .sub k (.lit 0) a)) | _ => none
  | .v (.one (.z (.bool b))) => match o with | .not => okV (bV b.notS) | _ => none
  | _ => none
def convS (P : Program) (src dst : TypeId) : V → PR
  | .v (.one (.z (.int _ a))) => match P.underlying src, P.underlying dst with | some _, some (.int k) => okV (iV k (.wrS k a)) | _, _ => none
  | _ => none
def fieldAddrS (P : Program) (t : TypeId) (f : Nat) (v : V) : PR :=
  match P.underlying t with
  | some (.struct fs) => match fs[f]? with
    | some fd => if P.cellsOf fd.type = 0 then none else match P.info? fd.type, v with
      | some _, .v (.one (.z (.ptr id off))) => okV (.s0 (.ptr id (off + fd.offset)))
      | some _, .v (.one (.z (.eptr ks x i off))) => okV (.s0 (.eptr ks x i (off + fd.offset)))
      | _, _ => none
    | none => none
  | _ => none
def fieldS (P : Program) (t : TypeId) (f : Nat) (v : V) : PR :=
  match P.underlying t with
  | some (.struct fs) => match fs[f]?, v with
    | some fd, .v (.agg cs) => (partS P fd.type cs fd.offset).map fun x => ([], .v x)
    | _, _ => none
  | _ => none
def indexAddrS (P : Program) (t : TypeId) (v : V) (i : V) : PR :=
  match P.underlying t, v, i with
  | some (.slice e), .v (.one (.z (.sl id off len _))), .v (.one (.z (.int _ (.lit n)))) =>
    if (P.info? e).isSome && decide (0 ≤ n) && decide (n < (len : Int)) then okV (.s0 (.ptr id (off + n.toNat * P.cellsOf e))) else none
  | some (.slice e), .v (.one (.z (.ext ks x _))), .v (.one (.z (.int _ n))) =>
    if (P.info? e).isSome && Nat.beq ks.length (P.cellsOf e) then some ([.tru (.cmpS .leq (.lit 0) n), .tru (.cmpS .lss n (.len x))], .s0 (.eptr ks x n 0)) else none
  | some (.array m e), .v (.one (.z (.ptr id off))), .v (.one (.z (.int _ (.lit n)))) =>
    if (P.info? e).isSome && decide (0 ≤ n) && decide (n < (m : Int)) then okV (.s0 (.ptr id (off + n.toNat * P.cellsOf e))) else none
  | _, _, _ => none
def indexS (P : Program) (t : TypeId) (v : V) (i : V) : PR :=
  match P.underlying t, v, i with
  | some (.array m e), .v (.agg cs), .v (.one (.z (.int _ (.lit n)))) =>
    if (P.info? e).isSome && decide (0 ≤ n) && decide (n < (m : Int)) then (partS P e cs (n.toNat * P.cellsOf e)).map fun x => ([], .v x) else none
  | _, _, _ => none
def makeIfaceS (P : Program) (t : TypeId) (v : V) : PR :=
  match P.underlying t, v with
  | some (.interface _), _ => none
  | some _, .v (.one (.z s)) => okV (.v (.one (.iface t false [s])))
  | some _, .v (.agg cs) => (S0s cs).map fun l => ([], .v (.one (.iface t true l)))
  | _, _ => none
def unface (agg : Bool) (cs : List S0) : Option V2 :=
  if agg then some (.agg (cs.map .z)) else match cs with | [s] => some (.one (.z s)) | _ => none
def typeAssertS (P : Program) (asserted : TypeId) (ok : Bool) (v : V) : PR :=
  match P.underlying asserted, v with
  | some (.interface _), _ => none
  | some _, .v (.one (.iface t agg cs)) =>
    if t = asserted then (unface agg cs).map fun x => ([], if ok then .tup [x, .one (.z (.bool (.lit true)))] else .v x)
    else if ok then match P.info? asserted with
      | some i => i.zero.map fun z => ([], .tup [cV2 z, .one (.z (.bool (.lit false)))])
      | none => none
    else none
  | _, _ => none
def isPtrT : TypeDesc → Bool | .pointer _ => true | _ => false
/-- The function of a method of a value's type. -/
def methodS (P : Program) (t : TypeId) (name : String) : Option FuncId :=
  match P.info? t, P.underlying t with
  | some i, some d => match i.methods.find? (·.name == name) with
    | some m => if m.path.isEmpty then match m.func with
      | some (f, pr) => if pr = isPtrT d then some f else none
      | none => none
      else none
    | none => none
  | _, _ => none
def nilCheckM (P : Program) (v : V) : Option V :=
  match v with
  | .v (.one (.meth nm t _ _)) => if (methodS P t nm).isSome then some v else none
  | _ => none
def methS (nm : String) : V → PR
  | .v (.one (.iface t a c)) => okV (.v (.one (.meth nm t a c)))
  | _ => none
def nilCheckS : V → PR
  | .v (.one (.z (.ptr id off))) => okV (.s0 (.ptr id off))
  | .v (.one (.z (.eptr ks x i off))) => okV (.s0 (.eptr ks x i off))
  | .v (.one (.z (.clo f c))) => okV (.s0 (.clo f c))
  | .v (.one (.iface t a c)) => okV (.v (.one (.iface t a c)))
  | _ => none
def lenS (P : Program) (t : TypeId) (v : V) : PR :=
  match P.underlying t, v with
  | some (.slice _), .v (.one (.z (.sl _ _ len _))) => okV (iV .i64 (.lit len))
  | some (.slice _), .v (.one (.z (.const (.slice _ n _)))) => okV (iV .i64 (.lit n))
  | some (.slice _), .v (.one (.z (.ext _ x _))) => okV (iV .i64 (.len x))
  | some (.array n _), _ => okV (iV .i64 (.lit n))
  | _, _ => none
def capS (P : Program) (t : TypeId) (v : V) : PR :=
  match P.underlying t, v with
  | some (.slice _), .v (.one (.z (.sl _ _ _ (some c)))) => okV (iV .i64 (.lit c))
  | some (.slice _), .v (.one (.z (.const (.slice _ _ c)))) => okV (iV .i64 (.lit c))
  | some (.slice _), .v (.one (.z (.ext _ x true))) => okV (iV .i64 (.len x))
  | _, _ => none
def foldE (f : E → E → E) (k : IntKind) : E → List V → PR
  | a, [] => okV (iV k a)
  | a, .v (.one (.z (.int k' b))) :: r => if k = k' then foldE f k (f a b) r else none
  | _, _ => none
def builtinS (P : Program) (b : Builtin) (ts : Array TypeId) (vs : List V) : PR :=
  match b, vs with
  | .len, [v] => (ts[0]?).bind fun t => lenS P t v
  | .cap, [v] => (ts[0]?).bind fun t => capS P t v
  | .max, .v (.one (.z (.int k a))) :: r => foldE .mxS k a r
  | .min, .v (.one (.z (.int k a))) :: r => foldE .mnS k a r
  | _, _ => none
def boundN (d : Nat) : Option V → Option Nat
  | none => some d
  | some (.v (.one (.z (.int _ (.lit n))))) => if 0 ≤ n then some n.toNat else none
  | _ => none
def boundE (d : E) : Option V → Option E
  | none => some d
  | some (.v (.one (.z (.int _ n)))) => some n
  | _ => none
def isZero (o : Option V) : Bool := match o with | none => true | some (.v (.one (.z (.int _ (.lit 0))))) => true | _ => false
def sameE (o : Option V) (h : E) : Bool := match o with | some (.v (.one (.z (.int _ n)))) => n.same h | _ => false
def sliceS (P : Program) (t : TypeId) (v : V) (lo hi mx : Option V) : PR :=
  match P.underlying t, v with
  | some (.slice e), .v (.one (.z (.sl id off len (some c)))) =>
    match boundN 0 lo, boundN len hi, boundN c mx with
    | some l, some h, some m => if decide (l ≤ h) && decide (h ≤ m) && decide (m ≤ c) && (P.info? e).isSome && (mx.isNone || hi.isSome) then okV (.s0 (.sl id (if l = m then off else off + l * P.cellsOf e) (h - l) (some (m - l)))) else none
    | _, _, _ => none
  | some (.array n e), .v (.one (.z (.ptr id off))) =>
    match lo, hi, mx with
    | none, none, none => if decide (0 < n) && (P.info? e).isSome then okV (.s0 (.sl id off n (some n))) else none
    | _, _, _ => none
  | some (.slice e), .v (.one (.z (.const (.slice none 0 0)))) => if isZero lo && isZero hi && isZero mx && (P.info? e).isSome && (mx.isNone || hi.isSome) then okV (.s0 (.const (.slice none 0 0))) else none
  | some (.slice e), .v (.one (.z (.ext ks x f))) =>
    match boundE (.lit 0) lo, boundE (.len x) hi with
    | some l, some h => if (P.info? e).isSome && Nat.beq ks.length (P.cellsOf e) && (mx.isNone || hi.isSome && sameE mx h) then
        some ([.tru (.cmpS .leq (.lit 0) l), .tru (.cmpS .leq l h), .tru (.cmpS .leq h (.len x))], .s0 (.ext ks (.sub x l h) (mx.isSome || f && h.same (.len x)))) else none
    | _, _ => none
  | _, _ => none

/-- An operation that neither looks at memory nor turns it. -/
def pureOp (P : Program) (g : Operand → V) : Op → PR
  | .move x => okV (g x)
  | .assign x => okV (g x)
  | .build t parts => (toV2s (parts.toList.map fun (i, x) => (i, g x))).bind fun l => (builtS P t l).map fun cs => ([], .v (.agg cs))
  | .nilCheck x => match nilCheckM P (g x) with | some v => okV v | none => nilCheckS (g x)
  | .binOp o t x y _ => binS P o t (g x) (g y)
  | .unOp o _ x => unS o (g x)
  | .convert src dst x => convS P src dst (g x)
  | .makeInterface t x => makeIfaceS P t (g x)
  | .makeFunc (.func f) first cap => if first.isEmpty then (ptrs (cap.toList.map g)).map fun l => ([], .s0 (.clo f l)) else none
  | .makeFunc (.method nm) first cap => match first.toList, cap.isEmpty with | [x], true => methS nm (g x) | _, _ => none
  | .fieldAddr t x f => fieldAddrS P t f (g x)
  | .field t x f => fieldS P t f (g x)
  | .indexAddr t x i => indexAddrS P t (g x) (g i)
  | .index t x i => indexS P t (g x) (g i)
  | .slice t x lo hi mx => sliceS P t (g x) (lo.map g) (hi.map g) (mx.map g)
  | .typeAssert x _ t ok => typeAssertS P t ok (g x)
  | .extract x i => match g x with | .tup l => (l[i]?).map fun v => ([], .v v) | _ => none
  | .call { callee := .builtin b, args, argTypes } => builtinS P b argTypes (args.toList.map g)
  | _ => none

/-! ### Operations -/
abbrev OpR := V × Mem × Nat     -- the value, what was written (the newest first), the next id
def mkPR (nx : Nat) : PR → T OpR
  | some (obs, v) => .obs obs (.ret (v, [], nx))
  | none => .stuck "operation"
def opName : Op → String
  | .move _ => "move" | .assign _ => "assign" | .build _ _ => "build" | .buildSlice _ _ _ => "buildSlice" | .nilCheck _ => "nilCheck" | .binOp o _ _ _ _ => "binOp " ++ (match o with | .eql => "eql" | .neq => "neq" | .shl => "shl" | .shr => "shr" | .quo => "quo" | .rem => "rem" | _ => "")
  | .unOp _ _ _ => "unOp" | .convert _ _ _ => "convert" | .makeInterface _ _ => "makeInterface" | .makeFunc _ _ _ => "makeFunc" | .makeMap _ _ => "makeMap" | .makeChan _ _ => "makeChan" | .makeSlice _ _ _ => "makeSlice" | .slice _ _ _ _ _ => "slice"
  | .fieldAddr _ _ _ => "fieldAddr" | .field _ _ _ => "field" | .indexAddr _ _ _ => "indexAddr" | .index _ _ _ => "index" | .lookup _ _ _ _ => "lookup" | .typeAssert _ _ _ _ => "typeAssert" | .extract _ _ => "extract"
  | .call { callee := .builtin _, .. } => "builtin" | .call _ => "call" | .ready _ => "ready" | .waits _ => "waits" | .defer _ => "defer" | _ => "operation"
/-- The cells of a new row. -/
def rowZero (z : List S) (n : Nat) : List S := (List.range n).map fun i => z.getD (i % z.length) (.z .any)
def rowS (P : Program) (nx : Nat) (t : TypeId) (len : Nat) (parts : List (Nat × V)) : T OpR :=
  match P.underlying t with
  | some (.slice e) => match P.info? e with
    | some ie => match ie.zero, toV2s parts with
      | some z, some ps => if decide (len * ie.size > 2 ^ 24) || (cV2 z).cells.isEmpty then .stuck "buildSlice" else match fillS (fun i => some (i * ie.size, ie.size)) (rowZero (cV2 z).cells (len * ie.size)) ps with
        | some cs => .ret (.s0 (.sl nx 0 len (some len)), [(nx, .cells e cs)], nx + 1)
        | none => .stuck "buildSlice"
      | _, _ => .stuck "buildSlice"
    | none => .stuck "buildSlice"
  | _ => .stuck "buildSlice"
def zeroCells (P : Program) (t : TypeId) : Option V2 := match P.info? t with | some i => i.zero.map cV2 | none => none
def loadS (P : Program) (mem : Mem) (t : TypeId) : V → PR
  | .v (.one (.z (.ptr id off))) => match mem.get id with
    | some (.cells _ cs) | some (.row _ cs) => match P.info? t with
      | some _ => (partS P t cs off).map fun x => ([], .v x)
      | none => none
    | _ => none
  | .v (.one (.z (.eptr K x i off))) => match kindsOf P t, P.info? t with
    | some ks, some inf => if CK.sameL ((K.drop off).take ks.length) ks && (isAggT P t || Nat.beq inf.size 1) then okV (.v (if isAggT P t then .agg (rdL x i off ks) else .one ((rdL x i off ks).headD (.z .any)))) else none
    | _, _ => none
  | _ => none
def storeS (P : Program) (mem : Mem) (nx : Nat) (t : TypeId) : V → V → T OpR
  | .v (.one (.z (.ptr id off))), .v x => match mem.get id with
    | some (.cells t' cs) => if x.solid && x.cells.length == P.cellsOf t && off + x.cells.length ≤ cs.length && (P.info? t).isSome then .ret (V.any, [(id, .cells t' (setRange cs off x.cells))], nx) else .stuck "store"
    | _ => .stuck "store: block"
  | _, _ => .stuck "store: address"

/-- What the program's functions are known to do (contracts): a function, and what it comes to for values, a memory and the next number. -/
abbrev Ct := List (FuncId × (List V → Mem → Nat → T OpR))
def Ct.find : Ct → FuncId → Option (List V → Mem → Nat → T OpR)
  | [], _ => none
  | (g, c) :: l, f => if g == f then some c else Ct.find l f
def ctTidy (nx : Nat) (q : OpR) : T OpR := if nx ≤ q.2.2 then .ret q else .stuck "contract: numbers"

/-- What is left of the blocks that a call has made and written: if neither its value nor an elder block leads to a new one, the new ones go. -/
def keepOld (nx nx' : Nat) (v : V) (ws : Mem) : Mem :=
  let old := ws.filter fun p => decide (p.1 < nx) || decide (nx' ≤ p.1)
  if (v.ids ++ old.flatMap fun p => p.2.ids).all fun i => decide (i < nx) || decide (nx' ≤ i) then old else ws

def resultS (P : Program) (st : St) : List ResultVar → Option (List V2)
  | [] => some []
  | .tmp t :: r => match st.tm.getD t V.any, resultS P st r with
    | .v x, some l => some (x :: l)
    | _, _ => none
  | .cell a t :: r => match loadS P st.mem t (st.tm.getD a V.any), resultS P st r with
    | some ([], .v x), some l => some (x :: l)
    | _, _ => none
def resultV : List V2 → V
  | [x] => .v x
  | l => .tup l
def shutAll : List Nat → Mem
  | [] => []
  | d :: ds => shutAll ds ++ [(d, .dfd true)]

def Ex.isEnd : Ex → Bool | .normal | .ret => true | _ => false
/-- The blocks of the deferred calls are there, open, each once. -/
def dfOk (m : Mem) : List Nat → Bool
  | [] => true
  | d :: ds => (match m.get d with | some (.dfd false) => true | _ => false) && !ds.contains d && dfOk m ds
def addMem (st : St) (ws : Mem) : Mem := ws ++ st.mem
def setTm (tm : List V) (d : Option Tmp) (v : V) : List V := match d with | some d => tm.set d v | none => tm
/-- Is the operation the guard of another one? -/
def isGuard (ops : Array Oper) (j : Nat) : Bool := ops.any fun o => match o.guard with | some (j', _) => j' == j | none => false
/-- Whether an operation is carried out. -/
def wants (ops : Array Oper) (tm : List V) (o : Oper) : Option Bool :=
  match o.guard with
  | none => some true
  | some (j, want) => match (ops[j]?).bind (·.dst) with
    | some d => match tm[d]? with
      | some (.v (.one (.z (.bool (.lit b))))) => some (b == want)
      | _ => none
    | none => none
/-- A truth value that guards operations is parted at once. -/
def parted (g : Bool) (r : OpR) : T OpR :=
  match g, r with
  | true, (.v (.one (.z (.bool b))), ws, nx) => .iteS b (.ret (bV (.lit true), ws, nx)) (.ret (bV (.lit false), ws, nx))
  | _, r => .ret r

/-! ### Regions that draw their order -/
/-- What an operation has looked at and written, in memory. -/
structure Info where
  rd : List Nat
  wr : List Nat
def Mem.sub (m : Mem) (ids : List Nat) : Mem := m.filter fun p => ids.contains p.1
def Mem.grow (m : Mem) : Nat → List Nat → List Nat
  | 0, l => l
  | n + 1, l => Mem.grow m n (l ++ (l.flatMap fun id => match m.get id with | some b => b.ids.filter (!l.contains ·) | none => []).eraseDups)
def Op.isCall : Op → Bool | .call { callee := .builtin _, .. } => false | .call _ => true | _ => false
/-- The blocks that an operation may look at. -/
def sees (m : Mem) (g : Operand → V) (o : Oper) : List Nat :=
  let l := o.op.operands.toList.flatMap fun x => (g x).ids
  if Op.isCall o.op then m.grow 12 l else l
/-- The operations that come before each one, whatever the order drawn. -/
def ancs (ops : Array Oper) : List (List Nat) :=
  ops.toList.foldl (fun acc o => acc ++ [o.after.toList.flatMap fun e => if Region.binds .any e then e.on :: acc.getD e.on [] else []]) []
def meets (a b : List Nat) : Bool := a.any fun i => b.contains i
def clash (ops : Array Oper) (log : List Info) (i j : Nat) : Bool :=
  (match ops[i]?, ops[j]? with | some x, some y => !Oper.apart ops x y | _, _ => true) ||
  (match log[i]?, log[j]? with | some x, some y => meets x.wr (y.rd ++ y.wr) || meets x.rd y.wr | _, _ => true)
def drawOk (ops : Array Oper) (log : List Info) : Bool :=
  let an := ancs ops
  (ops.all fun o => o.after.all fun e => !Region.binds .any e || decide (e.on < ops.size)) && log.length == ops.size &&
  (List.range ops.size).all fun j => (an.getD j []).all (fun i => decide (i < j)) && (List.range j).all fun i => !clash ops log i j || (an.getD j []).contains i

def setPs : List Tmp → List V → List V → List V
  | t :: ts, v :: vs, tm => setPs ts vs (tm.set t v)
  | _, _, tm => tm

/-- How many loops code has. -/
def loopsOf : Code → Nat
  | .seq a b => loopsOf a + loopsOf b
  | .cond _ a b => loopsOf a + loopsOf b
  | .block _ b => loopsOf b
  | .loop b => loopsOf b + 1
  | _ => 0
/-- Where code stands: in which function, behind how many loops. -/
abbrev Where := Option (FuncId × Nat)
def Where.skip (h : Where) (n : Nat) : Where := h.map fun p => (p.1, p.2 + n)
/-- Loops that are unrolled whatever their tests. -/
abbrev Lt := List (FuncId × Nat)
def Lt.has : Lt → Where → Bool
  | [], _ => false
  | _, none => false
  | (g, k) :: l, some f => g == f.1 && k == f.2 || Lt.has l (some f)

/-! ### Patterns of loops are found (nothing has to be shown of this: a pattern is looked at when it is used) -/
def T.single {α : Type} : T α → Bool
  | .ret _ => true
  | .ob _ t => T.single t
  | .stuck _ => true
  | _ => false
def T.ends {α : Type} (t : T α) : List α :=
  match t with
  | .ret a => [a]
  | .ite _ t e => T.ends t ++ T.ends e
  | .ob _ t => T.ends t
  | .stuck _ => []
  | .loop _ _ _ body k => (T.ends body).flatMap fun p => match p.1 with | .normal => [] | _ => T.ends (k p)
section
variable (N nx : Nat)
def joinE (c : Nat) (p s : E) : E × Nat := match p with
  | .var j => if Nat.ble N j then (.var j, c) else if E.same (.var j) s then (.var j, c) else (.var (N + c), c + 1)
  | p => if E.same p s then (p, c) else (.var (N + c), c + 1)
def joinB (c : Nat) (p s : B) : B × Nat := match p with
  | .var j => if Nat.ble N j then (.var j, c) else if B.same (.var j) s then (.var j, c) else (.var (N + c), c + 1)
  | p => if B.same p s then (p, c) else (.var (N + c), c + 1)
def joinX (c : Nat) (p s : X) : X × Nat := match p with
  | .var j => if Nat.ble N j then (.var j, c) else if X.same (.var j) s then (.var j, c) else (.var (N + c), c + 1)
  | p => if X.same p s then (p, c) else (.var (N + c), c + 1)
def joinS0 (c : Nat) (p s : S0) : S0 × Nat := match p, s with
  | .int k p, .int k' e => if k = k' then let q := joinE N c p e; (.int k q.1, q.2) else (.any, c)
  | .bool p, .bool e => let q := joinB N c p e; (.bool q.1, q.2)
  | .ext K x f, .ext K' y f' => if CK.sameL K K' then let q := joinX N c x y; (.ext K q.1 (f && f'), q.2) else (.any, c)
  | .eptr K x i o, .eptr K' x' i' o' => if CK.sameL K K' && Nat.beq o o' then let q := joinX N c x x'; let r := joinE N q.2 i i'; (.eptr K q.1 r.1 o, r.2) else (.any, c)
  | p, s => if okS0 N nx .nil p s then (p, c) else (.any, c)
def joinS (c : Nat) (p s : S) : S × Nat := match p, s with
  | .z p, .z s => let q := joinS0 N nx c p s; (.z q.1, q.2)
  | p, s => if okS N nx .nil p s then (p, c) else (.z .any, c)
def joinSs : Nat → List S → List S → List S × Nat
  | c, p :: ps, s :: ss => let q := joinS N nx c p s; let r := joinSs q.2 ps ss; (q.1 :: r.1, r.2)
  | c, ps, _ => (ps, c)
def joinV (c : Nat) (p s : V) : V × Nat := match p, s with
  | .v (.one p), .v (.one s) => let q := joinS N nx c p s; (.v (.one q.1), q.2)
  | .v (.agg ps), .v (.agg ss) => if Nat.beq ps.length ss.length then let q := joinSs N nx c ps ss; (.v (.agg q.1), q.2) else (V.any, c)
  | _, _ => (V.any, c)
def joinVs : Nat → List V → List V → List V × Nat
  | c, p :: ps, s :: ss => let q := joinV N nx c p s; let r := joinVs q.2 ps ss; (q.1 :: r.1, r.2)
  | c, ps, _ => (ps, c)
def joinBlk (c : Nat) (p b : Blk) : Blk × Nat := match p, b with
  | .cells t ps, .cells _ ss => let q := joinSs N nx c ps ss; (.cells t q.1, q.2)
  | .row t ps, .row _ ss => let q := joinSs N nx c ps ss; (.row t q.1, q.2)
  | .loop s pe tm ps asg body df, .loop _ _ tm' _ _ _ _ => let q := joinVs N nx c tm tm'; (.loop s pe q.1 ps asg body df, q.2)
  | p, _ => (p, c)
def joinMem : Nat → Mem → Mem → Mem × Nat
  | c, [], _ => ([], c)
  | c, (i, b) :: l, mm => let q := (match mm.get i with | some b' => joinBlk N nx c b b' | none => (b, c)); let r := joinMem q.2 l mm; ((i, q.1) :: r.1, r.2)
def joinSt (p : St × Nat) (s : St) : St × Nat :=
  let q := joinVs N nx p.2 p.1.tm s.tm
  let r := joinMem N nx q.2 p.1.mem s.mem
  ({ p.1 with tm := q.1, mem := r.1 }, r.2)
end
def anysSs (l : List S) : Nat := l.foldl (fun n s => match s with | .z .any => n + 1 | _ => n) 0
def anysVs (l : List V) : Nat := l.foldl (fun n v => match v with | .v (.one (.z .any)) => n + 1 | .v (.agg cs) => n + anysSs cs | _ => n) 0
def anysSt (st : St) : Nat := anysVs st.tm + st.mem.foldl (fun n b => match b.2 with | .cells _ cs => n + anysSs cs | .row _ cs => n + anysSs cs | .loop _ _ tm _ _ _ _ => n + anysVs tm | _ => n) 0
def widen (run : St → T (Ex × St)) (N : Nat) : Nat → St → Nat → St
  | 0, pat, _ => pat
  | f + 1, pat, c =>
    let q := ((run pat).ends.flatMap fun p => match p.1 with | .normal => [p.2] | _ => []).foldl (joinSt N pat.nx) (pat, c)
    if Nat.beq q.2 c && Nat.beq (anysSt q.1) (anysSt pat) then pat else widen run N f q.1 q.2
def Mem.nub : Mem → List Nat → Mem
  | [], _ => []
  | (i, b) :: l, seen => if seen.contains i then Mem.nub l seen else (i, b) :: Mem.nub l (i :: seen)
/-- The records of ranges over functions are about what they were. -/
def fixBlk (mm : Mem) (i : Nat) : Blk → Blk
  | .loop s pe tm _ _ _ df => match mm.get i with
    | some (.loop _ _ _ ps asg body _) => .loop s pe tm ps asg body df
    | _ => .gone
  | b => b
def fixMem (l mm : Mem) : Mem := l.map fun p => (p.1, fixBlk mm p.1 p.2)
/-- The pattern of a loop that begins in the state st. -/
def patOf (run : St → T (Ex × St)) (st : St) : St :=
  let q := widen run (1000 * (st.nx + 1)) 8 { st with mem := st.mem.nub [], nx := st.nx + 1 } 0
  { tm := q.tm, mem := fixMem q.mem st.mem, nx := st.nx + 1, df := st.df }
def topNx (t : T (Ex × St)) : Nat := t.ends.foldl (fun n p => max n p.2.nx) 0
def loopT (run : St → T (Ex × St)) (st : St) : T (Ex × St) :=
  match matchSt (1000 * (st.nx + 1)) (patOf run st) st with
  | some m => .loop (1000 * (st.nx + 1)) (patOf run st) m (run (patOf run st)) (fun p => .ret (p.1, { p.2 with mem := p.2.mem ++ st.mem, nx := topNx (run (patOf run st)) }))
  | none => .stuck "loop: pattern"

section
variable (P : Program) (ct : Ct) (lt : Lt)
mutual
def code : Nat → Where → Option Nat → Code → St → T (Ex × St)
  | 0, _, _, _, _ => .stuck "fuel"
  | n + 1, h, r, c, st =>
    match c with
    | .skip => .ret (.normal, st)
    | .label _ => .ret (.normal, st)
    | .exit id => .ret (.exit id, st)
    | .goto l => .ret (.goto l, st)
    | .ret => .ret (.ret, st)
    | .seq a b => (code n h r a st).bind fun p => match p.1 with | .normal => code n (h.skip (loopsOf a)) r b p.2 | _ => .ret p
    | .cond x a b => match opV st.tm x with
      | .v (.one (.z (.bool c))) => .iteS c (code n h r a st) (code n (h.skip (loopsOf a)) r b st)
      | _ => .stuck "cond"
    | .block id b => (code n h r b st).bind fun p => match p.1 with | .exit id' => if id' = id then .ret (.normal, p.2) else .ret p | _ => .ret p
    | .loop b => if lt.has h || (code n (h.skip 1) r b st).single then (code n (h.skip 1) r b st).bind fun p => match p.1 with | .normal => code n h r (.loop b) p.2 | _ => .ret p
      else loopT (code n (h.skip 1) r b) st
    | .region _ ops false => (opsRun n r ops 0 st).bind fun st => .ret (.normal, st)
    | .region _ ops true => (opsDraw n r ops 0 st []).bind fun st => .ret (.normal, st)
    | .rangeFunc g ps asg body => match opV st.tm g with
      | .v (.one (.z (.clo f cap))) =>
        match r with
        | none => (call n f (.s0 (.yl (st.nx + 1)) :: cap.map fun p => .s0 (.ptr p.1 p.2)) ((st.nx + 1, .loop .ready none st.tm ps.toList asg body st.nx) :: (st.nx, .dfd false) :: st.mem) (st.nx + 2)).bind fun q =>
          rangeEnd n r (st.nx + 1) { st with mem := q.2.1 ++ (st.nx + 1, .loop .ready none st.tm ps.toList asg body st.nx) :: (st.nx, .dfd false) :: st.mem, nx := q.2.2, df := st.nx :: st.df }
        | some rid => match st.mem.get rid with
          | some (.loop _ _ _ _ _ _ d) => (call n f (.s0 (.yl st.nx) :: cap.map fun p => .s0 (.ptr p.1 p.2)) ((st.nx, .loop .ready none st.tm ps.toList asg body d) :: st.mem) (st.nx + 1)).bind fun q =>
            rangeEnd n r st.nx { st with mem := q.2.1 ++ (st.nx, .loop .ready none st.tm ps.toList asg body d) :: st.mem, nx := q.2.2 }
          | _ => .stuck "round"
      | _ => .stuck "range over a function"
    | _ => .stuck "code"
/-- Behind a range over a function. -/
def rangeEnd : Nat → Option Nat → Nat → St → T (Ex × St)
  | 0, _, _, _ => .stuck "fuel"
  | n + 1, r, lid, st => match st.mem.get lid with
    | some (.loop s p tm ps asg body d) => match s with
      | .busy => .stuck "busy"
      | _ => match p with
        | none => .ret (.normal, { st with mem := (lid, .loop .exhausted p tm ps asg body d) :: st.mem })
        | some c => code n none r c { st with mem := (lid, .loop .exhausted p tm ps asg body d) :: st.mem }
    | _ => .stuck "record"
def opsRun : Nat → Option Nat → Array Oper → Nat → St → T St
  | 0, _, _, _, _ => .stuck "fuel"
  | n + 1, r, ops, i, st =>
    match ops[i]? with
    | none => .ret st
    | some o => match wants ops st.tm o with
      | none => .stuck "guard"
      | some false => opsRun n r ops (i + 1) { st with tm := setTm st.tm o.dst V.any }
      | some true => ((oper n o (opV st.tm) st.mem st.nx).bind (parted (isGuard ops i))).bind fun q =>
        opsRun n r ops (i + 1) { st with tm := setTm st.tm o.dst q.1, mem := q.2.1 ++ st.mem, nx := q.2.2 }
def opsDraw : Nat → Option Nat → Array Oper → Nat → St → List Info → T St
  | 0, _, _, _, _, _ => .stuck "fuel"
  | n + 1, r, ops, i, st, log =>
    match ops[i]? with
    | none => if drawOk ops log then .ret st else .stuck "draws"
    | some o => match wants ops st.tm o with
      | none => .stuck "guard"
      | some false => opsDraw n r ops (i + 1) { st with tm := setTm st.tm o.dst V.any } (log ++ [⟨[], []⟩])
      | some true => ((oper n o (opV st.tm) (st.mem.sub (sees st.mem (opV st.tm) o)) st.nx).bind (parted (isGuard ops i))).bind fun q =>
        opsDraw n r ops (i + 1) { st with tm := setTm st.tm o.dst q.1, mem := q.2.1 ++ st.mem, nx := q.2.2 } (log ++ [⟨sees st.mem (opV st.tm) o, q.2.1.map (·.1)⟩])
def oper : Nat → Oper → (Operand → V) → Mem → Nat → T OpR
  | 0, _, _, _, _ => .stuck "fuel"
  | n + 1, o, g, mem, nx =>
    match o.op with
    | .alloc t => match zeroCells P t with
      | some z => .ret (.s0 (.ptr nx 0), [(nx, .cells t z.cells)], nx + 1)
      | none => .stuck "alloc"
    | .box t x => match g x with
      | .v v => if v.solid then .ret (.s0 (.ptr nx 0), [(nx, .cells t v.cells)], nx + 1) else .stuck "box"
      | _ => .stuck "box"
    | .load t x => mkPR nx (loadS P mem t (g x))
    | .store t x y => storeS P mem nx t (g x) (g y)
    | .pick c a b => match g c with
      | .v (.one (.z (.bool c))) => .iteS c (.ret (g a, [], nx)) (.ret (g b, [], nx))
      | _ => .stuck "pick"
    | .buildSlice t len parts => rowS P nx t len (parts.toList.map fun (i, x) => (i, g x))
    | .call { callee := .value fv, args, .. } => match g fv with
      | .v (.one (.z (.clo f cap))) => call n f (args.toList.map g ++ cap.map fun p => .s0 (.ptr p.1 p.2)) mem nx
      | .v (.one (.z (.yl lid))) => round n lid (args.toList.map g) mem nx
      | .v (.one (.meth nm t agg cs)) => match methodS P t nm, unface agg cs with
        | some f, some v => call n f (.v v :: args.toList.map g) mem nx
        | _, _ => .stuck "method"
      | _ => .stuck "call"
    | .call { callee := .invoke x name, args, .. } => match g x with
      | .v (.one (.iface t agg cs)) => match methodS P t name, unface agg cs with
        | some f, some v => call n f (.v v :: args.toList.map g) mem nx
        | _, _ => .stuck "method"
      | _ => .stuck "invoke"
    | op => match pureOp P g op with | some r => mkPR nx (some r) | none => .stuck (opName op)
/-- A round of a range over a function. -/
def round : Nat → Nat → List V → Mem → Nat → T OpR
  | 0, _, _, _, _ => .stuck "fuel"
  | n + 1, lid, args, mem, nx => match mem.get lid with
    | some (.loop .ready _ tm ps asg body _) =>
      if args.length = ps.length then
        (code n none (some lid) asg { tm := setPs ps args tm, mem, nx, df := [] }).bind fun p => match p.1, p.2.mem.get lid with
          | .normal, some (.loop .ready pe tm' ps' asg' body' d') =>
            (code n none (some lid) body { p.2 with mem := (lid, .loop .busy pe tm' ps' asg' body' d') :: p.2.mem }).bind fun q => match q.2.mem.get lid with
              | some (.loop _ _ tm2 ps2 asg2 body2 d2) =>
                .ret (bV (.lit q.1.jump.isNone), keepOld nx q.2.nx (bV (.lit true)) ((lid, .loop (if q.1.jump.isNone then .ready else .done) q.1.jump tm2 ps2 asg2 body2 d2) :: q.2.mem.take (q.2.mem.length - mem.length)), q.2.nx)
              | _ => .stuck "record"
          | _, _ => .stuck "round"
      else .stuck "yield"
    | _ => .stuck "record"
def call : Nat → FuncId → List V → Mem → Nat → T OpR
  | 0, _, _, _, _ => .stuck "fuel"
  | n + 1, f, args, mem, nx =>
    match ct.find f with
    | some c => (c args mem nx).bind (ctTidy nx)
    | none => match P.funcs[f]? with
      | none => .stuck "no function"
      | some fn => if fn.name == "runtime.NumGoroutine" then .stuck "NumGoroutine" else match fn.body with
        | none => .stuck "no body"
        | some c => (code n (some (f, 0)) none c { tm := args ++ List.replicate (fn.ntmps - args.length) V.any, mem, nx, df := [] }).bind fun p =>
          if p.1.isEnd && dfOk p.2.mem p.2.df then match resultS P { p.2 with mem := shutAll p.2.df ++ p.2.mem } fn.results.toList with
            | some l => .ret (resultV l, keepOld nx p.2.nx (resultV l) (shutAll p.2.df ++ p.2.mem.take (p.2.mem.length - mem.length)), p.2.nx)
            | none => .stuck "results"
          else .stuck "left"
end
end
end Go.Proofs.Ytinfmmofcadjgaa
