/- The evaluator and its proof, part 1 of 3. -/
import Derived.Fence
import Derived.ArgAppend
import Derived.Deep.MidRow
import Derived.RangeFuncIn
import Derived.RangeFuncRecord
import Derived.WalkKit
import Derived.Laws.Strings
import Derived.Laws.Pointers
import Derived.ChangeKeysEq
import Derived.MapKept
set_option linter.unusedSectionVars false

section
/- The abstract evaluator: a deterministic run of the model's code over values without addresses. -/
namespace Go.Abs
open Go

/-- what is known of a slice's array: nothing; its spare room is this holder's alone (0: there is none); the whole of it is; it is nil. The number: how many cells an element has -/
inductive Own where
  | ro
  | tip (k : Nat)
  | ex (k : Nat)
  | nul
  deriving DecidableEq, Inhabited

/-- values without addresses: 'ptr': a numbered object and a place in it; 'eptr': a place in a value that no longer turns; 'sptr': a place in the slice that a slot holds; 'bor': what a slot holds -/
inductive AVal where
  | bool (b : Bool)
  | int (k : IntKind) (n : Int)
  | str (s : List UInt8)
  | ptr (a : Option (Nat × Nat))
  | eptr (cells : List AVal) (off : Nat)
  | sptr (slot idx off : Nat)
  | bor (slot : Nat)
  | vec (l : List AVal) (own : Own)
  | map (r : Option Nat)
  | func (fn : Fn) (first captured : List AVal)
  | nilFunc
  | agg (cells : List AVal)
  | tup (vs : List AVal)
  | face (t : TypeId) (v : AVal)
  | nilFace
  deriving Inhabited

/-- how a piece of code is left -/
inductive Ex where
  | normal
  | exit (id : Nat)
  | ret
  deriving DecidableEq, Inhabited

abbrev Env := List (Nat × AVal)

/-- what the evaluator is told of a function: which of its slots live from one region to another (a number of bits); those whose slices are turned in place -/
structure Hint where
  vars : Nat
  exs : List Nat
  subs : List Nat
  deriving Inhabited
/-- a place in a slot's slice: from here on, some of its elements -/
def subBig : Nat := 18446744073709551616

structure ALoop where
  nt : Nat
  env : Env
  fn : FuncId
  params : List Nat
  assign : Code
  body : Code
  resv : List Nat
  state : LoopState
  pend : Option Ex
  deriving Inhabited

/-- when a map's entries came, and when the next one comes -/
structure Stamp where
  bs : List Nat
  cl : Nat
  deriving Inhabited
inductive AObj where
  | box (cells : List AVal)
  | map (es : List (AVal × AVal)) (s : Stamp)
  | loop (l : ALoop)
  | iter (m : Option Nat) (since : Nat) (seen : List Nat) (last : Nat)
  deriving Inhabited

abbrev Heap := List AObj

def AVal.cells : AVal → List AVal
  | .agg cs => cs
  | v => [v]

/-- a copy -/
def ro1 : AVal → AVal
  | .vec l (.tip (_ + 1)) => .vec l .ro
  | .vec l (.ex _) => .vec l .ro
  | v => v
def ro : AVal → AVal
  | .agg cs => .agg (cs.map ro1)
  | .tup vs => .tup (vs.map ro1)
  | v => ro1 v
/-- a copy of which nothing is known -/
def strip1 : AVal → AVal
  | .vec l .nul => .vec l .nul
  | .vec l _ => .vec l .ro
  | v => v
def strip : AVal → AVal
  | .agg cs => .agg (cs.map strip1)
  | .tup vs => .tup (vs.map strip1)
  | v => strip1 v
/-- a result -/
def give1 : AVal → AVal
  | .agg cs => .agg (cs.map strip1)
  | v => v
def give : AVal → AVal
  | .tup vs => .tup (vs.map give1)
  | v => give1 v

def hget (h : Heap) (i : Nat) : Option AObj := if i < h.length then h[h.length - 1 - i]? else none
def hset (h : Heap) (i : Nat) (o : AObj) : Heap := h.set (h.length - 1 - i) o

def eget : Env → Nat → Option AVal
  | [], _ => none
  | (j, v) :: r, i => if j = i then some v else eget r i
def eset : Env → Nat → AVal → Env
  | [], i, v => [(i, v)]
  | (j, u) :: r, i, v => if j = i then (i, v) :: r else if i < j then (i, v) :: (j, u) :: r else (j, u) :: eset r i v
def esets : Env → List (Nat × AVal) → Env
  | e, [] => e
  | e, (i, v) :: r => esets (eset e i v) r

def mapO {α β : Type} (f : α → Option β) : List α → Option (List β)
  | [] => some []
  | a :: r => match f a, mapO f r with
    | some b, some s => some (b :: s)
    | _, _ => none
def toV1 : AVal → Option Value
  | .bool b => some (.bool b)
  | .int k n => some (.int k n)
  | .str s => some (.string ⟨s.toArray⟩)
  | .ptr none => some (.pointer none)
  | .map none => some (.map none)
  | .nilFunc => some .nilFunc
  | .nilFace => some .nilIface
  | _ => none
/-- a value without slices, as the model has it -/
def toV : AVal → Option Value
  | .agg cs => (mapO toV1 cs).map fun vs => .agg vs.toArray
  | v => toV1 v
def ofV1 : Value → Option AVal
  | .bool b => some (.bool b)
  | .int k n => some (.int k n)
  | .string s => some (.str s.data.toList)
  | .pointer none => some (.ptr none)
  | .slice none 0 0 => some (.vec [] .nul)
  | .map none => some (.map none)
  | .nilFunc => some .nilFunc
  | .nilIface => some .nilFace
  | _ => none
def ofV : Value → Option AVal
  | .agg cs => (mapO ofV1 cs.toList).map .agg
  | .tuple vs => if vs.toList.isEmpty then some (.tup []) else none
  | v => ofV1 v

/-- the run of what asks for nothing but the program's tables -/
def pureRun {α : Type} (P : Program) : Sem α → Option α
  | .pure a => some a
  | .program k => pureRun P (k P)
  | .mark _ k => pureRun P k
  | _ => none

def rawv (env : Env) : Operand → Option AVal
  | .tmp t => eget env t
  | .const v => ofV v
  | .global _ => none
  | .func f => some (.func (.func f) [] [])
def evV (env : Env) : AVal → Option AVal
  | .bor i => match eget env i with
    | some (.vec l _) => some (.vec l .ro)
    | _ => none
  | .tup _ => none
  | .sptr .. => none
  | v => some v
def ev (env : Env) (x : Operand) : Option AVal :=
  match rawv env x with
  | some v => evV env v
  | none => none
def evAll (env : Env) (xs : List Operand) : Option (List AVal) := mapO (ev env) xs
def evParts (env : Env) (xs : List (Nat × Operand)) : Option (List (Nat × AVal)) := mapO (fun p => (ev env p.2).map fun v => (p.1, v)) xs
/-- what an operand is handed on for good: a slice that was its holder's alone is so no longer -/
def esc (env : Env) : Operand → List (Nat × AVal)
  | .tmp t => match eget env t with
    | some (.vec l (.ex k)) => [(t, .vec l (.tip k))]
    | some (.bor i) => match eget env i with
      | some (.vec l (.ex k)) => [(i, .vec l (.tip k))]
      | _ => []
    | _ => []
  | _ => []
def escL (env : Env) (xs : List Operand) : List (Nat × AVal) := xs.flatMap (esc env)

def isAggT (P : Program) (t : TypeId) : Bool :=
  match P.underlying t with
  | some (.struct _) | some (.array _ _) => true
  | _ => false
def isTupT (P : Program) (t : TypeId) : Bool :=
  match P.underlying t with
  | some (.tuple _) => true
  | _ => false
def headOk (k : Nat) : List AVal → Bool
  | [] => true
  | v :: _ => v.cells.length == k
/-- the part of some cells at a type -/
def partOf (P : Program) (t : TypeId) (cs : List AVal) (off : Nat) : Option AVal :=
  match P.underlying t with
  | none => none
  | some _ => if isAggT P t then (if off + P.cellsOf t ≤ cs.length then some (.agg (((cs.drop off).take (P.cellsOf t)).map ro1)) else none)
    else (cs[off]?).map ro1
def putAt (cs : List AVal) (off : Nat) : List AVal → List AVal
  | [] => cs
  | v :: r => putAt (cs.set off v) (off + 1) r
def zeroOf (P : Program) (t : TypeId) : Option AVal :=
  match (P.info? t).bind (·.zero) with
  | some v => ofV v
  | none => none
def srcOf : List Oper → Nat → Option Op
  | [], _ => none
  | o :: r, t => if o.dst = some t then some o.op else srcOf r t
def hasN (l : List Nat) (x : Nat) : Bool := l.any (· == x)
def lookupN : List (Nat × Nat) → Nat → Option Nat
  | [], _ => none
  | (a, b) :: r, i => if a = i then some b else lookupN r i

/-- a frame's state: the slots; from where in the heap a slot's slice was read; the heap; the objects written -/
structure St where
  env : Env
  facts : Env
  heap : Heap
  wr : List Nat
  deriving Inhabited

/-- a call: the result, the heap, the objects written -/
abbrev CallF := Fn → List AVal → Heap → Option (AVal × Heap × List Nat)

/-- what an operation does to the slots: what is known of others than its own; the slots whose borrowers go; its own value; whence that was read -/
structure Out where
  ups : List (Nat × AVal)
  gone : List Nat
  val : AVal
  fact : Option (Nat × Nat)
structure OutC where
  out : Out
  heap : Heap
  wr : List Nat

def tmpsOf : List Operand → List Nat
  | [] => []
  | .tmp t :: r => t :: tmpsOf r
  | _ :: r => tmpsOf r

def isTup : AVal → Bool
  | .tup _ => true
  | _ => false
def deadV : AVal := .tup []
def outV (v : AVal) : Option Out := some ⟨[], [], v, none⟩
def outU (ups : List (Nat × AVal)) (v : AVal) : Option Out := some ⟨ups, [], v, none⟩

/-- what a frame's code is run with -/
structure Ctx where
  P : Program
  nt : Nat
  call : CallF
  n : Nat
  hint : Hint
  takes : FuncId → List Nat
  resv : List Nat
  fn : FuncId

/-! ### Operations that look at slots alone -/
def moveE (P : Program) (vars : Nat) (env : Env) (t : TypeId) (x : Operand) : Option Out :=
  match rawv env x with
  | some (.tup vs) => match x with
    | .tmp i => if isTupT P t then outU [(i, deadV)] (.tup vs) else none
    | _ => none
  | some (.vec l (.tip (k + 1))) => match x with
    | .tmp i => if vars.testBit i then outV (.bor i) else some ⟨[(i, deadV)], [i], .vec l (.tip (k + 1)), none⟩
    | _ => none
  | some (.vec l (.ex k)) => match x with
    | .tmp i => if vars.testBit i then outV (.bor i) else some ⟨[(i, deadV)], [i], .vec l (.ex k), none⟩
    | _ => none
  | some v => outV (ro v)
  | none => none

/-- how many cells an element of a slice has -/
def elemCells (P : Program) (t : TypeId) : Nat := match P.underlying t with
  | some (.slice e) => P.cellsOf e
  | _ => 0
/-- an assignment to a variable -/
def assignE (kk : Nat) (resv exs : List Nat) (env : Env) (x : Operand) (d : Nat) : Option Out :=
  let hold (l : List AVal) (k : Nat) : AVal := if hasN exs d then .vec l (.ex k) else .vec l (.tip k)
  match rawv env x with
  | some (.vec l (.tip 0)) => match l with
    | [] => outV (hold [] kk)
    | _ => outV (.vec l (.tip 0))
  | some (.vec l .nul) => match l with
    | [] => outV (hold [] kk)
    | _ => none
  | some (.vec l (.ex k)) => match x with
    | .tmp j => if j = d then none else some ⟨[(j, deadV)], [j], hold l k, none⟩
    | _ => none
  | some (.vec l (.tip k)) => match x with
    | .tmp j => if j = d then none else some ⟨[(j, .vec l .ro)], [], .vec l (.tip k), none⟩
    | _ => none
  | some (.bor i) => if i = d then none else match eget env i with
    | some (.vec l (.ex k)) => if hasN resv d then some ⟨[(i, deadV)], [i], hold l k, none⟩ else some ⟨[(i, .vec l (.tip k))], [], .vec l .ro, none⟩
    | some (.vec l (.tip k)) => if hasN resv d then some ⟨[(i, .vec l .ro)], [], .vec l (.tip k), none⟩ else outV (.vec l .ro)
    | some (.vec l .ro) => outV (.vec l .ro)
    | _ => none
  | some (.sptr _ _ _) => none
  | some (.tup _) => none
  | some v => outV (ro v)
  | none => none

def pickE (env : Env) (c a b : Operand) : Option Out :=
  match ev env c with
  | some (.bool true) => match ev env a with
    | some v => outU (esc env a) (ro v)
    | none => none
  | some (.bool false) => match ev env b with
    | some v => outU (esc env b) (ro v)
    | none => none
  | _ => none

def fillE (place : Nat → Option (Nat × Nat)) (cells : List AVal) : List (Nat × AVal) → Option (List AVal)
  | [] => some cells
  | (i, v) :: rest => match place i with
    | none => none
    | some (off, size) => if v.cells.length ≠ size ∨ off + v.cells.length > cells.length then none else fillE place (putAt cells off v.cells) rest
def partAtE : List (Nat × AVal) → Nat → Option AVal
  | [], _ => none
  | (j, v) :: r, i => if j = i then some v else partAtE r i
def buildE (P : Program) (env : Env) (t : TypeId) (parts : List (Nat × Operand)) : Option Out :=
  match zeroOf P t, P.underlying t, evParts env parts with
  | some (.agg zc), some (.struct fields), some ps => if fields.toList.all (fun f => (P.info? f.type).isSome) then (match fillE (fun i => (fields[i]?).map fun f => (f.offset, P.cellsOf f.type)) zc ps with
    | some cs => outU (escL env (parts.map (·.2))) (.agg (cs.map ro1))
    | none => none) else none
  | some (.agg zc), some (.array _ elem), some ps => if (P.info? elem).isSome then (match fillE (fun i => some (i * P.cellsOf elem, P.cellsOf elem)) zc ps with
    | some cs => outU (escL env (parts.map (·.2))) (.agg (cs.map ro1))
    | none => none) else none
  | _, _, _ => none
def buildSliceE (P : Program) (env : Env) (t : TypeId) (n : Nat) (parts : List (Nat × Operand)) : Option Out :=
  match P.underlying t with
  | some (.slice elem) => match zeroOf P elem, evParts env parts with
    | some z, some ps =>
      if n * P.cellsOf elem ≤ 2 ^ 24 ∧ (ps.all fun p => p.2.cells.length == P.cellsOf elem && decide (p.1 < n)) = true ∧ z.cells.length = P.cellsOf elem ∧ P.cellsOf elem ≠ 0 ∧ isTup z = false then
        outU (escL env (parts.map (·.2))) (.vec (ps.foldl (fun l p => l.set p.1 (strip p.2)) (List.replicate n (strip z))) (.ex (P.cellsOf elem))) else none
    | _, _ => none
  | _ => none

def nilCheckE (env : Env) (x : Operand) : Option Out :=
  match rawv env x with
  | some (.sptr i k off) => if off < subBig then outV (.sptr i k off) else none
  | _ => match ev env x with
    | some (.ptr (some p)) => outV (.ptr (some p))
    | some (.eptr cs off) => outV (.eptr cs off)
    | some (.func fn first captured) => match fn with
      | .method _ => none
      | _ => outV (.func fn first captured)
    | some (.map r) => outV (.map r)
    | _ => none

def ground2 (P : Program) (op : BinOp) (t : TypeId) (x y : Operand) (a b : AVal) : Option AVal :=
  match toV a, toV b with
  | some u, some v => (pureRun P (do eqGuard op t x y u v; binOp op t u v)).bind ofV
  | _, _ => none
/-- is a slice nil -/
def isNilE (l : List AVal) (o : Own) : Option AVal :=
  match l with
  | _ :: _ => some (.bool false)
  | [] => match o with
    | .nul => some (.bool true)
    | _ => none
def binE (P : Program) (op : BinOp) (t : TypeId) (x y : Operand) (a b : AVal) : Option AVal :=
  match op, a, b with
  | .eql, .str s, .str u => some (.bool (s == u))
  | .neq, .str s, .str u => some (.bool (!(s == u)))
  | .add, .str s, .str u => if s.length + u.length < 2 ^ 62 then some (.str (s ++ u)) else none
  | .lss, .str s, .str u => some (.bool (Op.bytesLess s u))
  | .gtr, .str s, .str u => some (.bool (!(Op.bytesLess s u || s == u)))
  | .leq, .str s, .str u => some (.bool (Op.bytesLess s u || s == u))
  | .geq, .str s, .str u => some (.bool (!(Op.bytesLess s u)))
  | .eql, .ptr a, .ptr none => match P.underlying t with
    | some (.pointer _) => some (.bool a.isNone)
    | _ => none
  | .neq, .ptr a, .ptr none => match P.underlying t with
    | some (.pointer _) => some (.bool (!a.isNone))
    | _ => none
  | .eql, .func .., .nilFunc => match P.underlying t with
    | some (.func ..) => some (.bool false)
    | _ => none
  | .neq, .func .., .nilFunc => match P.underlying t with
    | some (.func ..) => some (.bool true)
    | _ => none
  | .eql, .vec l o, .vec _ .nul => match P.underlying t with
    | some (.slice _) => isNilE l o
    | _ => none
  | .neq, .vec l o, .vec _ .nul => match P.underlying t with
    | some (.slice _) => (match isNilE l o with
      | some (.bool b) => some (.bool !b)
      | _ => none)
    | _ => none
  | .eql, .map r, .map none => match P.underlying t with
    | some (.map _ _) => some (.bool r.isNone)
    | _ => none
  | .neq, .map r, .map none => match P.underlying t with
    | some (.map _ _) => some (.bool !r.isNone)
    | _ => none
  | .eql, .face _ _, .nilFace => match P.underlying t with
    | some (.interface _) => some (.bool false)
    | _ => none
  | .neq, .face _ _, .nilFace => match P.underlying t with
    | some (.interface _) => some (.bool true)
    | _ => none
  | _, a, b => ground2 P op t x y a b
def binOpE (P : Program) (env : Env) (op : BinOp) (t : TypeId) (x y : Operand) : Option Out :=
  match ev env x, ev env y with
  | some a, some b => match binE P op t x y a b with
    | some v => outV v
    | none => none
  | _, _ => none
def unOpE (P : Program) (env : Env) (op : UnOp) (x : Operand) : Option Out :=
  match ev env x with
  | some a => match toV a with
    | some u => match (pureRun P (Op.unary op u)).bind ofV with
      | some v => outV v
      | none => none
    | none => none
  | none => none

def bytesE (s : List UInt8) : List AVal := s.map fun b => .int .u8 b.toNat
def elemsOf : AVal → Option (List AVal)
  | .vec l _ => some l
  | .str s => some (bytesE s)
  | _ => none
def byteOf : AVal → Option UInt8
  | .int .u8 n => if 0 ≤ n ∧ n < 256 then some (UInt8.ofNat n.toNat) else none
  | _ => none
def isU8 (P : Program) (t : TypeId) : Bool :=
  match P.underlying t with
  | some (.int .u8) => true
  | _ => false
def convertE (P : Program) (env : Env) (src dst : TypeId) (x : Operand) : Option Out :=
  match rawv env x, ev env x, P.underlying dst, P.underlying src with
  | _, some (.str s), some (.slice e), some .string => if isU8 P e then outV (.vec (bytesE s) (.ex 1)) else none
  | _, some (.vec l _), some .string, some (.slice e) => if isU8 P e then (match mapO byteOf l with
    | some bs => outV (.str bs)
    | none => none) else none
  | some (.vec l (.ex k)), _, some (.slice e), some (.slice _) => match x with
    | .tmp j => if src = dst ∧ l.isEmpty = false ∧ isU8 P e then some ⟨[(j, deadV)], [j], .vec l (.ex k), none⟩ else none
    | _ => none
  | _, some a, _, _ => match toV a with
    | some u => match (pureRun P (convert src dst u)).bind ofV with
      | some v => outV v
      | none => none
    | none => none
  | _, none, _, _ => none

def makeFuncE (env : Env) (fn : Fn) (first captured : List Operand) : Option Out :=
  match evAll env first, evAll env captured with
  | some fs, some cs => match fn with
    | .yield _ => none
    | _ => outU (escL env (first ++ captured)) (.func fn (fs.map ro) (cs.map ro))
  | _, _ => none

/-- a value in an interface; and out of it, at its own type -/
def makeFaceE (P : Program) (env : Env) (t : TypeId) (x : Operand) : Option Out :=
  match P.underlying t, ev env x with
  | some (.interface _), _ => none
  | some _, some v => outU (esc env x) (.face t (strip v))
  | _, _ => none
def assertE (P : Program) (env : Env) (x : Operand) (t : TypeId) (ok : Bool) : Option Out :=
  match P.underlying t, ev env x with
  | some (.interface _), _ => none
  | some _, some (.face u v) => if u = t ∧ isTup v = false then (match ok with
    | true => outV (.tup [ro v, .bool true])
    | false => outV (ro v)) else none
  | _, _ => none

def makeSliceE (P : Program) (env : Env) (t : TypeId) (l c : Operand) : Option Out :=
  match P.underlying t, ev env l, ev env c with
  | some (.slice elem), some (.int _ n), some (.int _ m) => match zeroOf P elem with
    | some z => if 0 ≤ n ∧ n ≤ m ∧ (P.bytesOf elem : Int) * m ≤ 2 ^ 47 ∧ m ≤ 2 ^ 47 ∧ z.cells.length = P.cellsOf elem ∧ P.cellsOf elem ≠ 0 ∧ isTup z = false then outV (.vec (List.replicate n.toNat (strip z)) (.ex (P.cellsOf elem))) else none
    | none => none
  | _, _, _ => none

def boundE (n : Nat) : Option AVal → Nat → Option Nat
  | none, d => some d
  | some (.int _ i), _ => if 0 ≤ i ∧ i ≤ n then some i.toNat else none
  | some _, _ => none
def evOpt (env : Env) : Option Operand → Option (Option AVal)
  | none => some none
  | some x => (ev env x).map some
def sliceE (P : Program) (env : Env) (t : TypeId) (x : Operand) (lo hi mx : Option Operand) : Option Out :=
  match P.underlying t, ev env x, evOpt env lo, evOpt env hi, evOpt env mx with
  | some .string, some (.str s), some lv, some hv, some none => match boundE s.length hv s.length with
    | some h => match boundE h lv 0 with
      | some l => outV (.str ((s.take h).drop l))
      | none => none
    | none => none
  | some (.slice elem), some (.vec s sw), some lv, some hv, some none => if headOk (P.cellsOf elem) s ∧ (P.underlying elem).isSome then (match boundE s.length hv s.length with
    | some h => match boundE h lv 0 with
      | some l => match rawv env x, x with
        | some (.vec _ (.ex k)), .tmp j => some ⟨[(j, deadV)], [j], .vec ((s.take h).drop l) (.ex k), none⟩
        | _, _ => outU (esc env x) (.vec ((s.take h).drop l) (if (sw = .tip 0 ∨ sw = .nul) ∧ h = s.length then .tip 0 else .ro))
      | none => none
    | none => none) else none
  | some (.slice elem), some (.vec s _), some lv, some (some hv), some (some (.int _ m)) => if headOk (P.cellsOf elem) s ∧ (P.underlying elem).isSome ∧ 0 ≤ m ∧ m ≤ s.length then (match boundE m.toNat (some hv) 0 with
    | some h => match boundE h lv 0 with
      | some l => outU (esc env x) (.vec ((s.take h).drop l) (if h = m.toNat then .tip 0 else .ro))
      | none => none
    | none => none) else none
  | _, _, _, _, _ => none

/-- some of the elements of a slot's own slice, as they stand there -/
def subE (P : Program) (env : Env) (t : TypeId) (x : Operand) (lo hi mx : Option Operand) : Option Out :=
  match P.underlying t, rawv env x, evOpt env lo, evOpt env hi, mx with
  | some (.slice elem), some (.bor i), some lv, some hv, none => match eget env i with
    | some (.vec l (.ex k)) => if headOk (P.cellsOf elem) l ∧ (P.underlying elem).isSome then (match boundE l.length hv l.length with
      | some h => match boundE h lv 0 with
        | some q => if q < h then outV (.sptr i q (subBig + (h - q))) else none
        | none => none
      | none => none) else none
    | _ => none
  | _, _, _, _, _ => none
def isSub (subs : List Nat) (o : Oper) : Bool := match o.dst with
  | some d => hasN subs d
  | none => false
def fieldAddrE (P : Program) (env : Env) (s : TypeId) (x : Operand) (f : Nat) : Option Out :=
  match P.underlying s with
  | some (.struct fields) => match fields[f]? with
    | some fd => if P.cellsOf fd.type = 0 then none else match rawv env x with
      | some (.ptr (some (id, off))) => outV (.ptr (some (id, off + fd.offset)))
      | some (.eptr cs off) => outV (.eptr cs (off + fd.offset))
      | some (.sptr i k off) => if off + fd.offset < subBig then outV (.sptr i k (off + fd.offset)) else none
      | _ => none
    | none => none
  | _ => none
def fieldE (P : Program) (env : Env) (t : TypeId) (x : Operand) (f : Nat) : Option Out :=
  match P.underlying t, ev env x with
  | some (.struct fields), some (.agg cs) => match fields[f]? with
    | some fd => match partOf P fd.type cs fd.offset with
      | some v => outV v
      | none => none
    | none => none
  | _, _ => none
def indexAddrE (P : Program) (env : Env) (t : TypeId) (x ix : Operand) : Option Out :=
  match ev env ix with
  | some (.int _ i) => match P.underlying t with
    | some (.slice elem) => match ev env x with
      | some (.vec l _) => if 0 ≤ i ∧ headOk (P.cellsOf elem) l ∧ (P.underlying elem).isSome then (match l[i.toNat]? with
        | some e => match rawv env x with
          | some (.bor s) => match eget env s with
            | some (.vec _ (.ex _)) => outV (.sptr s i.toNat 0)
            | _ => outV (.eptr e.cells 0)
          | _ => outU (esc env x) (.eptr e.cells 0)
        | none => none) else none
      | _ => none
    | some (.array n elem) => match rawv env x with
      | some (.ptr (some (id, off))) => if 0 ≤ i ∧ i < n ∧ (P.underlying elem).isSome then outV (.ptr (some (id, off + i.toNat * P.cellsOf elem))) else none
      | some (.eptr cs off) => if 0 ≤ i ∧ i < n ∧ (P.underlying elem).isSome then outV (.eptr cs (off + i.toNat * P.cellsOf elem)) else none
      | _ => none
    | _ => none
  | _ => none
def indexE (P : Program) (env : Env) (t : TypeId) (x ix : Operand) : Option Out :=
  match P.underlying t, ev env x, ev env ix with
  | some .string, some (.str s), some (.int _ i) => if 0 ≤ i then (match s[i.toNat]? with
    | some b => outV (.int .u8 b.toNat)
    | none => none) else none
  | some (.array n elem), some (.agg cs), some (.int _ i) => if 0 ≤ i ∧ i < n then (match partOf P elem cs (i.toNat * P.cellsOf elem) with
    | some v => outV v
    | none => none) else none
  | _, _, _ => none
/-- take a slice to append to, from the slots alone: its elements, what is known of it, the slots that turn, those whose borrowers go -/
def takeN (env : Env) (s : Operand) : Option (List AVal × Own × List (Nat × AVal) × List Nat) :=
  match rawv env s with
  | some (.vec l (.tip 0)) => some (l, .tip 0, [], [])
  | some (.vec l .nul) => some (l, .tip 0, [], [])
  | some (.vec l (.ex k)) => match s with
    | .tmp j => some (l, .ex k, [(j, deadV)], [j])
    | _ => none
  | some (.vec l (.tip k)) => match s with
    | .tmp j => some (l, .tip k, [(j, .vec l .ro)], [])
    | _ => none
  | some (.bor i) => match eget env i with
    | some (.vec l (.ex k)) => some (l, .ex k, [(i, deadV)], [i])
    | some (.vec l (.tip k)) => some (l, .tip k, [(i, .vec l .ro)], [])
    | _ => none
  | _ => none
/-- take a slice from where it was read -/
def takeC (env facts : Env) (heap : Heap) (s : Operand) : Option (List AVal × Own × Heap) :=
  match s, rawv env s with
  | .tmp j, some (.vec _ .ro) => match eget facts j with
    | some (.ptr (some (id, off))) => match hget heap id with
      | some (.box cs) => match cs[off]? with
        | some (.vec l (.tip (k + 1))) => some (l, .tip (k + 1), hset heap id (.box (cs.set off (.vec l .ro))))
        | _ => none
      | _ => none
    | _ => none
  | _, _ => none
/-- may a slice of which this is known be appended to with elements of k cells; what is known behind it -/
def fitsOwn (k : Nat) : Own → Bool
  | .ro => false
  | .nul => false
  | .tip 0 => true
  | .tip m => m == k
  | .ex 0 => true
  | .ex m => m == k
def grownOwn (k : Nat) : Own → Own
  | .tip 0 => .ex k
  | .tip _ => .tip k
  | _ => .ex k
def growE (P : Program) (t : TypeId) (l : List AVal) (ow : Own) (xs : List AVal) : Option AVal :=
  match P.underlying t with
  | some (.slice elem) =>
    match P.underlying elem, zeroOf P elem with
    | some _, some z =>
      if xs.isEmpty then some (.vec l ow)
      else if headOk (P.cellsOf elem) l ∧ headOk (P.cellsOf elem) xs ∧ P.cellsOf elem ≠ 0 ∧ (l.length + xs.length) * P.bytesOf elem ≤ 140737488355328 ∧ l.length + xs.length ≤ 140737488355328 ∧ fitsOwn (P.cellsOf elem) ow ∧ z.cells.length = P.cellsOf elem then
        some (.vec (l ++ xs) (grownOwn (P.cellsOf elem) ow)) else none
    | _, _ => none
  | _ => none
/-- the second argument is a slice or a string, not the length of a 'make' -/
def rowArg (P : Program) : List TypeId → Bool
  | [] => true
  | t :: _ => match P.underlying t with
    | some (.int _) => false
    | some _ => true
    | none => false
def appendN (P : Program) (env : Env) (c : Call) : Option Out :=
  match c.args.toList, c.argTypes.toList with
  | [s, x], t :: r => if !rowArg P r then none else match (ev env x).bind elemsOf, takeN env s with
    | some xs, some (l, ow, ups, gone) => match growE P t l ow xs with
      | some v => some ⟨ups, gone, v, none⟩
      | none => none
    | _, _ => none
  | _, _ => none
def appendC (P : Program) (env facts : Env) (heap : Heap) (c : Call) : Option OutC :=
  match appendN P env c with
  | some out => some ⟨out, heap, []⟩
  | none => match c.args.toList, c.argTypes.toList with
    | [s, x], t :: r => if !rowArg P r then none else match (ev env x).bind elemsOf, takeC env facts heap s with
      | some xs, some (l, ow, h) => match growE P t l ow xs with
        | some v => some ⟨⟨[], [], v, none⟩, h, []⟩
        | none => none
      | _, _ => none
    | _, _ => none
def notBor (i : Nat) : AVal → Bool
  | .bor k => k != i
  | _ => true
def copyE (P : Program) (env : Env) (c : Call) : Option Out :=
  match c.args.toList, c.argTypes.toList with
  | [s, x], t :: _ => match P.underlying t, rawv env s, (ev env x).bind elemsOf with
    | some (.slice elem), some (.bor i), some xs => match eget env i, rawv env x with
      | some (.vec l (.ex m)), some r => if m = P.cellsOf elem ∧ headOk (P.cellsOf elem) l ∧ headOk (P.cellsOf elem) xs ∧ notBor i r = true ∧ hasN (tmpsOf [x]) i = false ∧ (P.underlying elem).isSome then
          outU [(i, .vec (xs.take (min xs.length l.length) ++ l.drop (min xs.length l.length)) (.ex m))] (.int .i64 (min xs.length l.length : Nat)) else none
      | _, _ => none
    | _, _, _ => none
  | _, _ => none
/-- some elements become zero -/
def clearE (P : Program) (env : Env) (c : Call) : Option Out :=
  match c.args.toList, c.argTypes.toList with
  | [x], t :: _ => match P.underlying t, rawv env x with
    | some (.slice elem), some (.sptr i q off) => if off < subBig then none else match eget env i, zeroOf P elem with
      | some (.vec l (.ex m)), some z => if m = P.cellsOf elem ∧ headOk m l = true ∧ z.cells.length = m ∧ isTup z = false ∧ q + (off - subBig) ≤ l.length then
          outU [(i, .vec (l.take q ++ List.replicate (off - subBig) (strip z) ++ l.drop (q + (off - subBig))) (.ex m))] deadV else none
      | _, _ => none
    | _, _ => none
  | _, _ => none
def capE (P : Program) (env : Env) (c : Call) : Option Out :=
  match c.args.toList, c.argTypes.toList with
  | [x], t :: _ => match P.underlying t, ev env x with
    | some (.slice _), some (.vec l (.tip 0)) => outV (.int .i64 l.length)
    | some (.slice _), some (.vec l .nul) => outV (.int .i64 l.length)
    | _, _ => none
  | _, _ => none
def minMaxE (P : Program) (env : Env) (f : Array TypeId → TypeId → Array Value → Sem Value) (ty : TypeId) (c : Call) : Option Out :=
  match (evAll env c.args.toList).bind (mapO toV) with
  | some us => match (pureRun P (f c.argTypes ty us.toArray)).bind ofV with
    | some a => outV a
    | none => none
  | none => none

/-- an operation that looks at slots alone -/
def opN (X : Ctx) (pre : List (Nat × Nat)) (env : Env) (o : Oper) : Option Out :=
  match o.op with
  | .move x => moveE X.P X.hint.vars env o.type x
  | .assign x => match o.dst with
    | some d => assignE (elemCells X.P o.type) X.resv X.hint.exs env x d
    | none => none
  | .pick c a b => pickE env c a b
  | .alloc _ => match o.dst with
    | some d => match lookupN pre d with
      | some id => outV (.ptr (some (id, 0)))
      | none => none
    | none => none
  | .build t parts => buildE X.P env t parts.toList
  | .buildSlice t n parts => buildSliceE X.P env t n parts.toList
  | .nilCheck x => nilCheckE env x
  | .binOp op t x y _ => binOpE X.P env op t x y
  | .unOp op _ x => unOpE X.P env op x
  | .convert src dst x => convertE X.P env src dst x
  | .makeFunc fn first captured => makeFuncE env fn first.toList captured.toList
  | .makeSlice t l c => makeSliceE X.P env t l c
  | .makeInterface t x => makeFaceE X.P env t x
  | .typeAssert x _ t ok => assertE X.P env x t ok
  | .slice t x lo hi mx => if isSub X.hint.subs o then subE X.P env t x lo hi mx else sliceE X.P env t x lo hi mx
  | .fieldAddr s x f => fieldAddrE X.P env s x f
  | .field t x f => fieldE X.P env t x f
  | .indexAddr t x ix => indexAddrE X.P env t x ix
  | .index t x ix => indexE X.P env t x ix
  | .call c => match c.callee with
    | .builtin .append => appendN X.P env c
    | .builtin .copy => copyE X.P env c
    | .builtin .cap => capE X.P env c
    | .builtin .clear => clearE X.P env c
    | .builtin .max => minMaxE X.P env Builtin.max_ o.type c
    | .builtin .min => minMaxE X.P env Builtin.min_ o.type c
    | _ => none
  | _ => none

/-! ### Operations that look at one object -/
def keyIdx (P : Program) (kt : TypeId) (k : Value) : List (AVal × AVal) → Nat → Option (Option Nat)
  | [], _ => some none
  | e :: r, i => match toV e.1 with
    | none => none
    | some ke => match pureRun P (Op.equal kt k ke) with
      | some true => some (some i)
      | some false => keyIdx P kt k r (i + 1)
      | none => none
/-- where a key stands in a map, or that it does not -/
def findE (P : Program) (emp : Bool) (kt : TypeId) (k : Value) (es : List (AVal × AVal)) : Option (Option Nat) :=
  match P.underlying kt, pureRun P (Instr.checkKey emp 10000 kt k) with
  | some _, some _ => keyIdx P kt k es 0
  | _, _ => none
def objOf : Option AVal → Option Nat
  | some (.ptr (some (id, _))) => some id
  | some (.map (some id)) => some id
  | _ => none
/-- the object that an operation looks at -/
def aimE (env : Env) (o : Oper) : Option Nat :=
  match o.op with
  | .load _ a => objOf (rawv env a)
  | .lookup _ x _ _ => objOf (ev env x)
  | .call c => match c.args.toList with
    | [x] => objOf (ev env x)
    | _ => none
  | _ => none
def loadE (P : Program) (env : Env) (t : TypeId) (a : Operand) (obj : Option AObj) : Option Out :=
  match rawv env a with
  | some (.eptr cs off) => match partOf P t cs off with
    | some v => outV v
    | none => none
  | some (.sptr i k off) => if off < subBig then (match eget env i with
    | some (.vec l _) => match l[k]? with
      | some e => match partOf P t e.cells off with
        | some v => outV v
        | none => none
      | none => none
    | _ => none) else none
  | some (.ptr (some (id, off))) => match obj with
    | some (.box cs) => match partOf P t cs off with
      | some (.vec l ow) => some ⟨[], [], .vec l ow, some (id, off)⟩
      | some v => outV v
      | none => none
    | _ => none
  | _ => none
def entriesE : Option Nat → Option AObj → Option (List (AVal × AVal))
  | none, _ => some []
  | some _, some (.map es _) => some es
  | _, _ => none
def lookupE (P : Program) (env : Env) (t : TypeId) (x ix : Operand) (ok : Bool) (obj : Option AObj) : Option Out :=
  match P.underlying t, ev env x, (ev env ix).bind toV with
  | some (.map kt et), some (.map r), some kv =>
    match entriesE r obj with
    | some es => match findE P es.isEmpty kt kv es with
      | some (some i) => match es[i]? with
        | some e => if isTup e.2 then none else outV (if ok then .tup [ro e.2, .bool true] else ro e.2)
        | none => none
      | some none => match zeroOf P et with
        | some z => if isTup z then none else outV (if ok then .tup [ro z, .bool false] else ro z)
        | none => none
      | none => none
    | none => none
  | _, _, _ => none
def lenE (P : Program) (env : Env) (c : Call) (obj : Option AObj) : Option Out :=
  match c.args.toList, c.argTypes.toList with
  | [x], t :: _ => match P.underlying t, ev env x with
    | some (.slice _), some (.vec l _) => outV (.int .i64 l.length)
    | some .string, some (.str s) => outV (.int .i64 s.length)
    | some (.map _ _), some (.map r) => match entriesE r obj with
      | some es => outV (.int .i64 es.length)
      | none => none
    | _, _ => none
  | _, _ => none
def opL (P : Program) (env : Env) (obj : Option AObj) (o : Oper) : Option Out :=
  match o.op with
  | .load t a => loadE P env t a obj
  | .lookup t x ix ok => lookupE P env t x ix ok obj
  | .call c => match c.callee with
    | .builtin .len => lenE P env c obj
    | _ => none
  | _ => none

/-! ### Operations that turn the heap -/
def storeE (P : Program) (env : Env) (heap : Heap) (t : TypeId) (a x : Operand) : Option OutC :=
  match rawv env a, rawv env x, ev env x with
  | some (.ptr (some (id, off))), some r, some v => match hget heap id with
    | some (.box cs) =>
      if v.cells.length = P.cellsOf t ∧ off + v.cells.length ≤ cs.length ∧ (P.info? t).isSome = true then
        (match r, x with
        | .vec l (.ex k), .tmp j => some ⟨⟨[(j, .vec l .ro)], [], deadV, none⟩, hset heap id (.box (putAt cs off [.vec l (.tip k)])), [id]⟩
        | .vec l (.tip (k + 1)), .tmp j => some ⟨⟨[(j, .vec l .ro)], [], deadV, none⟩, hset heap id (.box (putAt cs off [.vec l (.tip (k + 1))])), [id]⟩
        | _, _ => some ⟨⟨esc env x, [], deadV, none⟩, hset heap id (.box (putAt cs off (ro v).cells)), [id]⟩)
      else none
    | _ => none
  | some (.sptr i k off), some _, some v => if ¬ off < subBig then none else match eget env i with
    | some (.vec l (.ex m)) => if (esc env x).all (fun p => p.1 != i) then (match l[k]? with
      | some (.agg cs) => if v.cells.length = P.cellsOf t ∧ off + v.cells.length ≤ cs.length ∧ (P.info? t).isSome = true then
          some ⟨⟨esc env x ++ [(i, .vec (l.set k (.agg (putAt cs off (strip v).cells))) (.ex m))], [], deadV, none⟩, heap, []⟩ else none
      | some _ => if off = 0 ∧ v.cells.length = 1 ∧ P.cellsOf t = 1 ∧ (match v with | .agg _ => false | _ => true) = true then
          some ⟨⟨esc env x ++ [(i, .vec (l.set k (strip v)) (.ex m))], [], deadV, none⟩, heap, []⟩ else none
      | none => none) else none
    | _ => none
  | _, _, _ => none
def boxE (env : Env) (heap : Heap) (x : Operand) : Option OutC :=
  match ev env x with
  | some v => some ⟨⟨esc env x, [], .ptr (some (heap.length, 0)), none⟩, .box (ro v).cells :: heap, []⟩
  | none => none
def mapPutE (P : Program) (env : Env) (heap : Heap) (t : TypeId) (m k x : Operand) : Option OutC :=
  match P.underlying t, ev env m, ev env k, ev env x with
  | some (.map kt _), some (.map (some id)), some ka, some v => match toV ka, hget heap id with
    | some kv, some (.map es st) => match findE P false kt kv es with
      | some (some i) => match (es[i]?).bind fun e => toV e.1 with
        | some ke => if Instr.sameBits 10000 ke kv then some ⟨⟨esc env x, [], deadV, none⟩, hset heap id (.map (es.set i (ka, strip v)) st), [id]⟩ else none
        | none => none
      | some none => some ⟨⟨esc env x, [], deadV, none⟩, hset heap id (.map (es ++ [(ka, strip v)]) ⟨st.bs ++ [st.cl], st.cl + 1⟩), [id]⟩
      | none => none
    | _, _ => none
  | _, _, _, _ => none
def deleteE (P : Program) (env : Env) (heap : Heap) (c : Call) : Option OutC :=
  match c.argTypes.toList, evAll env c.args.toList with
  | t :: _, some [.map (some id), ka] => match P.underlying t, toV ka, hget heap id with
    | some (.map kt _), some kv, some (.map es st) => match findE P es.isEmpty kt kv es with
      | some (some i) => some ⟨⟨[], [], deadV, none⟩, hset heap id (.map (es.eraseIdx i) ⟨st.bs.eraseIdx i, st.cl⟩), [id]⟩
      | some none => some ⟨⟨[], [], deadV, none⟩, heap, [id]⟩
      | none => none
    | _, _, _ => none
  | _, _ => none

/-! ### A range over a map of which at most one entry is left -/
def rangeE (P : Program) (env : Env) (heap : Heap) (t : TypeId) (x : Operand) : Option OutC :=
  match P.underlying t, ev env x with
  | some (.map _ _), some (.map none) => some ⟨⟨[], [], .ptr (some (heap.length, 0)), none⟩, .iter none 0 [] 0 :: heap, []⟩
  | some (.map _ _), some (.map (some id)) => match hget heap id with
    | some (.map _ s) => some ⟨⟨[], [], .ptr (some (heap.length, 0)), none⟩, .iter (some id) s.cl [] s.cl :: heap, []⟩
    | _ => none
  | _, _ => none
/-- the entries that have not been seen -/
def leftE (es : List (AVal × AVal)) (bs seen : List Nat) : List ((AVal × AVal) × Nat) := (es.zip bs).filter fun p => !seen.contains p.2
def nextE (env : Env) (heap : Heap) (x : Operand) (isString : Bool) : Option OutC :=
  if isString then none else match ev env x with
  | some (.ptr (some (id, 0))) => match hget heap id with
    | some (.iter none _ _ _) => some ⟨⟨[], [], .tup [.bool false], none⟩, heap, []⟩
    | some (.iter (some m) since seen last) => match hget heap m with
      | some (.map es s) => if !seen.isEmpty && !es.isEmpty && s.bs.all (fun b => decide (last ≤ b)) then none else
        match leftE es s.bs seen with
        | [] => some ⟨⟨[], [], .tup [.bool false], none⟩, heap, []⟩
        | [(e, b)] => if b < since then some ⟨⟨[], [], .tup [.bool true, ro e.1, ro e.2], none⟩, hset heap id (.iter (some m) since (seen ++ [b]) s.cl), [id]⟩ else none
        | _ => none
      | _ => none
    | _ => none
  | _ => none
def entryE (env : Env) (heap : Heap) (x : Operand) : Option OutC :=
  match ev env x with
  | some (.ptr (some (id, 0))) => match hget heap id with
    | some (.iter (some m) _ seen last) => match hget heap m, seen.getLast? with
      | some (.map es s), some stamp => if s.cl ≠ last then none else match (es.zip s.bs).find? fun p => p.2 == stamp with
        | some (e, _) => some ⟨⟨[], [], .tup [ro e.1, ro e.2], none⟩, heap, []⟩
        | none => none
      | _, _ => none
    | _ => none
  | _ => none

def takesOf (X : Ctx) : Fn → List Nat
  | .func f => X.takes f
  | _ => []
/-- the slots in which an operand's slice is held -/
def heldIn (env : Env) : Operand → List Nat
  | .tmp t => match eget env t with
    | some (.bor i) => [t, i]
    | _ => [t]
  | _ => []
def anyN (a b : List Nat) : Bool := a.any fun x => hasN b x
/-- a call's arguments: a callee that takes a slice for its own gets all that is known of it. What turns; whose borrowers go; the slots that are looked at; those whose slices are taken -/
structure ArgsE where
  args : List AVal
  ups : List (Nat × AVal)
  gone : List Nat
  seen : List Nat
  taken : List Nat
def argsE (env : Env) (tk : List Nat) : Nat → List Operand → Option ArgsE
  | _, [] => some ⟨[], [], [], [], []⟩
  | i, x :: r => match argsE env tk (i + 1) r, ev env x with
    | some s, some v =>
      let my := heldIn env x
      if anyN my s.taken then none
      else
        let plain : Option ArgsE := some ⟨strip v :: s.args, esc env x ++ s.ups, s.gone, my ++ s.seen, s.taken⟩
        if hasN tk i && !anyN my s.seen then match x, rawv env x with
          | _, some (.vec l (.tip 0)) => some ⟨.vec l (.tip 0) :: s.args, s.ups, s.gone, my ++ s.seen, s.taken⟩
          | .tmp j, some (.vec l (.ex k)) => some ⟨.vec l (.ex k) :: s.args, (j, deadV) :: s.ups, j :: s.gone, my ++ s.seen, j :: s.taken⟩
          | .tmp j, some (.vec l (.tip k)) => some ⟨.vec l (.tip k) :: s.args, (j, .vec l .ro) :: s.ups, s.gone, my ++ s.seen, j :: s.taken⟩
          | _, some (.bor i) => match eget env i with
            | some (.vec l (.ex k)) => some ⟨.vec l (.ex k) :: s.args, (i, deadV) :: s.ups, i :: s.gone, my ++ s.seen, i :: s.taken⟩
            | some (.vec l (.tip k)) => some ⟨.vec l (.tip k) :: s.args, (i, .vec l .ro) :: s.ups, s.gone, my ++ s.seen, i :: s.taken⟩
            | _ => plain
          | _, _ => plain
        else plain
    | _, _ => none
/-- the mark of a function whose first argument's slice is lent to it: it stands in the function's first slot to the end, and is handed back -/
def lentN : Nat := 1000
def lentF (takes : FuncId → List Nat) : Fn → Bool
  | .func f => hasN (takes f) lentN
  | _ => false
/-- the slot whose slice an operand is -/
def slotAt (env : Env) : Operand → Option Nat
  | .tmp t => match eget env t with
    | some (.bor i) => some i
    | some (.vec _ _) => some t
    | _ => none
  | _ => none
def argAt (env : Env) (xs : List Operand) (j : Nat) : Bool :=
  match xs with
  | x :: _ => slotAt env x == some j
  | [] => false
def isVecV : AVal → Bool
  | .vec _ _ => true
  | _ => false
/-- values that hold in any memory -/
def isScal : AVal → Bool
  | .int _ _ => true
  | .bool _ => true
  | .str _ => true
  | _ => false
/-- what a function to which a slice was lent hands back: the slice, and a result -/
def lendV (vs : List AVal) (u : AVal) : AVal :=
  match vs with
  | [r] => if isScal r then .tup [u, r] else u
  | _ => u
def lentV (v : AVal) : AVal × AVal :=
  match v with
  | .tup [u, r] => if isScal r then (u, r) else (v, deadV)
  | _ => (v, deadV)
/-- what a call leaves in the caller's slots -/
def handE (env : Env) (c : Call) (first : List AVal) (lent : Bool) (s : ArgsE) (v : AVal) (h : Heap) (w : List Nat) : Option OutC :=
  match lent with
  | false => some ⟨⟨s.ups, s.gone, v, none⟩, h, w⟩
  | true => match s.taken with
    | [] => some ⟨⟨s.ups, s.gone, if first.isEmpty && !c.args.toList.isEmpty then (lentV v).2 else deadV, none⟩, h, w⟩
    | [j] => if first.isEmpty && argAt env c.args.toList j && hasN s.gone j && isVecV (lentV v).1 then some ⟨⟨s.ups ++ [(j, (lentV v).1)], s.gone, (lentV v).2, none⟩, h, w⟩ else none
    | _ => none
/-- functions without text that the model knows -/
def isExtern (P : Program) (f : FuncId) (name : String) : Bool :=
  match P.funcs[f]? with
  | some fn => fn.body.isNone && fn.name == name && fn.origin == ""
  | none => false
def externE (P : Program) (env : Env) (heap : Heap) (c : Call) : Operand → Option OutC
  | .func f => if isExtern P f "maps.clone" then (match c.args.toList with
    | [x] => match ev env x with
      | some (.face t (.map (some id))) => match hget heap id with
        | some (.map es s) => some ⟨⟨[], [], .face t (.map (some heap.length)), none⟩, .map es s :: heap, []⟩
        | _ => none
      | _ => none
    | _ => none) else none
  | _ => none
def callOpE (X : Ctx) (env : Env) (heap : Heap) (c : Call) (f : Operand) : Option OutC :=
  match externE X.P env heap c f with
  | some oc => some oc
  | none =>
  match ev env f with
  | some (.func g first captured) => match argsE env (takesOf X g) 0 c.args.toList with
    | some s => match X.call g (first.map strip ++ s.args ++ captured.map strip) heap with
      | some (v, h, w) => handE env c first (lentF X.takes g) s v h w
      | none => none
    | none => none
  | _ => none
def opC (X : Ctx) (env facts : Env) (heap : Heap) (o : Oper) : Option OutC :=
  match o.op with
  | .box _ x => boxE env heap x
  | .store t a x => storeE X.P env heap t a x
  | .makeMap _ none => some ⟨⟨[], [], .map (some heap.length), none⟩, .map [] ⟨[], 0⟩ :: heap, []⟩
  | .mapUpdate t m k x | .insert t m k x => mapPutE X.P env heap t m k x
  | .range t x => rangeE X.P env heap t x
  | .next x s => nextE env heap x s
  | .entry x => entryE env heap x
  | .call c => match c.callee with
    | .builtin .append => appendC X.P env facts heap c
    | .builtin .delete => deleteE X.P env heap c
    | .value f => callOpE X env heap c f
    | _ => none
  | _ => none

/-! ### A region -/
inductive Kind where
  | N | L | C | X
  deriving DecidableEq
def loadedE (ops : List Oper) : List Operand → Bool
  | .tmp j :: _ => match srcOf ops j with
    | some (.load ..) => true
    | _ => false
  | _ => false
def kindE (ops : List Oper) (o : Oper) : Kind :=
  match o.op with
  | .load .. | .lookup .. => .L
  | .extract .. => .X
  | .box .. | .store .. | .makeMap .. | .mapUpdate .. | .insert .. | .range .. | .next .. | .entry .. => .C
  | .call c => match c.callee with
    | .builtin .len => .L
    | .builtin .append => if loadedE ops c.args.toList then .C else .N
    | .builtin .delete => .C
    | .value _ => .C
    | _ => .N
  | _ => .N

def guardSlot (ops : List Oper) (o : Oper) : List Nat :=
  match o.guard with
  | some (j, _) => match (ops[j]?).bind (·.dst) with
    | some d => [d]
    | none => []
  | none => []
/-- the slots that an operation names -/
def slotsOf (ops : List Oper) (o : Oper) : List Nat := tmpsOf o.op.operands.toList ++ guardSlot ops o ++ o.dst.toList
/-- the slots that these borrow from -/
def rootsOf (env : Env) : List Nat → List Nat
  | [] => []
  | t :: r => match eget env t with
    | some (.bor i) => i :: rootsOf env r
    | some (.sptr i _ _) => i :: rootsOf env r
    | _ => rootsOf env r
def viewOf (env : Env) : List Nat → Env
  | [] => []
  | t :: r => match eget env t with
    | some v => (t, v) :: viewOf env r
    | none => viewOf env r
def isUn : Option AVal → Bool
  | some .nilFunc => true
  | _ => false
/-- does an operation run: its guard's slot holds a truth value, or is known to hold nothing -/
def wantedE (env facts : Env) (ops : List Oper) (o : Oper) : Option Bool :=
  match o.guard with
  | none => some true
  | some (j, want) => match (ops[j]?).bind (·.dst) with
    | some d => match eget env d with
      | some (.bool b) => some (b == want)
      | _ => if isUn (eget facts d) then some false else none
    | none => some false
def factU (f : Env) : Option Nat → Env
  | some d => eset f d .nilFunc
  | none => f
/-- a root is a slice's slot -/
def isVecAt (env : Env) (i : Nat) : Bool :=
  match eget env i with
  | some (.vec _ _) => true
  | _ => false

/-- what an operation looked at and turned -/
structure Tr where
  rd : List Nat
  wr : List Nat
  req : List Nat
  wv : List Nat
  kl : List Nat
  lim : Option Nat
  deriving Inhabited

def killv (gone : List Nat) : AVal → AVal
  | .bor i => if hasN gone i then deadV else .bor i
  | .sptr i a b => if hasN gone i then deadV else .sptr i a b
  | v => v
def kills (gone : List Nat) (env : Env) : Env :=
  match gone with
  | [] => env
  | _ => env.map fun p => (p.1, killv gone p.2)
def factv (wr : List Nat) : AVal → AVal
  | .ptr (some (id, off)) => if hasN wr id then deadV else .ptr (some (id, off))
  | v => v
def factsKill (wr : List Nat) (f : Env) : Env :=
  match wr with
  | [] => f
  | _ => f.map fun p => (p.1, factv wr p.2)
def factPut (f : Env) (d : Option Nat) (x : Option (Nat × Nat)) : Env :=
  match d, x with
  | some d, some p => eset f d (.ptr (some p))
  | some d, none => match eget f d with
    | some _ => eset f d deadV
    | none => f
  | none, _ => f
def borOk (req : List Nat) (d : Option Nat) : AVal → Bool
  | .bor i => hasN req i && d != some i
  | .sptr i _ _ => hasN req i && d != some i
  | _ => true
def varOk : AVal → Bool
  | .bor _ => false
  | .sptr .. => false
  | _ => true

def goneOf (env : Env) (dst : Option Nat) (gone : List Nat) : List Nat :=
  match dst with
  | some d => match eget env d with
    | some _ => d :: gone
    | none => gone
  | none => gone
def upsOf (dst : Option Nat) (c : Out) : List (Nat × AVal) :=
  match dst with
  | some d => c.ups ++ [(d, c.val)]
  | none => c.ups
def isVar (vars : Nat) : Option Nat → Bool
  | some d => vars.testBit d
  | none => false
/-- a part of a tuple has been taken -/
def dead1 (i : Nat) : AVal → AVal
  | .tup vs => .tup (vs.set i deadV)
  | v => v
def punchE (env : Env) : Option (Nat × Nat) → Env
  | none => env
  | some (j, i) => match eget env j with
    | some v => eset env j (dead1 i v)
    | none => env
def killed1 (gone : List Nat) : AVal → Bool
  | .bor i => hasN gone i
  | .sptr i _ _ => hasN gone i
  | _ => false
/-- the slots whose borrowed slices go -/
def killedE (gone : List Nat) : Env → List Nat
  | [] => []
  | (i, v) :: r => if killed1 gone v then i :: killedE gone r else killedE gone r
def killedOf (gone : List Nat) (env : Env) : List Nat :=
  match gone with
  | [] => []
  | _ => killedE gone env
/-- what an operation did goes into the state; 'ahead': a part of a tuple that has been taken -/
def okE (req : List Nat) (dst : Option Nat) (c : OutC) : Bool :=
  (c.out.ups.all fun p => hasN req p.1 && varOk p.2) && borOk req dst c.out.val && (c.out.gone.all fun i => hasN req i)
def applyE (ahead : Option (Nat × Nat)) (st : St) (dst : Option Nat) (c : OutC) : St :=
  { env := esets (kills (goneOf st.env dst c.out.gone) (punchE st.env ahead)) (upsOf dst c.out), facts := factPut (factsKill c.wr st.facts) dst c.out.fact, heap := c.heap, wr := c.wr ++ st.wr }
def traceE (vars : Nat) (st : St) (dst : Option Nat) (req rd : List Nat) (lim : Option Nat) (c : OutC) : Tr :=
  { rd := rd, wr := c.wr, req := req, wv := if c.out.ups.isEmpty && c.out.gone.isEmpty && !isVar vars dst then [] else (upsOf dst c.out).map (·.1) ++ goneOf st.env dst c.out.gone, kl := killedOf (goneOf st.env dst c.out.gone) st.env, lim := lim }

def isTupN : AVal → Bool
  | .tup (_ :: _) => true
  | _ => false
def noFact (o : Out) : Out := { o with fact := none }
def factOf (id : Option Nat) (o : Out) : Out :=
  { o with fact := match o.fact with
      | some (i, off) => if id = some i then some (i, off) else none
      | none => none }

/-- what an operation that runs does: the part of a tuple that it takes, the objects that it looks at, what it turns -/
def planE (X : Ctx) (pre : List (Nat × Nat)) (k : Kind) (o : Oper) (env fs : Env) (heap : Heap) : Option (Option (Nat × Nat) × List Nat × OutC) :=
  match k with
  | .N => match opN X pre env o with
    | some out => some (none, [], ⟨noFact out, heap, []⟩)
    | none => none
  | .L => match opL X.P env ((aimE env o).bind (hget heap)) o with
    | some out => some (none, (aimE env o).toList, ⟨factOf (aimE env o) out, heap, []⟩)
    | none => none
  | .C => match opC X env fs heap o with
    | some c => some (none, [], { c with out := noFact c.out })
    | none => none
  | .X => match o.op with
    | .extract (.tmp j) i => if X.hint.vars.testBit j || o.dst == some j then none else match eget env j with
      | some (.tup vs) => match vs[i]? with
        | some v => if isTupN v then none else some (some (j, i), [], ⟨⟨[], [], v, none⟩, heap, []⟩)
        | none => none
      | _ => none
    | _ => none
def limE (k : Kind) (heap : Heap) : Option Nat := if k = .C then some heap.length else none

/-- one operation of a region, or its being passed by -/
def stepE (X : Ctx) (pre : List (Nat × Nat)) (ops : List Oper) (o : Oper) (st : St) : Option (St × Tr) :=
  let ts := slotsOf ops o
  let rs := rootsOf st.env ts
  if rs.all (fun i => X.hint.vars.testBit i && isVecAt st.env i) then
    let req := ts ++ rs
    let env := viewOf st.env req
    let fs := viewOf st.facts ts
    match wantedE env fs ops o with
    | some true => match planE X pre (kindE ops o) o env fs st.heap with
      | some (ahead, rd, c) => if okE req o.dst c then some (applyE ahead st o.dst c, traceE X.hint.vars st o.dst req rd (limE (kindE ops o) st.heap) c) else none
      | none => none
    | some false =>
      let c : OutC := ⟨⟨[], [], deadV, none⟩, st.heap, []⟩
      let st' := applyE none st o.dst c
      some ({ st' with facts := factU st'.facts o.dst }, traceE X.hint.vars st o.dst req [] none c)
    | none => none
  else none

/-- operations in their order; what each looked at and turned, the last first -/
def opsE (X : Ctx) (pre : List (Nat × Nat)) (ops : List Oper) : List Oper → St → List Tr → Option (St × List Tr)
  | [], st, acc => some (st, acc)
  | o :: r, st, acc => match stepE X pre ops o st with
    | some (st', t) => opsE X pre ops r st' (t :: acc)
    | none => none

/-- which operations lie before each, by its edges: a number of bits -/
def bitStep (acc : List Nat) (s : Nat) (e : Edge) : Nat := if Region.binds .any e then s ||| 2 ^ e.on ||| acc.getD e.on 0 else s
def beforeE : List Oper → List Nat → List Nat
  | [], acc => acc
  | o :: r, acc => beforeE r (acc ++ [o.after.toList.foldl (bitStep acc) 0])

def disjE (a b : List Nat) : Bool := !anyN a b
def limOk (s t : Tr) : Bool :=
  match s.lim with
  | some n => t.rd.all fun i => decide (i < n)
  | none => true
/-- may two operations, the first ahead of the second, change places -/
def trOk (s t : Tr) : Bool := disjE s.rd t.wr && disjE t.rd s.wr && disjE s.wv t.req && disjE t.wv s.req && disjE s.kl t.req && limOk s t && limOk t s
/-- no operation looks at what one that is not ordered with it turns -/
def apartE (bef : List Nat) (trs : List Tr) : Bool :=
  (List.range trs.length).all fun j => (List.range j).all fun i =>
    (bef.getD j 0).testBit i || trOk (trs.getD i default) (trs.getD j default)

/-- may two operations name this slot, whichever comes first -/
def partsE (a b : Oper) (j : Nat) : Bool :=
  match a.op, b.op with
  | .extract (.tmp x) i, .extract (.tmp y) k => x == j && y == j && i != k
  | _, _ => false
/-- the slot of a tuple that an operation takes apart -/
def tupOf (a : Oper) : List Nat :=
  match a.op with
  | .extract (.tmp x) _ => [x]
  | _ => []
def offE (ops : List Oper) (a b : Oper) : Bool :=
  (a.dst.toList.all fun d => !hasN (slotsOf ops b) d) && (tupOf a).all fun j => !hasN (slotsOf ops b) j || partsE a b j
/-- each operation's edges lead to earlier ones -/
def lowE (m : Region.Mode) (ops : List Oper) : Bool := (List.range ops.length).all fun i => match ops[i]? with
  | some o => o.after.toList.all fun e => !Region.binds m e || decide (e.on < i)
  | none => true
def ranksE : Nat → Nat → List (Nat × List Nat) → List (Nat × Nat) → List (Nat × Nat)
  | 0, _, _, acc => acc
  | f + 1, r, rem, acc => ranksE f (r + 1) (rem.filter fun p => !p.2.all fun d => (lookupN acc d).isSome) (((rem.filter fun p => p.2.all fun d => (lookupN acc d).isSome).map fun p => (p.1, r)) ++ acc)
def depsE (m : Region.Mode) : Nat → List Oper → List (Nat × List Nat)
  | _, [] => []
  | i, o :: r => (i, (o.after.toList.filter fun e => Region.binds m e).map fun e => e.on) :: depsE m (i + 1) r
def lessN (rk : List (Nat × Nat)) (a b : Nat) : Bool :=
  match lookupN rk a, lookupN rk b with
  | some x, some y => decide (x < y)
  | _, _ => false
/-- there is an order in which each operation comes behind those that it must follow -/
def rankE (m : Region.Mode) (ops : List Oper) : Bool :=
  (fun rk => (depsE m 0 ops).all fun p => p.2.all fun d => decide (d < ops.length) && lessN rk d p.1) (ranksE ops.length 0 (depsE m 0 ops) [])
/-- of a region, once for all its runs: operations that are not ordered name no slot that the other writes; and at most one of two turns the heap -/
def statE (ops : List Oper) : Bool :=
  let bef := beforeE ops []
  lowE .any ops &&
  (lowE .text ops && lowE .gc ops || rankE .text ops && rankE .gc ops) &&
  (List.range ops.length).all fun j => (List.range j).all fun i =>
    (bef.getD j 0).testBit i || match ops[i]?, ops[j]? with
      | some a, some b => offE ops a b && offE ops b a && !(decide (kindE ops a = .C) && decide (kindE ops b = .C))
      | _, _ => true

/-- of a function's code, once for all its runs: operations write slots that are there; regions that are run in any order can be -/
def goodCode (nt : Nat) : Code → Bool
  | .region _ ops draw => (ops.toList.all fun o => match o.dst with | some d => decide (d < nt) | none => true) && (!draw || statE ops.toList)
  | .seq a b => goodCode nt a && goodCode nt b
  | .cond _ a b => goodCode nt a && goodCode nt b
  | .block _ c => goodCode nt c
  | .loop c => goodCode nt c
  | .rangeFunc _ ps a b => (ps.toList.all fun p => decide (p < nt)) && goodCode nt a && goodCode nt b
  | _ => true
/-- the first slot is not written -/
def noDst0 : Code → Bool
  | .region _ ops _ => ops.toList.all fun o => o.dst != some 0
  | .seq a b => noDst0 a && noDst0 b
  | .cond _ a b => noDst0 a && noDst0 b
  | .block _ c => noDst0 c
  | .loop c => noDst0 c
  | _ => true
def progGood (P : Program) : Bool := P.funcs.toList.all fun fn => match fn.body with
  | some c => goodCode fn.ntmps c && !(fn.name == "runtime.NumGoroutine")
  | none => true

/-- the variables that a region lays, ahead of its operations -/
def preE (P : Program) : List Oper → Heap → Option (List (Nat × Nat) × Heap)
  | [], h => some ([], h)
  | o :: r, h => match o.op, o.dst with
    | .alloc t, some d => match zeroOf P t, preE P r h with
      | some z, some (pre, h') => if isTup z || (lookupN pre d).isSome then none else some ((d, h'.length) :: pre, .box (z.cells.map ro1) :: h')
      | _, _ => none
    | _, _ => preE P r h

def regionE (X : Ctx) (ops : List Oper) (draw : Bool) (st : St) : Option St :=
  match preE X.P ops st.heap with
  | some (pre, h) => match opsE X pre ops ops { st with heap := h } [] with
    | some (st', acc) => if !draw || ((acc.all fun t => t.wr.isEmpty && t.wv.isEmpty && t.kl.isEmpty) && (acc.all (fun t => t.lim.isNone) || acc.all (fun t => t.rd.isEmpty))) || apartE (beforeE ops []) acc.reverse then some { st' with facts := [] } else none
    | none => none
  | none => none

def iterE (f : St → Option (Ex × St)) : Nat → St → Option (Ex × St)
  | 0, _ => none
  | n + 1, st => match f st with
    | some (.normal, st') => iterE f n st'
    | r => r

def sortedB : Env → Bool
  | [] => true
  | (a, _) :: r => match r with
    | [] => true
    | (b, _) :: _ => decide (a < b) && sortedB r
def varV (v : AVal) : AVal := if varOk v then v else deadV
def trimE (vars : Nat) (e : Env) : Env := if sortedB e then (e.filter fun p => vars.testBit p.1).map fun p => (p.1, varV p.2) else []
/-- the slots that live on, all of them -/
def headE (vars nt : Nat) (e : Env) : Env := (List.range nt).filterMap fun i => if vars.testBit i then some (i, match eget e i with | some v => varV v | none => deadV) else none
def headS (vars nt : Nat) (st : St) : St := { st with env := headE vars nt st.env }

/-- what the rounds of a loop see of their frame's slots -/
def loopEnv : Env → Env
  | [] => []
  | (_, .vec _ (.ex _)) :: r => loopEnv r
  | (j, .vec l (.tip _)) :: r => (j, .vec l .ro) :: loopEnv r
  | (_, .bor _) :: r => loopEnv r
  | (_, .sptr _ _ _) :: r => loopEnv r
  | (_, .tup _) :: r => loopEnv r
  | (j, v) :: r => (j, v) :: loopEnv r

def codeE (X : Ctx) : Code → St → Option (Ex × St)
  | .skip, st => some (.normal, st)
  | .region _ ops draw, st => (regionE X ops.toList draw { st with env := trimE X.hint.vars st.env }).map fun s => (.normal, s)
  | .seq a b, st => match codeE X a st with
    | some (.normal, st') => codeE X b st'
    | r => r
  | .cond c a b, st => match ev st.env c with
    | some (.bool t) => if t then codeE X a st else codeE X b st
    | _ => none
  | .block id c, st => match codeE X c st with
    | some (.exit i, st') => if i = id then some (.normal, st') else some (.exit i, st')
    | r => r
  | .loop c, st => (iterE (fun s => codeE X c (headS X.hint.vars X.nt s)) X.n st).map fun p => (p.1, headS X.hint.vars X.nt p.2)
  | .exit id, st => some (.exit id, st)
  | .ret, st => some (.ret, st)
  | .rangeFunc f ps asg body, st => match ev st.env f with
    | some (.func (.func g) first captured) =>
      let id := st.heap.length
      let lp : ALoop := { nt := X.nt, env := loopEnv (trimE X.hint.vars st.env), fn := X.fn, params := ps.toList, assign := asg, body := body, resv := X.resv, state := .ready, pend := none }
      match X.call (.func g) ((first ++ [AVal.func (.yield id) [] []] ++ captured).map strip) (.loop lp :: st.heap) with
      | some (_, h, w) => match hget h id with
        | some (.loop lp') => if lp'.state = .busy then none else
          let st' : St := { st with heap := hset h id (.loop { lp' with state := .exhausted }), wr := id :: w ++ st.wr }
          match lp'.pend with
          | none => some (.normal, st')
          | some e => some (e, st')
        | _ => none
      | none => none
    | _ => none
  | _, _ => none

mutual
def noIds (n : Nat) : AVal → Bool
  | .ptr (some (id, _)) => decide (id < n)
  | .map (some id) => decide (id < n)
  | .eptr cs _ => noIdsL n cs
  | .vec l _ => noIdsL n l
  | .func (.yield id) a b => decide (id < n) && noIdsL n a && noIdsL n b
  | .func _ a b => noIdsL n a && noIdsL n b
  | .agg cs => noIdsL n cs
  | .tup vs => noIdsL n vs
  | .face _ v => noIds n v
  | _ => true
def noIdsL (n : Nat) : List AVal → Bool
  | [] => true
  | v :: r => noIds n v && noIdsL n r
end
def noIdsO (n : Nat) : Option AObj → Bool
  | some (.box cs) => noIdsL n cs
  | some (.map es _) => es.all fun e => noIds n e.1 && noIds n e.2
  | some (.iter m _ _ _) => noIds n (.map m)
  | some (.loop l) => l.env.all fun e => noIds n e.2
  | none => true

def enumFrom' {α : Type} : Nat → List α → List (Nat × α)
  | _, [] => []
  | n, a :: r => (n, a) :: enumFrom' (n + 1) r

def resE (P : Program) (st : St) : ResultVar → Option AVal
  | .tmp t => match eget st.env t with
    | some (.bor _) | some (.sptr ..) | some (.tup (_ :: _)) => none
    | v => v
  | .cell a t => match eget st.env a with
    | some (.ptr (some (id, off))) => match hget st.heap id with
      | some (.box cs) => partOf P t cs off
      | _ => none
    | _ => none

def nodupN : List Nat → Bool
  | [] => true
  | a :: r => !hasN r a && nodupN r
def resSlots (fn : Func) : List Nat := fn.results.toList.filterMap fun | .tmp t => some t | _ => none

/-- what a call hands back: what it laid goes, where nothing leads to it -/
def endE (n0 : Nat) (v : AVal) (st : St) : AVal × Heap × List Nat :=
  let w := st.wr.filter fun i => decide (i < n0)
  if noIds n0 v && w.all (fun i => noIdsO n0 (hget st.heap i)) then (v, st.heap.drop (st.heap.length - n0), w) else (v, st.heap, w)

/-- a value that hangs on no holder -/
def passB : AVal → Bool
  | .vec _ (.ex _) => false
  | .vec _ (.tip (_ + 1)) => false
  | .tup (_ :: _) => false
  | _ => true
def tupA : List AVal → AVal
  | [v] => v
  | vs => .tup vs
/-- the slots of a round's frame -/
def roundEnv (ps : List Nat) (args : List AVal) (env : Env) : Env := esets env (ps.zip args)

/-- what a call comes to: its results, or what has become of the slice that was lent -/
def outE (n0 : Nat) (lent : Bool) (vs : List AVal) (st : St) : Option (AVal × Heap × List Nat) :=
  match lent with
  | false => some (endE n0 (give (tupA vs)) st)
  | true => match eget st.env 0 with
    | some (.vec l o) => match endE n0 (.vec l o) st with
      | (v, h, w) => some (lendV vs v, h, w)
    | _ => none
def callE (P : Program) (hint : FuncId → Hint) (takes : FuncId → List Nat) (ora : FuncId → List AVal → Heap → Option (AVal × Heap × List Nat)) : Nat → Fn → List AVal → Heap → Option (AVal × Heap × List Nat)
  | 0, _, _, _ => none
  | n + 1, .func f, args, H =>
    match if hasN (takes f) lentN then none else ora f args H with
    | some r => some r
    | none => match P.funcs[f]? with
      | some fn => match fn.body with
        | some body => if hasN (takes f) lentN && (!noDst0 body || args.isEmpty) then none else
          match codeE { P := P, nt := fn.ntmps, call := callE P hint takes ora n, n := n, hint := hint f, takes := takes, resv := resSlots fn, fn := f } body { env := enumFrom' 0 args, facts := [], heap := H, wr := [] } with
          | some (.normal, st) | some (.ret, st) =>
            match if nodupN (resSlots fn) then mapO (resE P st) fn.results.toList else none with
            | some vs => outE H.length (hasN (takes f) lentN) vs st
            | none => none
          | _ => none
        | none => none
      | none => none
  | n + 1, .yield id, args, H => match hget H id with
    | some (.loop lp) => if lp.state = .ready ∧ lp.params.length = args.length ∧ (args.all passB) = true ∧ (lp.env.all fun p => passB p.2) = true then
        match codeE { P := P, nt := lp.nt, call := callE P hint takes ora n, n := n, hint := hint lp.fn, takes := takes, resv := lp.resv, fn := lp.fn } lp.assign { env := roundEnv lp.params args lp.env, facts := [], heap := H, wr := [] } with
        | some (.normal, st) => match hget st.heap id with
          | some (.loop lp1) => if lp1.state ≠ .ready then none else match codeE { P := P, nt := lp.nt, call := callE P hint takes ora n, n := n, hint := hint lp.fn, takes := takes, resv := lp.resv, fn := lp.fn } lp.body { st with heap := hset st.heap id (.loop { lp1 with state := .busy }), wr := id :: st.wr } with
            | some (e, st2) => match hget st2.heap id with
              | some (.loop lp2) =>
                let pend := match e with | .normal => none | e => some e
                some (.bool pend.isNone, hset st2.heap id (.loop { lp2 with state := if pend.isNone then .ready else .done, pend := pend }), id :: st2.wr.filter (fun i => decide (i < H.length)))
              | _ => none
            | none => none
          | _ => none
        | _ => none
      else none
    | _ => none
  | _, _, _, _ => none

end Go.Abs
end

section
/- What the evaluator's values stand for in the model's memory: the relations, and that they abide what the evaluator's steps do to a memory. -/
namespace Go.Abs
open Go

/-- who may write behind what is fixed of a block -/
inductive Holder where
  | slot (d i : Nat)
  | comp (d i j : Nat)
  | cell (id off : Nat)

/-- what ties the evaluator's memory to the model's: which block an object is; how far a block is fixed; whose a block is -/
structure G where
  rho : Nat → Option Nat
  ext : Nat → Nat
  ow : Nat → Option Holder

/-- each the value of one cell -/
def One (vs : List Value) : Prop := ∀ x ∈ vs, x.oneCell' = true

mutual
inductive RelV (g : G) (w : World) : AVal → Value → Prop
  | bool (b : Bool) : RelV g w (.bool b) (.bool b)
  | int (k : IntKind) (n : Int) : RelV g w (.int k n) (.int k n)
  | str (s : List UInt8) : RelV g w (.str s) (.string ⟨s.toArray⟩)
  | ptrN : RelV g w (.ptr none) (.pointer none)
  | ptr {id b : Nat} (off : Nat) (h : g.rho id = some b) : RelV g w (.ptr (some (id, off))) (.pointer (some ⟨b, off, none⟩))
  | eptr {cs : List AVal} {vs : List Value} {b o : Nat} (off : Nat) (h : RelL g w cs vs) (h1 : One vs) (hh : w.rangeAt b o vs) (he : o + vs.length ≤ g.ext b) : RelV g w (.eptr cs off) (.pointer (some ⟨b, o + off, none⟩))
  | vecE (own : Own) (a : Option Addr) (cap : Nat) (ho : own = .tip 0 → cap = 0) (hz : own = .nul → a = none ∧ cap = 0 := by simp) : RelV g w (.vec [] own) (.slice a 0 cap)
  | vec {l : List AVal} (own : Own) {b o cap k : Nat} {vs : List Value} (hk : ∀ e ∈ l, e.cells.length = k) (h : RelL g w (l.flatMap AVal.cells) vs) (h1 : One vs) (hh : w.rangeAt b o vs) (he : o + vs.length ≤ g.ext b) (hc : l.length ≤ cap) (ho : own = .tip 0 → l.length = cap) (hz : own ≠ .nul := by simp) :
      RelV g w (.vec l own) (.slice (some ⟨b, o, none⟩) l.length cap)
  | mapN : RelV g w (.map none) (.map none)
  | map {id b : Nat} (h : g.rho id = some b) : RelV g w (.map (some id)) (.map (some b))
  | func {fn : Fn} {fs cs : List AVal} {xs ys : List Value} (hy : ∀ l, fn ≠ .yield l) (h1 : RelL g w fs xs) (h2 : RelL g w cs ys) : RelV g w (.func fn fs cs) (.func fn xs.toArray ys.toArray)
  | yieldF {id b : Nat} (h : g.rho id = some b) : RelV g w (.func (.yield id) [] []) (.func (.yield b) #[] #[])
  | nilFunc : RelV g w .nilFunc .nilFunc
  | agg {cs : List AVal} {vs : List Value} (h : RelL g w cs vs) (h1 : One vs) : RelV g w (.agg cs) (.agg vs.toArray)
  | tup {cs : List AVal} {vs : List Value} (h : RelL g w cs vs) : RelV g w (.tup cs) (.tuple vs.toArray)
  | face (t : TypeId) {v : AVal} {x : Value} (h : RelV g w v x) : RelV g w (.face t v) (.iface t x)
  | nilFace : RelV g w .nilFace .nilIface
inductive RelL (g : G) (w : World) : List AVal → List Value → Prop
  | nil : RelL g w [] []
  | cons {v : AVal} {x : Value} {vs : List AVal} {xs : List Value} (h : RelV g w v x) (hs : RelL g w vs xs) : RelL g w (v :: vs) (x :: xs)
end

/-- what is fixed stays -/
structure Le (g : G) (w : World) (g' : G) (w' : World) : Prop where
  rho : ∀ id b, g.rho id = some b → g'.rho id = some b
  ext : ∀ b, g.ext b ≤ g'.ext b
  cell : ∀ b i, i < g.ext b → w'.cell? ⟨b, i, none⟩ = w.cell? ⟨b, i, none⟩

theorem Le.refl (g : G) (w : World) : Le g w g w := ⟨fun _ _ h => h, fun _ => Nat.le_refl _, fun _ _ _ => rfl⟩
theorem Le.trans {g g1 g2 : G} {w w1 w2 : World} (h : Le g w g1 w1) (k : Le g1 w1 g2 w2) : Le g w g2 w2 :=
  ⟨fun id b e => k.rho id b (h.rho id b e), fun b => Nat.le_trans (h.ext b) (k.ext b), fun b i hi => (k.cell b i (Nat.lt_of_lt_of_le hi (h.ext b))).trans (h.cell b i hi)⟩

theorem rangeAt_le {g : G} {w : World} {g' : G} {w' : World} (h : Le g w g' w') {b o : Nat} {vs : List Value} (hh : w.rangeAt b o vs) (he : o + vs.length ≤ g.ext b) : w'.rangeAt b o vs := by
  intro j v hj
  have hlt : j < vs.length := by
    rcases Nat.lt_or_ge j vs.length with h1 | h1
    · exact h1
    · rw [List.getElem?_eq_none h1] at hj; cases hj
  rw [h.cell b (o + j) (by omega)]
  exact hh j v hj

mutual
theorem RelV.le {g : G} {w : World} {g' : G} {w' : World} (h : Le g w g' w') : ∀ {v : AVal} {x : Value}, RelV g w v x → RelV g' w' v x
  | _, _, .bool b => .bool b
  | _, _, .int k n => .int k n
  | _, _, .str s => .str s
  | _, _, .ptrN => .ptrN
  | _, _, .ptr off hr => .ptr off (h.rho _ _ hr)
  | _, _, .eptr off hl h1 hh he => .eptr off (RelL.le h hl) h1 (rangeAt_le h hh he) (Nat.le_trans he (h.ext _))
  | _, _, .vecE own a cap ho hz => .vecE own a cap ho hz
  | _, _, .vec own hk hl h1 hh he hc ho hz => .vec own hk (RelL.le h hl) h1 (rangeAt_le h hh he) (Nat.le_trans he (h.ext _)) hc ho hz
  | _, _, .mapN => .mapN
  | _, _, .map hr => .map (h.rho _ _ hr)
  | _, _, .func hy h1 h2 => .func hy (RelL.le h h1) (RelL.le h h2)
  | _, _, .yieldF hr => .yieldF (h.rho _ _ hr)
  | _, _, .nilFunc => .nilFunc
  | _, _, .agg hl h1 => .agg (RelL.le h hl) h1
  | _, _, .tup hl => .tup (RelL.le h hl)
  | _, _, .face t hv => .face t (RelV.le h hv)
  | _, _, .nilFace => .nilFace
theorem RelL.le {g : G} {w : World} {g' : G} {w' : World} (h : Le g w g' w') : ∀ {v : List AVal} {x : List Value}, RelL g w v x → RelL g' w' v x
  | _, _, .nil => .nil
  | _, _, .cons h1 h2 => .cons (RelV.le h h1) (RelL.le h h2)
end

section lists
variable {g : G} {w : World}
theorem RelL.length {vs : List AVal} {xs : List Value} : RelL g w vs xs → vs.length = xs.length
  | .nil => rfl
  | .cons _ h => by simp [RelL.length h]
theorem RelL.get {vs : List AVal} {xs : List Value} : RelL g w vs xs → ∀ {j : Nat} {v : AVal}, vs[j]? = some v → ∃ x, xs[j]? = some x ∧ RelV g w v x
  | .nil, j, v, hj => by simp at hj
  | .cons h hs, 0, v, hj => by simp at hj; subst hj; exact ⟨_, rfl, h⟩
  | .cons h hs, j + 1, v, hj => by simp at hj; simpa using RelL.get hs hj
theorem RelL.mk : ∀ {vs : List AVal} {xs : List Value}, vs.length = xs.length → (∀ (j : Nat) (v : AVal) (x : Value), vs[j]? = some v → xs[j]? = some x → RelV g w v x) → RelL g w vs xs
  | [], [], _, _ => .nil
  | [], _ :: _, h, _ => by simp at h
  | _ :: _, [], h, _ => by simp at h
  | v :: vs, x :: xs, h, k => .cons (k 0 v x rfl rfl) (RelL.mk (by simpa using h) fun j v' x' h1 h2 => k (j + 1) v' x' (by simpa using h1) (by simpa using h2))
theorem RelL.append {vs us : List AVal} {xs ys : List Value} : RelL g w vs xs → RelL g w us ys → RelL g w (vs ++ us) (xs ++ ys)
  | .nil, k => k
  | .cons h hs, k => .cons h (RelL.append hs k)
theorem RelL.drop {vs : List AVal} {xs : List Value} (n : Nat) (h : RelL g w vs xs) : RelL g w (vs.drop n) (xs.drop n) :=
  .mk (by simp [h.length]) fun j v x h1 h2 => by
    rw [List.getElem?_drop] at h1 h2
    obtain ⟨y, hy, hr⟩ := h.get h1
    rw [hy] at h2; cases h2; exact hr
theorem RelL.take {vs : List AVal} {xs : List Value} (n : Nat) (h : RelL g w vs xs) : RelL g w (vs.take n) (xs.take n) :=
  .mk (by simp [h.length]) fun j v x h1 h2 => by
    rw [List.getElem?_take] at h1 h2
    split at h1
    · rename_i hlt
      rw [if_pos hlt] at h2
      obtain ⟨y, hy, hr⟩ := h.get h1
      rw [hy] at h2; cases h2; exact hr
    · cases h1
theorem RelL.set {vs : List AVal} {xs : List Value} (n : Nat) {v : AVal} {x : Value} (h : RelL g w vs xs) (hv : RelV g w v x) : RelL g w (vs.set n v) (xs.set n x) :=
  .mk (by simp [h.length]) fun j v' x' h1 h2 => by
    rw [List.getElem?_set] at h1 h2
    rw [h.length] at h1
    split at h1
    · rename_i e
      rw [if_pos e] at h2
      split at h1
      · rename_i hl
        rw [if_pos hl] at h2
        cases h1; cases h2; exact hv
      · cases h1
    · rename_i e
      rw [if_neg e] at h2
      obtain ⟨y, hy, hr⟩ := h.get h1
      rw [hy] at h2; cases h2; exact hr
theorem RelL.map {f : AVal → AVal} (hf : ∀ v x, RelV g w v x → RelV g w (f v) x) {vs : List AVal} {xs : List Value} : RelL g w vs xs → RelL g w (vs.map f) xs
  | .nil => .nil
  | .cons h hs => .cons (hf _ _ h) (RelL.map hf hs)

/-- The flags of a value are nothing to what it reads as. -/
theorem RelV.own {l : List AVal} {o : Own} {x : Value} (h : RelV g w (.vec l o) x) (o' : Own) (hoo : o' = .tip 0 → o = .tip 0 := by simp) (hn : o' ≠ .nul := by simp) : RelV g w (.vec l o') x := by
  cases h with
  | vecE _ a cap ho hz => exact .vecE o' a cap (fun e => ho (hoo e)) fun e => absurd e hn
  | vec _ hk hl h1 hh he hc ho hz => exact .vec o' hk hl h1 hh he hc (fun e => ho (hoo e)) hn
theorem RelV.ro1 {v : AVal} {x : Value} (h : RelV g w v x) : RelV g w (ro1 v) x := by
  unfold Abs.ro1
  split
  · exact h.own _
  · exact h.own _
  · exact h
theorem RelV.strip1 {v : AVal} {x : Value} (h : RelV g w v x) : RelV g w (strip1 v) x := by
  unfold Abs.strip1
  split
  · exact h
  · exact h.own _
  · exact h
theorem RelV.ro {v : AVal} {x : Value} (h : RelV g w v x) : RelV g w (ro v) x := by
  unfold Abs.ro
  split
  · cases h with
    | agg hl h1 => exact .agg (hl.map fun _ _ k => k.ro1) h1
  · cases h with
    | tup hl => exact .tup (hl.map fun _ _ k => k.ro1)
  · exact h.ro1
theorem RelV.strip {v : AVal} {x : Value} (h : RelV g w v x) : RelV g w (strip v) x := by
  unfold Abs.strip
  split
  · cases h with
    | agg hl h1 => exact .agg (hl.map fun _ _ k => k.strip1) h1
  · cases h with
    | tup hl => exact .tup (hl.map fun _ _ k => k.strip1)
  · exact h.strip1

theorem RelV.cells {v : AVal} {x : Value} (h : RelV g w v x) : RelL g w v.cells x.cells.toList := by
  cases h with
  | agg hl _ => simpa [AVal.cells, Value.cells] using hl
  | vecE own a cap ho hz => exact .cons (.vecE own a cap ho hz) .nil
  | vec own hk hl h1 hh he hc ho hz => exact .cons (.vec own hk hl h1 hh he hc ho hz) .nil
  | _ => exact .cons (by constructor <;> assumption) .nil
end lists

/-! ### Values that lead to no late object -/
theorem noIdsL_append {n : Nat} : ∀ {a b : List AVal}, noIdsL n a = true → noIdsL n b = true → noIdsL n (a ++ b) = true
  | [], _, _, h => h
  | v :: a, b, h, k => by
    simp only [noIdsL, Bool.and_eq_true] at h
    simp only [List.cons_append, noIdsL, Bool.and_eq_true]
    exact ⟨h.1, noIdsL_append h.2 k⟩
theorem noIdsL_cells {n : Nat} {v : AVal} (h : noIds n v = true) : noIdsL n v.cells = true := by
  unfold AVal.cells
  split
  · simpa [noIds] using h
  · simp [noIdsL, h]
theorem noIdsL_flat {n : Nat} : ∀ {l : List AVal}, noIdsL n l = true → noIdsL n (l.flatMap AVal.cells) = true
  | [], _ => rfl
  | v :: l, h => by
    simp only [noIdsL, Bool.and_eq_true] at h
    simp only [List.flatMap_cons]
    exact noIdsL_append (noIdsL_cells h.1) (noIdsL_flat h.2)

mutual
theorem RelV.low {g g' : G} {w : World} {n : Nat} (hr : ∀ id b, id < n → g.rho id = some b → g'.rho id = some b) (he : ∀ b, g.ext b ≤ g'.ext b) : ∀ {v : AVal} {x : Value}, RelV g w v x → noIds n v = true → RelV g' w v x
  | _, _, .bool b, _ => .bool b
  | _, _, .int k n, _ => .int k n
  | _, _, .str s, _ => .str s
  | _, _, .ptrN, _ => .ptrN
  | _, _, @RelV.ptr _ _ id b off h, hn => by
    have hlt : id < n := by simpa [noIds] using hn
    exact .ptr off (hr _ _ hlt h)
  | _, _, .eptr off hl h1 hh hb, hn => .eptr off (RelL.low hr he hl (by simpa [noIds] using hn)) h1 hh (Nat.le_trans hb (he _))
  | _, _, .vecE own a cap ho hz, _ => .vecE own a cap ho hz
  | _, _, .vec own hk hl h1 hh hb hc ho hz, hn => .vec own hk (RelL.low hr he hl (noIdsL_flat (by simpa [noIds] using hn))) h1 hh (Nat.le_trans hb (he _)) hc ho hz
  | _, _, .mapN, _ => .mapN
  | _, _, @RelV.map _ _ id b h, hn => by
    have hlt : id < n := by simpa [noIds] using hn
    exact .map (hr _ _ hlt h)
  | _, _, @RelV.func _ _ fn fs cs xs ys hy h1 h2, hn => by
    have hn' : noIdsL n fs = true ∧ noIdsL n cs = true := by
      cases fn with
      | yield l => exact absurd rfl (hy l)
      | _ => simpa [noIds] using hn
    exact .func hy (RelL.low hr he h1 hn'.1) (RelL.low hr he h2 hn'.2)
  | _, _, @RelV.yieldF _ _ id b h, hn => by
    have hlt : id < n := by simpa [noIds, noIdsL] using hn
    exact .yieldF (hr _ _ hlt h)
  | _, _, .nilFunc, _ => .nilFunc
  | _, _, .agg hl h1, hn => .agg (RelL.low hr he hl (by simpa [noIds] using hn)) h1
  | _, _, .tup hl, hn => .tup (RelL.low hr he hl (by simpa [noIds] using hn))
  | _, _, .face t hv, hn => .face t (RelV.low hr he hv (by simpa [noIds] using hn))
  | _, _, .nilFace, _ => .nilFace
theorem RelL.low {g g' : G} {w : World} {n : Nat} (hr : ∀ id b, id < n → g.rho id = some b → g'.rho id = some b) (he : ∀ b, g.ext b ≤ g'.ext b) : ∀ {v : List AVal} {x : List Value}, RelL g w v x → noIdsL n v = true → RelL g' w v x
  | _, _, .nil, _ => .nil
  | _, _, .cons h1 h2, hn => .cons (RelV.low hr he h1 (by simp [noIdsL] at hn; exact hn.1)) (RelL.low hr he h2 (by simp [noIdsL] at hn; exact hn.2))
end
end Go.Abs
end

section
/- The invariant that ties a frame's slots and the numbered objects to a memory; what a step may turn. -/
namespace Go.Abs
open Go

def unfrozen (c : Array Value) (fr : Nat × Nat) : Prop := ∀ j, j < c.size → ¬ (fr.1 ≤ j ∧ j < fr.2)
/-- no cell of the block is shared with a string -/
def Calm (w : World) (b : Nat) : Prop := ∃ c e fr, w.heap[b]? = some (.cells c e fr) ∧ unfrozen c fr ∧ fr.1 ≤ fr.2
/-- cells that may be written -/
def Room (w : World) (b o n : Nat) : Prop := w.there b o n ∧ Calm w b

def TipOK (g : G) (w : World) (h : Holder) (l : List AVal) (k : Nat) (x : Value) : Prop :=
  ∃ a n cap, x = .slice a n cap ∧ (n = cap ∨ (k ≠ 0 ∧ ∃ b o, a = some ⟨b, o, none⟩ ∧ g.ow b = some h ∧ (∀ e ∈ l, e.cells.length = k) ∧ g.ext b = o + n * k ∧ w.there b (o + n * k) ((cap - n) * k)))

def ExOK (g : G) (w : World) (h : Holder) (l : List AVal) (k : Nat) (x : Value) : Prop :=
  ∃ a cap, x = .slice a l.length cap ∧ ((l = [] ∧ cap = 0) ∨ (k ≠ 0 ∧ l.length ≤ cap ∧ ∃ b o vs, a = some ⟨b, o, none⟩ ∧ g.ow b = some h ∧ g.ext b = 0 ∧ (∀ e ∈ l, e.cells.length = k) ∧
    RelL g w (l.flatMap AVal.cells) vs ∧ One vs ∧ w.rangeAt b o vs ∧ Room w b o (cap * k)))

/-- what a holder's value stands for -/
def HoldOK (g : G) (w : World) (h : Holder) : AVal → Value → Prop
  | .vec l (.ex k), x => ExOK g w h l k x
  | .vec l (.tip k), x => RelV g w (.vec l (.tip k)) x ∧ TipOK g w h l k x
  | v, x => RelV g w v x
def CompOK (g : G) (w : World) (h : Holder) (v : AVal) (x : Value) : Prop := v = deadV ∨ HoldOK g w h v x
def CellOK (g : G) (w : World) (h : Holder) (v : AVal) (x : Value) : Prop :=
  x.oneCell' = true ∧ RelV g w v x ∧ ∀ l k, v = .vec l (.tip k) → TipOK g w h l k x

/-- what a place in a slot's slice stands for: a part of an element, or some elements -/
def SubOK (b q idx len off : Nat) (x : Value) : Prop :=
  (off < subBig ∧ x = .pointer (some ⟨b, q + off, none⟩)) ∨ (subBig ≤ off ∧ idx + (off - subBig) ≤ len ∧ ∃ c, x = .slice (some ⟨b, q, none⟩) (off - subBig) c)
theorem SubOK.ptr {b q idx len off : Nat} {x : Value} (h : SubOK b q idx len off x) (hlt : off < subBig) : x = .pointer (some ⟨b, q + off, none⟩) := by
  rcases h with h | h
  · exact h.2
  · omega
/-- a slot of a frame at depth d -/
def SlotOK (g : G) (w : World) (d : Nat) (env : Env) (tm : Nat → Option Value) (i : Nat) (x : Value) : AVal → Prop
  | .tup vs => vs = [] ∨ ∃ xs : Array Value, x = .tuple xs ∧ xs.size = vs.length ∧ ∀ (j : Nat) (v : AVal), vs[j]? = some v → ∃ y, xs[j]? = some y ∧ CompOK g w (.comp d i j) v y
  | .bor j => ∃ l o, eget env j = some (.vec l o) ∧ tm j = some x
  | .sptr j idx off => ∃ l o b p n cap k, eget env j = some (.vec l o) ∧ tm j = some (.slice (some ⟨b, p, none⟩) n cap) ∧ idx < l.length ∧ (∀ e ∈ l, e.cells.length = k) ∧ SubOK b (p + idx * k) idx l.length off x
  | v => HoldOK g w (.slot d i) v x

def EnvOK (g : G) (w : World) (d : Nat) (env : Env) (tm : Nat → Option Value) : Prop :=
  ∀ i v, eget env i = some v → ∃ x, tm i = some x ∧ SlotOK g w d env tm i x v


def exCode : Option Ex → Option Code
  | none => none
  | some .normal => none
  | some (.exit id) => some (.exit id)
  | some .ret => some .ret

/-- an object and its block -/
def ObjOK (g : G) (w : World) (id b : Nat) : AObj → Prop
  | .box cs => ∃ c e fr, w.heap[b]? = some (.cells c e fr) ∧ unfrozen c fr ∧ c.size = cs.length ∧ ∀ (j : Nat) (v : AVal), cs[j]? = some v → ∃ x, c[j]? = some x ∧ CellOK g w (.cell id j) v x
  | .iter m since seen last => ∃ q, w.heap[b]? = some (.mapIter q since seen.toArray last) ∧ RelV g w (.map m) (.map q)
  | .map es s => ∃ ents clock, w.heap[b]? = some (.map ents clock) ∧ (ents.size = es.length ∧ clock = s.cl ∧ ents.toList.map MapEntry.born = s.bs) ∧
      ∀ (j : Nat) (e : AVal × AVal), es[j]? = some e → ∃ m, ents[j]? = some m ∧ RelV g w e.1 m.key ∧ RelV g w e.2 m.val
  | .loop lp => ∃ L : Loop, w.heap[b]? = some (.loop L) ∧ lp.nt ≤ L.tmps.size ∧ L.state = lp.state ∧ L.pending = exCode lp.pend ∧ L.params.toList = lp.params ∧ L.assign = lp.assign ∧ L.body = lp.body ∧
      ∀ i v, eget lp.env i = some v → ∃ x, L.tmps[i]? = some x ∧ RelV g w v x

structure Inv (B : Nat) (g : G) (w : World) (H : Heap) : Prop where
  rho : ∀ id b, g.rho id = some b → id < H.length ∧ B ≤ b ∧ b < w.heap.size ∧ g.ext b = 0 ∧ g.ow b = none
  inj : ∀ id id' b, g.rho id = some b → g.rho id' = some b → id = id'
  ext : ∀ b, 0 < g.ext b → b < w.heap.size
  ow : ∀ b h, g.ow b = some h → B ≤ b ∧ b < w.heap.size
  obj : ∀ id o b, hget H id = some o → g.rho id = some b → ObjOK g w id b o
  base : B ≤ w.heap.size

/-- none of the holders from depth d on -/
def Foreign (d : Nat) (o : Option Holder) : Prop :=
  o = none ∨ ∃ d' i, d' < d ∧ (o = some (.slot d' i) ∨ ∃ j, o = some (.comp d' i j))
theorem Foreign.mono {d d' : Nat} (h : d ≤ d') {o : Option Holder} (k : Foreign d o) : Foreign d' o := by
  rcases k with k | ⟨e, i, he, k⟩
  · exact .inl k
  · exact .inr ⟨e, i, by omega, k⟩

/-- what a frame at depth d may do to a memory -/
structure Step (d : Nat) (g : G) (w : World) (g' : G) (w' : World) : Prop where
  le : Le g w g' w'
  size : w.heap.size ≤ w'.heap.size
  os : w'.os = w.os
  tape : w'.tape = w.tape
  output : w'.output = w.output
  keep : ∀ b, b < w.heap.size → (∀ id, g.rho id ≠ some b) → Foreign d (g.ow b) → w'.heap[b]? = w.heap[b]? ∧ g'.ow b = g.ow b ∧ g'.ext b = g.ext b ∧ ∀ id, g'.rho id ≠ some b

theorem Step.refl (d : Nat) (g : G) (w : World) : Step d g w g w := ⟨.refl g w, Nat.le_refl _, rfl, rfl, rfl, fun _ _ h _ => ⟨rfl, rfl, rfl, h⟩⟩
theorem Step.trans {d : Nat} {g g1 g2 : G} {w w1 w2 : World} (h : Step d g w g1 w1) (k : Step d g1 w1 g2 w2) : Step d g w g2 w2 :=
  ⟨h.le.trans k.le, Nat.le_trans h.size k.size, k.os.trans h.os, k.tape.trans h.tape, k.output.trans h.output, fun b hb hr hf => by
    obtain ⟨h1, h2, h3, h4⟩ := h.keep b hb hr hf
    obtain ⟨k1, k2, k3, k4⟩ := k.keep b (Nat.lt_of_lt_of_le hb h.size) h4 (by rw [h2]; exact hf)
    exact ⟨k1.trans h1, k2.trans h2, k3.trans h3, k4⟩⟩
theorem Step.mono {d d' : Nat} (hd : d ≤ d') {g g' : G} {w w' : World} (h : Step d' g w g' w') : Step d g w g' w' :=
  ⟨h.le, h.size, h.os, h.tape, h.output, fun b hb hr hf => h.keep b hb hr (hf.mono hd)⟩

theorem there_of_heap {w w' : World} {b o n : Nat} (h : w'.heap[b]? = w.heap[b]?) (k : w.there b o n) : w'.there b o n := by
  intro j hj
  have := k j hj
  simp only [World.cell?, World.frozen?, h] at this ⊢
  exact this
theorem room_of_heap {w w' : World} {b o n : Nat} (h : w'.heap[b]? = w.heap[b]?) (k : Room w b o n) : Room w' b o n :=
  ⟨there_of_heap h k.1, by obtain ⟨c, e, fr, h1, h2⟩ := k.2; exact ⟨c, e, fr, h.trans h1, h2⟩⟩
theorem rangeAt_of_heap {w w' : World} {b o : Nat} {vs : List Value} (h : w'.heap[b]? = w.heap[b]?) (k : w.rangeAt b o vs) : w'.rangeAt b o vs := by
  intro j v hj
  have := k j v hj
  simp only [World.cell?, h] at this ⊢
  exact this

/-- A holder's block is not an object's. -/
theorem Inv.ow_rho {B : Nat} {g : G} {w : World} {H : Heap} (h : Inv B g w H) {b : Nat} {o : Holder} (ho : g.ow b = some o) : ∀ id, g.rho id ≠ some b := by
  intro id hr
  have := (h.rho id b hr).2.2.2.2
  rw [ho] at this
  cases this

section keep
variable {B d : Nat} {g g' : G} {w w' : World} {H : Heap}

theorem TipOK.step {h : Holder} {l : List AVal} {k : Nat} {x : Value} (hi : Inv B g w H) (hf : Foreign d (some h)) (hs : Step d g w g' w') (t : TipOK g w h l k x) : TipOK g' w' h l k x := by
  obtain ⟨a, n, cap, hx, t⟩ := t
  refine ⟨a, n, cap, hx, ?_⟩
  rcases t with t | ⟨hk, b, o, ha, how, hu, he, ht⟩
  · exact .inl t
  · obtain ⟨h1, h2, h3, _⟩ := hs.keep b (hi.ow b h how).2 (hi.ow_rho how) (by rw [how]; exact hf)
    exact .inr ⟨hk, b, o, ha, h2.trans how, hu, h3.trans he, there_of_heap h1 ht⟩
theorem ExOK.step {h : Holder} {l : List AVal} {k : Nat} {x : Value} (hi : Inv B g w H) (hf : Foreign d (some h)) (hs : Step d g w g' w') (t : ExOK g w h l k x) : ExOK g' w' h l k x := by
  obtain ⟨a, cap, hx, t⟩ := t
  refine ⟨a, cap, hx, ?_⟩
  rcases t with t | ⟨hk, hc, b, o, vs, ha, how, he, hu, hl, h1, hr, ht⟩
  · exact .inl t
  · obtain ⟨k1, k2, k3, _⟩ := hs.keep b (hi.ow b h how).2 (hi.ow_rho how) (by rw [how]; exact hf)
    exact .inr ⟨hk, hc, b, o, vs, ha, k2.trans how, k3.trans he, hu, hl.le hs.le, h1, rangeAt_of_heap k1 hr, room_of_heap k1 ht⟩
theorem HoldOK.step {h : Holder} {v : AVal} {x : Value} (hi : Inv B g w H) (hf : Foreign d (some h)) (hs : Step d g w g' w') (t : HoldOK g w h v x) : HoldOK g' w' h v x := by
  unfold HoldOK at *
  split
  · exact ExOK.step hi hf hs t
  · exact ⟨t.1.le hs.le, t.2.step hi hf hs⟩
  · exact RelV.le hs.le (by simpa using t)
/-- What a deeper frame does is nothing to a frame's slots. -/
theorem EnvOK.step {env : Env} {tm : Nat → Option Value} (hi : Inv B g w H) (hs : Step (d + 1) g w g' w') (h : EnvOK g w d env tm) : EnvOK g' w' d env tm := by
  intro i v hv
  obtain ⟨x, hx, hsl⟩ := h i v hv
  refine ⟨x, hx, ?_⟩
  unfold SlotOK at *
  split
  · rcases hsl with hsl | ⟨xs, e, hz, hc⟩
    · exact .inl hsl
    · refine .inr ⟨xs, e, hz, fun j v' hj => ?_⟩
      obtain ⟨y, hy, hk⟩ := hc j v' hj
      refine ⟨y, hy, ?_⟩
      rcases hk with hk | hk
      · exact .inl hk
      · exact .inr (hk.step hi (.inr ⟨d, i, by omega, .inr ⟨j, rfl⟩⟩) hs)
  · exact hsl
  · exact hsl
  · exact HoldOK.step hi (.inr ⟨d, i, by omega, .inl rfl⟩) hs (by simpa using hsl)
end keep
end Go.Abs
end

section
/- Slots that are written; memories of which one block turns. -/
namespace Go.Abs
open Go

/-! ### The list of slots -/
theorem eget_eset (e : Env) (i j : Nat) (v : AVal) : eget (eset e i v) j = if i = j then some v else eget e j := by
  induction e with
  | nil => simp [eset, eget]
  | cons p r ih =>
    obtain ⟨k, u⟩ := p
    simp only [eset]
    split
    · rename_i h; subst h
      simp only [eget]
      split <;> rfl
    · rename_i h
      split
      · simp only [eget]
      · simp only [eget]
        split
        · rename_i h2; subst h2; rw [if_neg (fun e => h e.symm)]
        · exact ih
theorem eget_eset_same (e : Env) (i : Nat) (v : AVal) : eget (eset e i v) i = some v := by rw [eget_eset, if_pos rfl]
theorem eget_eset_ne (e : Env) {i j : Nat} (v : AVal) (h : i ≠ j) : eget (eset e i v) j = eget e j := by rw [eget_eset, if_neg h]
theorem esets_append (e : Env) (a b : List (Nat × AVal)) : esets e (a ++ b) = esets (esets e a) b := by
  induction a generalizing e with
  | nil => rfl
  | cons p r ih => obtain ⟨i, v⟩ := p; simp [esets, ih]
theorem esets_one (e : Env) (i : Nat) (v : AVal) : esets e [(i, v)] = eset e i v := rfl

/-- no slot borrows what slot j holds -/
def NoBor (env : Env) (j : Nat) : Prop := ∀ i v, eget env i = some v → v ≠ .bor j ∧ ∀ a b, v ≠ .sptr j a b

theorem eget_mem {e : Env} {i : Nat} {v : AVal} (h : eget e i = some v) : (i, v) ∈ e := by
  induction e with
  | nil => cases h
  | cons p r ih =>
    obtain ⟨k, u⟩ := p
    simp only [eget] at h
    split at h
    · rename_i hk; cases h; subst hk; simp
    · exact List.mem_cons_of_mem _ (ih h)
/-- what stands in a slot behind some writes: the last of them, or what stood there -/
theorem eget_esets {e : Env} {ups : List (Nat × AVal)} {i : Nat} {v : AVal} (h : eget (esets e ups) i = some v) : (i, v) ∈ ups ∨ (eget e i = some v ∧ ∀ u, (i, u) ∉ ups) := by
  induction ups generalizing e with
  | nil => exact .inr ⟨h, by simp⟩
  | cons p r ih =>
    obtain ⟨k, u⟩ := p
    simp only [esets] at h
    rcases ih h with h1 | ⟨h1, h2⟩
    · exact .inl (List.mem_cons_of_mem _ h1)
    · rw [eget_eset] at h1
      split at h1
      · rename_i hk; subst hk; cases h1; exact .inl (by simp)
      · rename_i hk
        exact .inr ⟨h1, fun u' hu => by
          rcases List.mem_cons.1 hu with hu | hu
          · cases hu; exact hk rfl
          · exact h2 u' hu⟩
theorem eget_esets_not {e : Env} {ups : List (Nat × AVal)} {i : Nat} (h : ∀ u, (i, u) ∉ ups) : eget (esets e ups) i = eget e i := by
  induction ups generalizing e with
  | nil => rfl
  | cons p r ih =>
    obtain ⟨k, u⟩ := p
    simp only [esets]
    rw [ih (fun u' hu => h u' (List.mem_cons_of_mem _ hu)), eget_eset_ne]
    intro hk; subst hk; exact h u (by simp)

/-! ### One block turns -/
structure Chg (b : Nat) (g : G) (w : World) (g' : G) (w' : World) : Prop where
  le : Le g w g' w'
  oth : ∀ b', b' ≠ b → b' < w.heap.size → w'.heap[b']? = w.heap[b']? ∧ g'.ow b' = g.ow b' ∧ g'.ext b' = g.ext b'
  size : w.heap.size ≤ w'.heap.size
  os : w'.os = w.os
  tape : w'.tape = w.tape
  output : w'.output = w.output
  rho : ∀ id b', g'.rho id = some b' → g.rho id = some b' ∨ b' = b

section chg
variable {B d b : Nat} {g g' : G} {w w' : World} {H : Heap}

theorem Chg.step (c : Chg b g w g' w') (h : w.heap.size ≤ b ∨ (∃ id, g.rho id = some b) ∨ ¬ Foreign d (g.ow b)) : Step d g w g' w' :=
  ⟨c.le, c.size, c.os, c.tape, c.output, fun b' hb hr hf => by
    have hne : b' ≠ b := by
      rintro rfl
      rcases h with h | ⟨id, h⟩ | h
      · omega
      · exact hr id h
      · exact h hf
    obtain ⟨h1, h2, h3⟩ := c.oth b' hne hb
    exact ⟨h1, h2, h3, fun id hid => by
      rcases c.rho id b' hid with h4 | h4
      · exact hr id h4
      · exact hne h4⟩⟩

theorem TipOK.chg {h : Holder} {l : List AVal} {k : Nat} {x : Value} (hi : Inv B g w H) (c : Chg b g w g' w') (hb : g.ow b ≠ some h) (t : TipOK g w h l k x) : TipOK g' w' h l k x := by
  obtain ⟨a, n, cap, hx, t⟩ := t
  refine ⟨a, n, cap, hx, ?_⟩
  rcases t with t | ⟨hk, b', o, ha, how, hu, he, ht⟩
  · exact .inl t
  · obtain ⟨h1, h2, h3⟩ := c.oth b' (by rintro rfl; exact hb how) (hi.ow b' h how).2
    exact .inr ⟨hk, b', o, ha, h2.trans how, hu, h3.trans he, there_of_heap h1 ht⟩
theorem ExOK.chg {h : Holder} {l : List AVal} {k : Nat} {x : Value} (hi : Inv B g w H) (c : Chg b g w g' w') (hb : g.ow b ≠ some h) (t : ExOK g w h l k x) : ExOK g' w' h l k x := by
  obtain ⟨a, cap, hx, t⟩ := t
  refine ⟨a, cap, hx, ?_⟩
  rcases t with t | ⟨hk, hc, b', o, vs, ha, how, he, hu, hl, h1, hr, ht⟩
  · exact .inl t
  · obtain ⟨k1, k2, k3⟩ := c.oth b' (by rintro rfl; exact hb how) (hi.ow b' h how).2
    exact .inr ⟨hk, hc, b', o, vs, ha, k2.trans how, k3.trans he, hu, hl.le c.le, h1, rangeAt_of_heap k1 hr, room_of_heap k1 ht⟩
theorem HoldOK.chg {h : Holder} {v : AVal} {x : Value} (hi : Inv B g w H) (c : Chg b g w g' w') (hb : g.ow b ≠ some h) (t : HoldOK g w h v x) : HoldOK g' w' h v x := by
  unfold HoldOK at *
  split
  · exact ExOK.chg hi c hb t
  · exact ⟨t.1.le c.le, t.2.chg hi c hb⟩
  · exact RelV.le c.le (by simpa using t)
theorem SlotOK.chg {env : Env} {tm : Nat → Option Value} {i : Nat} {x : Value} {v : AVal} (hi : Inv B g w H) (c : Chg b g w g' w') (hb : g.ow b ≠ some (.slot d i)) (hb2 : ∀ j, g.ow b ≠ some (.comp d i j))
    (t : SlotOK g w d env tm i x v) : SlotOK g' w' d env tm i x v := by
  unfold SlotOK at *
  split
  · rcases t with t | ⟨xs, e, hz, hc⟩
    · exact .inl t
    · refine .inr ⟨xs, e, hz, fun j v' hj => ?_⟩
      obtain ⟨y, hy, hk⟩ := hc j v' hj
      exact ⟨y, hy, hk.imp id fun hk => hk.chg hi c (hb2 j)⟩
  · exact t
  · exact t
  · exact HoldOK.chg hi c hb (by simpa using t)
/-- a block of no slot of this frame's -/
theorem EnvOK.chg {env : Env} {tm : Nat → Option Value} (hi : Inv B g w H) (c : Chg b g w g' w') (hb : ∀ i, g.ow b ≠ some (.slot d i)) (hb2 : ∀ i j, g.ow b ≠ some (.comp d i j)) (h : EnvOK g w d env tm) : EnvOK g' w' d env tm := by
  intro i v hv
  obtain ⟨x, hx, hs⟩ := h i v hv
  exact ⟨x, hx, hs.chg hi c (hb i) (hb2 i)⟩

theorem CellOK.chg {h : Holder} {v : AVal} {x : Value} (hi : Inv B g w H) (c : Chg b g w g' w') (hb : g.ow b ≠ some h) (t : CellOK g w h v x) : CellOK g' w' h v x :=
  ⟨t.1, t.2.1.le c.le, fun l k e => (t.2.2 l k e).chg hi c hb⟩
/-- an object whose block stands, no cell of which holds the block -/
theorem ObjOK.chg {id b' : Nat} {o : AObj} (hi : Inv B g w H) (c : Chg b g w g' w') (hb' : w'.heap[b']? = w.heap[b']?) (hb : ∀ off, g.ow b ≠ some (.cell id off)) (t : ObjOK g w id b' o) : ObjOK g' w' id b' o := by
  cases o with
  | box cs =>
    obtain ⟨cc, e, fr, h1, h2, h3, h4⟩ := t
    exact ⟨cc, e, fr, hb'.trans h1, h2, h3, fun j v hj => by
      obtain ⟨x, hx, hc⟩ := h4 j v hj
      exact ⟨x, hx, hc.chg hi c (hb j)⟩⟩
  | map es s =>
    obtain ⟨ents, clock, h1, h2, h3⟩ := t
    exact ⟨ents, clock, hb'.trans h1, h2, fun j e hj => by
      obtain ⟨m, hm, k1, k2⟩ := h3 j e hj
      exact ⟨m, hm, k1.le c.le, k2.le c.le⟩⟩
  | iter m since seen last =>
    obtain ⟨q, h1, h2⟩ := t
    exact ⟨q, hb'.trans h1, h2.le c.le⟩
  | loop lp =>
    obtain ⟨L, h1, h0, h2, h3, h5, h6, h7, h8⟩ := t
    exact ⟨L, hb'.trans h1, h0, h2, h3, h5, h6, h7, fun i v hv => by
      obtain ⟨x, hx, k⟩ := h8 i v hv
      exact ⟨x, hx, k.le c.le⟩⟩
end chg

/-! ### A slot is written -/
section put
variable {d : Nat} {g : G} {w : World}
/-- the slots of a frame, one of them written -/
def tset (tm : Nat → Option Value) (i : Nat) (x : Value) : Nat → Option Value := fun j => if i = j then some x else tm j
theorem tset_same (tm : Nat → Option Value) (i : Nat) (x : Value) : tset tm i x i = some x := by simp [tset]
theorem tset_ne (tm : Nat → Option Value) {i j : Nat} (x : Value) (h : i ≠ j) : tset tm i x j = tm j := by simp [tset, h]

/-- a slot's fact hangs on the slot that it borrows alone -/
theorem SlotOK.congr {env env' : Env} {tm tm' : Nat → Option Value} {i : Nat} {x : Value} {v : AVal} (h : SlotOK g w d env tm i x v)
    (hb : ∀ j, (v = .bor j ∨ ∃ a b, v = .sptr j a b) → (∀ l o, eget env j = some (.vec l o) → ∃ o', eget env' j = some (.vec l o')) ∧ tm' j = tm j) : SlotOK g w d env' tm' i x v := by
  unfold SlotOK at *
  split
  · exact h
  · rename_i j
    obtain ⟨l, o, h1, h2⟩ := h
    obtain ⟨k1, k2⟩ := hb j (.inl rfl)
    obtain ⟨o', ho'⟩ := k1 l o h1
    exact ⟨l, o', ho', k2.trans h2⟩
  · rename_i j idx off
    obtain ⟨l, o, b, p, n, cap, k, h1, h2, h3, h4, h5⟩ := h
    obtain ⟨k1, k2⟩ := hb j (.inr ⟨_, _, rfl⟩)
    obtain ⟨o', ho'⟩ := k1 l o h1
    exact ⟨l, o', b, p, n, cap, k, ho', k2.trans h2, h3, h4, h5⟩
  · simpa using h

/-- THE WRITE of a slot that no other borrows. -/
theorem EnvOK.put {env : Env} {tm : Nat → Option Value} {i : Nat} {x : Value} {v : AVal} (h : EnvOK g w d env tm) (hn : NoBor env i) (hv : SlotOK g w d (eset env i v) (tset tm i x) i x v) :
    EnvOK g w d (eset env i v) (tset tm i x) := by
  intro j u hu
  rw [eget_eset] at hu
  split at hu
  · rename_i e; subst e; cases hu
    exact ⟨x, tset_same _ _ _, hv⟩
  · rename_i e
    obtain ⟨y, hy, hs⟩ := h j u hu
    refine ⟨y, by rw [tset_ne _ _ e]; exact hy, hs.congr fun k hk => ?_⟩
    have hne : i ≠ k := by
      rintro rfl
      have := hn j u hu
      rcases hk with hk | ⟨a, b, hk⟩
      · exact this.1 hk
      · exact this.2 a b hk
    exact ⟨fun l o hl => ⟨o, by rw [eget_eset_ne _ _ hne]; exact hl⟩, tset_ne _ _ hne⟩
/-- What is known of a slot's slice turns; what it holds stands. -/
theorem EnvOK.flag {env : Env} {tm : Nat → Option Value} {i : Nat} {l : List AVal} {o o' : Own} {x : Value} (h : EnvOK g w d env tm) (he : eget env i = some (.vec l o)) (hx : tm i = some x) (hv : HoldOK g w (.slot d i) (.vec l o') x) :
    EnvOK g w d (eset env i (.vec l o')) tm := by
  intro j u hu
  rw [eget_eset] at hu
  split at hu
  · rename_i e; subst e; cases hu
    exact ⟨x, hx, by simpa [SlotOK] using hv⟩
  · rename_i e
    obtain ⟨y, hy, hs⟩ := h j u hu
    refine ⟨y, hy, hs.congr fun k hk => ⟨fun l' o'' hl => ?_, rfl⟩⟩
    rw [eget_eset]
    split
    · rename_i e2; subst e2
      rw [he] at hl; cases hl
      exact ⟨o', rfl⟩
    · exact ⟨o'', hl⟩
/-- A slot that none borrows is given up. -/
theorem EnvOK.kill {env : Env} {tm : Nat → Option Value} {i : Nat} (h : EnvOK g w d env tm) (hn : NoBor env i) (hx : ∃ x, tm i = some x) : EnvOK g w d (eset env i deadV) tm := by
  intro j u hu
  rw [eget_eset] at hu
  split at hu
  · rename_i e; subst e; cases hu
    obtain ⟨x, hx⟩ := hx
    exact ⟨x, hx, by simp [SlotOK, deadV]⟩
  · rename_i e
    obtain ⟨y, hy, hs⟩ := h j u hu
    refine ⟨y, hy, hs.congr fun k hk => ⟨fun l o hl => ?_, rfl⟩⟩
    have hne : i ≠ k := by
      rintro rfl
      have := hn j u hu
      rcases hk with hk | ⟨a, b, hk⟩
      · exact this.1 hk
      · exact this.2 a b hk
    exact ⟨o, by rw [eget_eset_ne _ _ hne]; exact hl⟩
/-- a slot that is no slice is borrowed by none -/
theorem EnvOK.noBor {env : Env} {tm : Nat → Option Value} (h : EnvOK g w d env tm) {i : Nat} (hi : ∀ l o, eget env i ≠ some (.vec l o)) : NoBor env i := by
  intro j v hv
  obtain ⟨x, _, hs⟩ := h j v hv
  refine ⟨?_, fun a b => ?_⟩
  · rintro rfl
    obtain ⟨l, o, h1, _⟩ := hs
    exact hi l o h1
  · rintro rfl
    obtain ⟨l, o, _, _, _, _, _, h1, _⟩ := hs
    exact hi l o h1
/-- Slots that are no slices are given up. -/
theorem EnvOK.kills {env : Env} {tm : Nat → Option Value} : ∀ {ups : List (Nat × AVal)}, EnvOK g w d env tm → (∀ j v, (j, v) ∈ ups → v = deadV ∧ (∀ l o, eget env j ≠ some (.vec l o)) ∧ ∃ x, tm j = some x) → EnvOK g w d (esets env ups) tm := by
  intro ups
  induction ups generalizing env with
  | nil => intro h _; exact h
  | cons p r ih =>
    obtain ⟨j, v⟩ := p
    intro h k
    obtain ⟨rfl, k1, k2⟩ := k j v (by simp)
    simp only [esets]
    refine ih (h.kill (h.noBor k1) k2) fun j' v' hj' => ?_
    obtain ⟨h1, h2, h3⟩ := k j' v' (List.mem_cons_of_mem _ hj')
    refine ⟨h1, fun l o => ?_, h3⟩
    rw [eget_eset]
    split
    · simp [deadV]
    · exact h2 l o
end put
end Go.Abs
end

section
/- Operands; a slice that is handed on for good. -/
namespace Go.Abs
open Go

/-! ### Ground values -/
theorem mapO_some {α β : Type} {f : α → Option β} : ∀ {l : List α} {r : List β}, mapO f l = some r → l.length = r.length ∧ ∀ (j : Nat) (a : α), l[j]? = some a → ∃ b, r[j]? = some b ∧ f a = some b
  | [], r, h => by simp [mapO] at h; subst h; simp
  | a :: l, r, h => by
    simp only [mapO] at h
    split at h
    · rename_i b s hb hs
      cases h
      obtain ⟨h1, h2⟩ := mapO_some hs
      refine ⟨by simp [h1], fun j a' hj => ?_⟩
      cases j with
      | zero => simp at hj; subst hj; exact ⟨b, by simp, hb⟩
      | succ j => simp at hj; simpa using h2 j a' hj
    · cases h

section ground
variable {g : G} {w : World}
theorem toV1_rel {v : AVal} {x u : Value} (h : RelV g w v x) (hu : toV1 v = some u) : x = u := by
  cases h <;> simp [toV1] at hu <;> exact hu
theorem toV_rel {v : AVal} {x u : Value} (h : RelV g w v x) (hu : toV v = some u) : x = u := by
  unfold toV at hu
  split at hu
  · rename_i cs
    cases h with
    | agg hl h1 =>
      rename_i vs
      obtain ⟨us, hus, rfl⟩ := Option.map_eq_some_iff.1 hu
      obtain ⟨k1, k2⟩ := mapO_some hus
      congr 1
      congr 1
      refine List.ext_getElem? fun j => ?_
      by_cases hj : j < cs.length
      · obtain ⟨y, hy, hr⟩ := hl.get (List.getElem?_eq_getElem hj)
        obtain ⟨z, hz, hf⟩ := k2 j _ (List.getElem?_eq_getElem hj)
        rw [hy, hz, toV1_rel hr hf]
      · rw [List.getElem?_eq_none (by rw [← hl.length]; omega), List.getElem?_eq_none (by rw [← k1]; omega)]
  · exact toV1_rel h hu
theorem bytes_eta (s : ByteArray) : (⟨s.data.toList.toArray⟩ : ByteArray) = s := by cases s; simp
theorem ofV1_rel {u : Value} {v : AVal} (h : ofV1 u = some v) : RelV g w v u := by
  unfold ofV1 at h
  split at h <;> cases h
  · exact .bool _
  · exact .int _ _
  · rename_i s
    have := @RelV.str g w s.data.toList
    rwa [bytes_eta] at this
  · exact .ptrN
  · exact .vecE _ _ _ fun _ => rfl
  · exact .mapN
  · exact .nilFunc
  · exact .nilFace
theorem ofV1_one {u : Value} {v : AVal} (h : ofV1 u = some v) : u.oneCell' = true := by
  unfold ofV1 at h
  split at h <;> first | rfl | cases h
theorem ofV_rel {u : Value} {v : AVal} (h : ofV u = some v) : RelV g w v u := by
  unfold ofV at h
  split at h
  · rename_i cs
    obtain ⟨us, hus, rfl⟩ := Option.map_eq_some_iff.1 h
    obtain ⟨k1, k2⟩ := mapO_some hus
    have hl : RelL g w us cs.toList := .mk k1.symm fun j v x h1 h2 => by
      obtain ⟨b, hb, hf⟩ := k2 j x h2
      rw [h1] at hb; cases hb
      exact ofV1_rel hf
    have := @RelV.agg g w us cs.toList hl fun x hx => by
      obtain ⟨j, hj⟩ := List.getElem?_of_mem hx
      obtain ⟨b, _, hf⟩ := k2 j x hj
      exact ofV1_one hf
    simpa using this
  · rename_i vs
    split at h
    · rename_i he
      cases h
      have : vs = #[] := by
        have := List.isEmpty_iff.1 he
        exact Array.toList_eq_nil_iff.1 this
      subst this
      exact .tup .nil
    · cases h
  · exact ofV1_rel h
theorem pureRun_run {α : Type} {P : Program} : ∀ {s : Sem α} {a : α}, pureRun P s = some a → ∀ w : World, s.run P w = .ok a w
  | .pure _, _, h, _ => by simp [pureRun] at h; subst h; rfl
  | .program k, _, h, w => by simp only [pureRun] at h; simp only [Sem.run]; exact pureRun_run h w
  | .mark _ k, _, h, w => by simp only [pureRun] at h; simp only [Sem.run]; exact pureRun_run h w
end ground

/-! ### What an operand reads as -/
/-- as 'RelV', but that a slice's cells need not be fixed -/
def ReadV (g : G) (w : World) : AVal → Value → Prop
  | .vec l ow, x => ((l = [] ∧ ∃ a cap, x = .slice a 0 cap) ∨ ∃ b o cap k vs, x = .slice (some ⟨b, o, none⟩) l.length cap ∧ (∀ e ∈ l, e.cells.length = k) ∧ RelL g w (l.flatMap AVal.cells) vs ∧ One vs ∧ w.rangeAt b o vs ∧ l.length ≤ cap) ∧ (ow = .nul → x = .slice none 0 0)
  | v, x => RelV g w v x

theorem RelV.read {g : G} {w : World} {v : AVal} {x : Value} (h : RelV g w v x) : ReadV g w v x := by
  cases h with
  | vecE own a cap ho hz => exact ⟨.inl ⟨rfl, a, cap, rfl⟩, fun e => by rw [(hz e).1, (hz e).2]⟩
  | vec own hk hl h1 hh he hc ho hz => exact ⟨.inr ⟨_, _, _, _, _, rfl, hk, hl, h1, hh, hc⟩, fun e => absurd e hz⟩
  | _ => simp only [ReadV]; constructor <;> assumption
theorem ExOK.read {g : G} {w : World} {h : Holder} {l : List AVal} {k : Nat} {x : Value} (t : ExOK g w h l k x) (o : Own) (hn : o ≠ .nul := by simp) : ReadV g w (.vec l o) x := by
  obtain ⟨a, cap, rfl, t⟩ := t
  rcases t with ⟨rfl, _⟩ | ⟨hk, hc, b, p, vs, rfl, _, _, hu, hl, h1, hr, _⟩
  · exact ⟨.inl ⟨rfl, a, cap, rfl⟩, fun e => absurd e hn⟩
  · exact ⟨.inr ⟨b, p, cap, k, vs, rfl, hu, hl, h1, hr, hc⟩, fun e => absurd e hn⟩
theorem HoldOK.read {g : G} {w : World} {h : Holder} {v : AVal} {x : Value} (t : HoldOK g w h v x) : ReadV g w v x := by
  unfold HoldOK at t
  split at t
  · exact t.read _
  · exact t.1.read
  · exact RelV.read t
theorem ReadV.own {g : G} {w : World} {l : List AVal} {o : Own} {x : Value} (t : ReadV g w (.vec l o) x) (o' : Own) (hn : o' ≠ .nul := by simp) : ReadV g w (.vec l o') x := ⟨t.1, fun e => absurd e hn⟩
theorem ReadV.plain {g : G} {w : World} {v : AVal} {x : Value} (t : ReadV g w v x) (h : ∀ l o, v ≠ .vec l o) : RelV g w v x := by
  unfold ReadV at t
  split at t
  · exact absurd rfl (h _ _)
  · exact t

/-- a frame's slots -/
def tmOf (a : Act) : Nat → Option Value := fun i => a.tmps[i]?
theorem eval_tmp {a : Act} {t : Nat} {x : Value} (h : tmOf a t = some x) : a.eval (.tmp t) = x := by
  simp only [tmOf] at h
  simp [Act.eval, Array.getD_eq_getD_getElem?, h]
theorem tmOf_put {a : Act} {t : Nat} {x : Value} (h : t < a.tmps.size) : tmOf (a.put (some t) x) = tset (tmOf a) t x := by
  funext j
  simp only [tmOf, Act.put, tset, Array.getElem?_setIfInBounds]
  split
  · simp
  · rfl
theorem tmOf_none {a : Act} {x : Value} : tmOf (a.put none x) = tmOf a := rfl

section operands
variable {g : G} {w : World} {d : Nat} {env : Env} {a : Act}
/-- a slot's value, no borrower -/
theorem SlotOK.hold {tm : Nat → Option Value} {i : Nat} {x : Value} {v : AVal} (h : SlotOK g w d env tm i x v) (h1 : ∀ vs, v ≠ .tup vs) (h2 : ∀ j, v ≠ .bor j) (h3 : ∀ j p q, v ≠ .sptr j p q) : HoldOK g w (.slot d i) v x := by
  unfold SlotOK at h
  split at h
  · exact absurd rfl (h1 _)
  · exact absurd rfl (h2 _)
  · exact absurd rfl (h3 _ _ _)
  · exact h
theorem RelV.hold {h : Holder} {v : AVal} {x : Value} (t : RelV g w v x) (h1 : ∀ l k, v ≠ .vec l (.ex k)) (h2 : ∀ l k, v ≠ .vec l (.tip (k + 1))) : HoldOK g w h v x := by
  unfold HoldOK
  split
  · exact absurd rfl (h1 _ _)
  · rename_i l k
    cases k with
    | succ k => exact absurd rfl (h2 _ _)
    | zero =>
      refine ⟨t, ?_⟩
      cases t with
      | vecE _ a cap ho => exact ⟨a, 0, cap, rfl, .inl (ho rfl).symm⟩
      | vec _ _ _ _ _ _ hc ho _ => exact ⟨_, _, _, rfl, .inl (ho rfl)⟩
  · exact t
theorem ro1_flags {v : AVal} : (∀ l k, ro1 v ≠ .vec l (.ex k)) ∧ ∀ l k, ro1 v ≠ .vec l (.tip (k + 1)) := by
  unfold ro1
  split
  · exact ⟨by simp, by simp⟩
  · exact ⟨by simp, by simp⟩
  · rename_i h1 h2
    exact ⟨fun l k e => h2 _ _ e, fun l k e => h1 _ _ e⟩
theorem ro_flags {v : AVal} : (∀ l k, ro v ≠ .vec l (.ex k)) ∧ ∀ l k, ro v ≠ .vec l (.tip (k + 1)) := by
  unfold ro
  split
  · exact ⟨by simp, by simp⟩
  · exact ⟨by simp, by simp⟩
  · exact ro1_flags

theorem rawv_slot (h : EnvOK g w d env (tmOf a)) {t : Nat} {v : AVal} (hv : rawv env (.tmp t) = some v) : tmOf a t = some (a.eval (.tmp t)) ∧ SlotOK g w d env (tmOf a) t (a.eval (.tmp t)) v := by
  obtain ⟨x, hx, hs⟩ := h t v hv
  rw [eval_tmp hx]
  exact ⟨hx, hs⟩
theorem rawv_const {x : Operand} {v : AVal} (hx : ∀ t, x ≠ .tmp t) (hv : rawv env x = some v) : RelV g w v (a.eval x) := by
  cases x with
  | tmp t => exact absurd rfl (hx t)
  | const c => exact ofV_rel hv
  | global gl => cases hv
  | func f =>
    simp only [rawv] at hv
    cases hv
    simp only [Act.eval]
    exact @RelV.func g w (.func f) [] [] [] [] (by simp) .nil .nil
/-- an operand's raw value, if it is no borrower and no tuple -/
theorem rawv_read (h : EnvOK g w d env (tmOf a)) {x : Operand} {v : AVal} (hv : rawv env x = some v) (h1 : ∀ vs, v ≠ .tup vs) (h2 : ∀ j, v ≠ .bor j) (h3 : ∀ j p q, v ≠ .sptr j p q) : ReadV g w v (a.eval x) := by
  cases x with
  | tmp t => exact ((rawv_slot h hv).2.hold h1 h2 h3).read
  | _ => exact (rawv_const (by simp) hv).read
/-- what an operand reads as: what its slot borrows, or its raw value -/
theorem ev_cases {env : Env} {x : Operand} {v : AVal} (hv : ev env x = some v) : (∃ i l o, rawv env x = some (.bor i) ∧ eget env i = some (.vec l o) ∧ v = .vec l .ro) ∨
    (rawv env x = some v ∧ (∀ vs, v ≠ .tup vs) ∧ (∀ j, v ≠ .bor j) ∧ ∀ j p q, v ≠ .sptr j p q) := by
  unfold ev at hv
  split at hv
  · rename_i u hr
    unfold evV at hv
    split at hv
    · rename_i i
      split at hv
      · rename_i l o hl
        cases hv
        exact .inl ⟨i, l, o, hr, hl, rfl⟩
      · cases hv
    · cases hv
    · cases hv
    · rename_i h1 h2 h3
      cases hv
      exact .inr ⟨hr, fun vs e => h2 vs e, fun j e => h1 j e, fun j p q e => h3 j p q e⟩
  · cases hv
/-- WHAT AN OPERAND READS AS. -/
theorem ev_read (h : EnvOK g w d env (tmOf a)) {x : Operand} {v : AVal} (hv : ev env x = some v) : ReadV g w v (a.eval x) := by
  rcases ev_cases hv with ⟨i, l, o, hr, hl, rfl⟩ | ⟨hr, h1, h2, h3⟩
  · cases x with
    | tmp t =>
      obtain ⟨hx, hs⟩ := rawv_slot h hr
      obtain ⟨l', o', he, hx'⟩ := hs
      rw [hl] at he; cases he
      obtain ⟨y, hy, hs'⟩ := h i _ hl
      have : y = a.eval (.tmp t) := by rw [hy] at hx'; cases hx'; rfl
      subst this
      exact (hs'.hold (by simp) (by simp) (by simp)).read.own _
    | const c =>
      simp only [rawv] at hr
      have := @ofV_rel g w _ _ hr
      cases this
    | global gl => cases hr
    | func f => cases hr
  · exact rawv_read h hr h1 h2 h3
/-- an operand that is no slice -/
theorem ev_rel (h : EnvOK g w d env (tmOf a)) {x : Operand} {v : AVal} (hv : ev env x = some v) (h1 : ∀ l o, v ≠ .vec l o) : RelV g w v (a.eval x) :=
  (ev_read h hv).plain h1
theorem ev_noTup {x : Operand} {v : AVal} (hv : ev env x = some v) : ∀ vs, v ≠ .tup vs := by
  rcases ev_cases hv with ⟨i, l, o, hr, hl, rfl⟩ | ⟨hr, h1, h2, h3⟩
  · simp
  · exact h1
theorem ev_noBor {x : Operand} {v : AVal} (hv : ev env x = some v) : ∀ j, v ≠ .bor j := by
  rcases ev_cases hv with ⟨i, l, o, hr, hl, rfl⟩ | ⟨hr, h1, h2, h3⟩
  · simp
  · exact h2
theorem ev_noSptr {x : Operand} {v : AVal} (hv : ev env x = some v) : ∀ j p q, v ≠ .sptr j p q := by
  rcases ev_cases hv with ⟨i, l, o, hr, hl, rfl⟩ | ⟨hr, h1, h2, h3⟩
  · simp
  · exact h3
end operands

/-! ### A part of the slots -/
def Sub (e env : Env) : Prop := ∀ i v, eget e i = some v → eget env i = some v
theorem Sub.refl (e : Env) : Sub e e := fun _ _ h => h
theorem eget_viewOf (env : Env) : ∀ (r : List Nat) (i : Nat), eget (viewOf env r) i = if i ∈ r then eget env i else none
  | [], i => by simp [viewOf, eget]
  | t :: r, i => by
    unfold viewOf
    cases ht : eget env t with
    | none =>
      simp only []
      rw [eget_viewOf env r i]
      by_cases h : i = t
      · subst h; simp [ht]
      · simp [h]
    | some v =>
      simp only [eget]
      rw [eget_viewOf env r i]
      by_cases h : t = i
      · subst h; simp [ht]
      · rw [if_neg h]
        simp [Ne.symm h]
theorem sub_viewOf (env : Env) (r : List Nat) : Sub (viewOf env r) env := by
  intro i v h
  rw [eget_viewOf] at h
  split at h
  · exact h
  · cases h
section sub
variable {e env : Env}
theorem rawv_sub (hs : Sub e env) {x : Operand} {v : AVal} (h : rawv e x = some v) : rawv env x = some v := by
  cases x with
  | tmp t => exact hs t v h
  | _ => exact h
theorem ev_sub (hs : Sub e env) {x : Operand} {v : AVal} (h : ev e x = some v) : ev env x = some v := by
  rcases ev_cases h with ⟨i, l, o, hr, hl, rfl⟩ | ⟨hr, h1, h2, h3⟩
  · simp [ev, evV, rawv_sub hs hr, hs i _ hl]
  · unfold ev
    rw [rawv_sub hs hr]
    cases v <;> simp_all [evV]
theorem esc_sub (hs : Sub e env) {x : Operand} {v : AVal} (h : ev e x = some v) : esc e x = esc env x := by
  cases x with
  | tmp t =>
    rcases ev_cases h with ⟨i, l, o, hr, hl, rfl⟩ | ⟨hr, h1, h2, h3⟩
    · have hr : eget e t = some (.bor i) := hr
      simp [esc, hr, hs t _ hr, hl, hs i _ hl]
    · have hr : eget e t = some v := hr
      simp only [esc, hr, hs t _ hr]
      cases v with
      | vec l ow => cases ow <;> rfl
      | bor j => exact absurd rfl (h2 j)
      | _ => rfl
  | _ => rfl
theorem evAll_sub (hs : Sub e env) : ∀ {xs : List Operand} {vs : List AVal}, evAll e xs = some vs → evAll env xs = some vs
  | [], vs, h => h
  | x :: xs, vs, h => by
    simp only [evAll, mapO] at h ⊢
    split at h
    · rename_i b s hb hs'
      cases h
      rw [ev_sub hs hb]
      have := evAll_sub hs (xs := xs) (vs := s) hs'
      simp only [evAll] at this
      rw [this]
    · cases h
theorem evParts_sub (hs : Sub e env) : ∀ {xs : List (Nat × Operand)} {vs : List (Nat × AVal)}, evParts e xs = some vs → evParts env xs = some vs
  | [], vs, h => h
  | x :: xs, vs, h => by
    simp only [evParts, mapO] at h ⊢
    split at h
    · rename_i b s hb hs'
      cases h
      obtain ⟨v, hv, rfl⟩ := Option.map_eq_some_iff.1 hb
      rw [ev_sub hs hv]
      have := evParts_sub hs (xs := xs) (vs := s) hs'
      simp only [evParts] at this
      simp [this]
    · cases h
end sub
end Go.Abs
end

section
/- A slice that was its holder's alone is handed on: from then on its cells are fixed. -/
namespace Go.Abs
open Go

section turn
variable {B d b : Nat} {g g' : G} {w w' : World} {H : Heap} {env : Env} {tm : Nat → Option Value}
/-- The block that a slot holds turns. -/
theorem EnvOK.turn {i : Nat} {l l' : List AVal} {o o' : Own} {x : Value} (h : EnvOK g w d env tm) (hi : Inv B g w H) (c : Chg b g w g' w') (hb : ∀ j, j ≠ i → g.ow b ≠ some (.slot d j)) (hb2 : ∀ j p, g.ow b ≠ some (.comp d j p))
    (he : eget env i = some (.vec l o)) (hx : tm i = some x) (hlen : l'.length = l.length) (hu : ∀ k, (∀ e ∈ l, e.cells.length = k) → ∀ e ∈ l', e.cells.length = k) (hv : HoldOK g' w' (.slot d i) (.vec l' o') x) :
    EnvOK g' w' d (eset env i (.vec l' o')) tm := by
  intro j u hu'
  rw [eget_eset] at hu'
  split at hu'
  · rename_i e; subst e; cases hu'
    exact ⟨x, hx, by simpa [SlotOK] using hv⟩
  · rename_i e
    obtain ⟨y, hy, hs⟩ := h j u hu'
    refine ⟨y, hy, ?_⟩
    have hs := hs.chg hi c (hb j (Ne.symm e)) (hb2 j)
    unfold SlotOK at *
    split
    · exact hs
    · rename_i k
      obtain ⟨l1, o1, h1, h2⟩ := hs
      rw [eget_eset]
      split
      · rename_i e2; subst e2
        exact ⟨l', o', rfl, h2⟩
      · exact ⟨l1, o1, h1, h2⟩
    · rename_i k idx off
      obtain ⟨l1, o1, b1, p, n, cap, m, h1, h2, h3, h4, h5⟩ := hs
      rw [eget_eset]
      split
      · rename_i e2; subst e2
        rw [he] at h1; cases h1
        exact ⟨l', o', b1, p, n, cap, m, rfl, h2, by omega, hu m h4, by rw [hlen]; exact h5⟩
      · exact ⟨l1, o1, b1, p, n, cap, m, h1, h2, h3, h4, h5⟩
    · simpa using hs
end turn

theorem not_foreign_slot {d i : Nat} : ¬ Foreign d (some (.slot d i)) := by
  rintro (h | ⟨d', i', hd, h | ⟨j, h⟩⟩)
  · cases h
  · cases h; omega
  · cases h
theorem not_foreign_comp {d i j : Nat} : ¬ Foreign d (some (.comp d i j)) := by
  rintro (h | ⟨d', i', hd, h | ⟨j, h⟩⟩)
  · cases h
  · cases h
  · cases h; omega
theorem not_foreign_cell {d i j : Nat} : ¬ Foreign d (some (.cell i j)) := by
  rintro (h | ⟨d', i', hd, h | ⟨j, h⟩⟩) <;> cases h

/-- the cells of a block are fixed up to a place -/
def G.fix (g : G) (b e : Nat) : G := { g with ext := fun c => if c = b then e else g.ext c }
theorem chg_fix {g : G} {w : World} {b e : Nat} (he : g.ext b ≤ e) : Chg b g w (g.fix b e) w :=
  ⟨⟨fun _ _ h => h, fun c => by simp only [G.fix]; split <;> simp_all, fun _ _ _ => rfl⟩, fun b' hne _ => ⟨rfl, rfl, by simp [G.fix, hne]⟩, Nat.le_refl _, rfl, rfl, rfl, fun _ _ h => .inl h⟩
theorem Inv.fix {B : Nat} {g : G} {w : World} {H : Heap} (h : Inv B g w H) {b e : Nat} {o : Holder} (he : g.ext b ≤ e) (ho : g.ow b = some o) (hn : ∀ id off, o ≠ .cell id off) : Inv B (g.fix b e) w H where
  rho id c hr := by
    obtain ⟨h1, h2, h3, h4, h5⟩ := h.rho id c hr
    have hne : c ≠ b := by rintro rfl; exact h.ow_rho ho id hr
    exact ⟨h1, h2, h3, by simp [G.fix, hne, h4], h5⟩
  inj := h.inj
  ext c hc := by
    simp only [G.fix] at hc
    split at hc
    · rename_i e; subst e; exact (h.ow _ _ ho).2
    · exact h.ext c hc
  ow := h.ow
  obj id o' c hg hr := (h.obj id o' c hg hr).chg h (chg_fix he) rfl fun off e => by rw [ho] at e; cases e; exact hn _ _ rfl
  base := h.base

/-- some of a frame's own slices have been handed on -/
def Froze (env env1 : Env) : Prop := ∀ i, eget env1 i = eget env i ∨ ∃ l k, eget env i = some (.vec l (.ex k)) ∧ eget env1 i = some (.vec l (.tip k))
theorem Froze.refl (env : Env) : Froze env env := fun _ => .inl rfl

/-- the ghosts of a freeze: nothing but what is fixed has turned -/
structure Fix (d B : Nat) (g g' : G) (w : World) (H : Heap) : Prop where
  step : Step d g w g' w
  inv : Inv B g' w H
  rho : g'.rho = g.rho
  ow : g'.ow = g.ow
theorem Fix.refl {d B : Nat} {g : G} {w : World} {H : Heap} (h : Inv B g w H) : Fix d B g g w H := ⟨.refl _ _ _, h, rfl, rfl⟩
theorem Fix.trans {d B : Nat} {g g1 g2 : G} {w : World} {H : Heap} (h : Fix d B g g1 w H) (k : Fix d B g1 g2 w H) : Fix d B g g2 w H := ⟨h.step.trans k.step, k.inv, k.rho.trans h.rho, k.ow.trans h.ow⟩

section freeze
variable {B d : Nat} {g : G} {w : World} {H : Heap} {env env1 : Env} {tm : Nat → Option Value}
theorem freeze_slot {i : Nat} {l : List AVal} {k : Nat} (h : EnvOK g w d env tm) (hi : Inv B g w H) (he : eget env i = some (.vec l (.ex k))) :
    ∃ g', Fix d B g g' w H ∧ EnvOK g' w d (eset env i (.vec l (.tip k))) tm := by
  obtain ⟨x, hx, hs⟩ := h i _ he
  have hs : ExOK g w (.slot d i) l k x := by simpa [SlotOK, HoldOK] using hs
  obtain ⟨a, cap, rfl, t⟩ := hs
  rcases t with ⟨rfl, rfl⟩ | ⟨hk, hc, b, o, vs, rfl, how, hext, hu, hl, h1, hr, ht⟩
  · exact ⟨g, .refl hi, h.flag he hx ⟨.vecE _ _ _ fun _ => rfl, ⟨a, 0, 0, rfl, .inl rfl⟩⟩⟩
  · have hvl : vs.length = l.length * k := by
      rw [← hl.length, List.length_flatMap]
      have : l.map (fun a => a.cells.length) = List.replicate l.length k := List.eq_replicate_iff.2 ⟨by simp, fun x hx => by
        obtain ⟨e, he, rfl⟩ := List.mem_map.1 hx; exact hu e he⟩
      rw [this]; simp
    have hle : g.ext b ≤ o + l.length * k := by omega
    refine ⟨g.fix b (o + l.length * k), ⟨(chg_fix hle).step (.inr (.inr (by rw [how]; exact not_foreign_slot))), hi.fix hle how (by simp), rfl, rfl⟩, ?_⟩
    refine h.turn hi (chg_fix hle) (fun j hj e => by rw [how] at e; cases e; exact hj rfl) (fun j p e => by rw [how] at e; cases e) he hx rfl (fun _ h => h) ?_
    have hext' : (g.fix b (o + l.length * k)).ext b = o + l.length * k := by simp [G.fix]
    refine ⟨.vec _ hu (hl.le (chg_fix (w := w) hle).le) h1 hr (by rw [hext', hvl]; exact Nat.le_refl _) hc (by simp; omega), ⟨_, _, cap, rfl, .inr ⟨hk, b, o, rfl, how, hu, hext', ?_⟩⟩⟩
    intro j hj
    have hcap : l.length * k + (cap - l.length) * k = cap * k := by rw [← Nat.add_mul]; congr 1; omega
    have := ht.1 (l.length * k + j) (by omega)
    rwa [show o + (l.length * k + j) = o + l.length * k + j by omega] at this
/-- one of the slots that an operation hands on -/
theorem freeze_up {i : Nat} {l : List AVal} {k : Nat} (h : EnvOK g w d env1 tm) (hi : Inv B g w H) (hf : Froze env env1) (he : eget env i = some (.vec l (.ex k))) :
    ∃ g', Fix d B g g' w H ∧ EnvOK g' w d (eset env1 i (.vec l (.tip k))) tm ∧ Froze env (eset env1 i (.vec l (.tip k))) := by
  have hfr : Froze env (eset env1 i (.vec l (.tip k))) := fun j => by
    rw [eget_eset]
    split
    · rename_i e; subst e; exact .inr ⟨l, k, he, rfl⟩
    · exact hf j
  rcases hf i with h1 | ⟨l', k', h1, h2⟩
  · obtain ⟨g', k1, k2⟩ := freeze_slot h hi (h1.trans he)
    exact ⟨g', k1, k2, hfr⟩
  · rw [he] at h1; cases h1
    obtain ⟨x, hx, hs⟩ := h i _ h2
    exact ⟨g, .refl hi, h.flag h2 hx (by simpa [SlotOK] using hs), hfr⟩
theorem freeze_ups : ∀ {ups : List (Nat × AVal)} {g : G} {env1 : Env}, EnvOK g w d env1 tm → Inv B g w H → Froze env env1 → (∀ i u, (i, u) ∈ ups → ∃ l k, u = .vec l (.tip k) ∧ eget env i = some (.vec l (.ex k))) →
    ∃ g', Fix d B g g' w H ∧ EnvOK g' w d (esets env1 ups) tm ∧ Froze env (esets env1 ups) := by
  intro ups
  induction ups with
  | nil => intro g env1 h hi hf _; exact ⟨g, .refl hi, h, hf⟩
  | cons p r ih =>
    obtain ⟨i, u⟩ := p
    intro g env1 h hi hf hu
    obtain ⟨l, k, rfl, he⟩ := hu i u (by simp)
    obtain ⟨g1, f1, h1, hf1⟩ := freeze_up h hi hf he
    obtain ⟨g2, f2, h2, hf2⟩ := ih h1 f1.inv hf1 fun i' u' hm => hu i' u' (List.mem_cons_of_mem _ hm)
    exact ⟨g2, f1.trans f2, h2, hf2⟩

theorem esc_ups {x : Operand} {i : Nat} {u : AVal} (h : (i, u) ∈ esc env x) : ∃ l k, u = .vec l (.tip k) ∧ eget env i = some (.vec l (.ex k)) := by
  unfold esc at h
  split at h
  · split at h
    · rename_i l k he
      simp at h; obtain ⟨rfl, rfl⟩ := h
      exact ⟨l, k, rfl, he⟩
    · split at h
      · rename_i l k he
        simp at h; obtain ⟨rfl, rfl⟩ := h
        exact ⟨l, k, rfl, he⟩
      · cases h
    · cases h
  · cases h
/-- a slot behind freezes is as the freezes say -/
theorem Froze.tip {i : Nat} {l : List AVal} {k : Nat} (hf : Froze env env1) (he : eget env i = some (.vec l (.ex k))) (hne : eget env1 i ≠ some (.vec l (.ex k))) : eget env1 i = some (.vec l (.tip k)) := by
  rcases hf i with h | ⟨l', k', h1, h2⟩
  · exact absurd (h.trans he) hne
  · rw [he] at h1; cases h1; exact h2
theorem esets_last {ups : List (Nat × AVal)} {env1 : Env} {i : Nat} {u : AVal} (hm : (i, u) ∈ ups) (hall : ∀ u', (i, u') ∈ ups → u' = u) : eget (esets env1 ups) i = some u := by
  induction ups generalizing env1 with
  | nil => cases hm
  | cons p r ih =>
    obtain ⟨j, v⟩ := p
    simp only [esets]
    by_cases hr : ∃ u', (i, u') ∈ r
    · obtain ⟨u', hu'⟩ := hr
      have := hall u' (List.mem_cons_of_mem _ hu'); subst this
      exact ih hu' fun u'' h => hall u'' (List.mem_cons_of_mem _ h)
    · rw [eget_esets_not (fun u' h => hr ⟨u', h⟩)]
      rcases List.mem_cons.1 hm with hm | hm
      · cases hm; exact eget_eset_same _ _ _
      · exact absurd ⟨u, hm⟩ hr

/-- WHAT HAS BEEN HANDED ON reads as it did, for good. -/
theorem ev_frozen {a : Act} (h : EnvOK g w d env1 (tmOf a)) (hf : Froze env env1) {x : Operand} {v : AVal} (hv : ev env x = some v) (hx : ∀ i u, (i, u) ∈ esc env x → eget env1 i = some u) : RelV g w (ro v) (a.eval x) := by
  have hslot : ∀ i l o, eget env i = some (.vec l o) → (∀ k, o = .ex k → eget env1 i = some (.vec l (.tip k))) → ∀ y, tmOf a i = some y → RelV g w (.vec l .ro) y := by
    intro i l o he hex y hy
    rcases hf i with h1 | ⟨l', k', h1, h2⟩
    · obtain ⟨z, hz, hs⟩ := h i _ (h1.trans he)
      rw [hy] at hz; cases hz
      have hs := hs.hold (by simp) (by simp) (by simp)
      cases o with
      | ro => exact hs
      | nul => exact RelV.own hs _
      | tip k => exact hs.1.own _
      | ex k =>
        have := hex k rfl
        rw [h1, he] at this; cases this
    · rw [he] at h1; cases h1
      obtain ⟨z, hz, hs⟩ := h i _ h2
      rw [hy] at hz; cases hz
      exact (hs.hold (by simp) (by simp) (by simp)).1.own _
  rcases ev_cases hv with ⟨i, l, o, hr, hl, rfl⟩ | ⟨hr, h1, h2, h3⟩
  · cases x with
    | tmp t =>
      have hr' : eget env t = some (.bor i) := hr
      have h1 : eget env1 t = some (.bor i) := by
        rcases hf t with h1 | ⟨l', k', h1, _⟩
        · exact h1.trans hr'
        · rw [hr'] at h1; cases h1
      obtain ⟨y, hy, l', o', _, hy'⟩ := h t _ h1
      have := hslot i l o hl (fun k e => hx i _ (by simp [esc, hr', hl, e])) y hy'
      rw [eval_tmp hy]
      exact this
    | const c => exact absurd (@ofV_rel g w _ _ hr) (by intro k; cases k)
    | global gl => cases hr
    | func f => cases hr
  · cases x with
    | tmp t =>
      have hr : eget env t = some v := hr
      cases v with
      | vec l o =>
        obtain ⟨y, hy, _⟩ : ∃ y, tmOf a t = some y ∧ True := by
          rcases hf t with k | ⟨_, _, k1, k2⟩
          · obtain ⟨y, hy, _⟩ := h t _ (k.trans hr); exact ⟨y, hy, trivial⟩
          · obtain ⟨y, hy, _⟩ := h t _ k2; exact ⟨y, hy, trivial⟩
        rw [eval_tmp hy]
        have hvro := hslot t l o hr (fun k e => hx t _ (by simp [esc, hr, e])) y hy
        cases o with
        | ro => exact hvro
        | nul =>
          rcases hf t with k | ⟨_, _, k1, k2⟩
          · obtain ⟨z, hz, hs⟩ := h t _ (k.trans hr)
            rw [hy] at hz; cases hz
            exact hs.hold (by simp) (by simp) (by simp)
          · rw [hr] at k1; cases k1
        | tip k =>
          cases k with
          | succ k => exact hvro
          | zero =>
            rcases hf t with k | ⟨_, _, k1, k2⟩
            · obtain ⟨z, hz, hs⟩ := h t _ (k.trans hr)
              rw [hy] at hz; cases hz
              exact (hs.hold (by simp) (by simp) (by simp)).1
            · rw [hr] at k1; cases k1
        | ex k => exact hvro
      | sptr j p q => exact absurd rfl (h3 j p q)
      | tup vs => exact absurd rfl (h1 vs)
      | bor j => exact absurd rfl (h2 j)
      | _ =>
        have h1 : eget env1 t = eget env t := by
          rcases hf t with k | ⟨_, _, k1, k2⟩
          · exact k
          · rw [hr] at k1; cases k1
        obtain ⟨y, hy, hs⟩ := h t _ (h1.trans hr)
        rw [eval_tmp hy]
        exact RelV.ro (hs.hold (by simp) (by simp) (by simp))
    | _ => exact (rawv_const (by simp) hr).ro
end freeze
end Go.Abs
end

section
/- What one operation of a frame does: the frame's slots and the memory, before and behind. -/
namespace Go.Abs
open Go
set_option linter.unusedSimpArgs false

theorem hasN_iff {l : List Nat} {x : Nat} : hasN l x = true ↔ x ∈ l := by
  simp [hasN, List.any_eq_true]

/-! ### Borrowers that go -/
theorem eget_map (f : AVal → AVal) (e : Env) (i : Nat) : eget (e.map fun p => (p.1, f p.2)) i = (eget e i).map f := by
  induction e with
  | nil => rfl
  | cons p r ih =>
    obtain ⟨k, u⟩ := p
    simp only [List.map_cons, eget]
    split
    · rfl
    · exact ih
theorem killv_nil (v : AVal) : killv [] v = v := by
  cases v <;> simp [killv, hasN]
theorem eget_kills (gone : List Nat) (e : Env) (i : Nat) : eget (kills gone e) i = (eget e i).map (killv gone) := by
  unfold kills
  split
  · rw [show killv [] = id from funext killv_nil]; simp
  · exact eget_map _ e i
theorem killv_of {gone : List Nat} {v : AVal} (h1 : ∀ j, v = .bor j → j ∉ gone) (h2 : ∀ j a b, v = .sptr j a b → j ∉ gone) : killv gone v = v := by
  cases v with
  | bor j => simp only [killv]; rw [if_neg (fun e => h1 j rfl (hasN_iff.1 e))]
  | sptr j a b => simp only [killv]; rw [if_neg (fun e => h2 j a b rfl (hasN_iff.1 e))]
  | _ => rfl
theorem killv_varOk {gone : List Nat} {v : AVal} (h : varOk v = true) : killv gone v = v :=
  killv_of (fun j e => by subst e; cases h) (fun j a b e => by subst e; cases h)
theorem killv_ne {gone : List Nat} {v u : AVal} (h : killv gone v = u) (hu : u ≠ deadV) : u = v := by
  cases v with
  | bor j => simp only [killv] at h; split at h <;> simp_all
  | sptr j a b => simp only [killv] at h; split at h <;> simp_all
  | _ => simp_all [killv]
theorem killv_dead {gone : List Nat} {v : AVal} : killv gone v = v ∨ (killv gone v = deadV ∧ ∃ j ∈ gone, v = .bor j ∨ ∃ a b, v = .sptr j a b) := by
  cases v with
  | bor j =>
    simp only [killv]
    split
    · rename_i h; exact .inr ⟨rfl, j, hasN_iff.1 h, .inl rfl⟩
    · exact .inl rfl
  | sptr j a b =>
    simp only [killv]
    split
    · rename_i h; exact .inr ⟨rfl, j, hasN_iff.1 h, .inr ⟨a, b, rfl⟩⟩
    · exact .inl rfl
  | _ => exact .inl rfl
theorem dead_slot {g : G} {w : World} {d : Nat} {env : Env} {tm : Nat → Option Value} {i : Nat} {x : Value} : SlotOK g w d env tm i x deadV := by
  simp [SlotOK, deadV]

section kill
variable {g : G} {w : World} {d : Nat} {env env' : Env} {tm : Nat → Option Value}
/-- slots that agree -/
theorem EnvOK.ext (h : EnvOK g w d env tm) (he : ∀ i, eget env' i = eget env i) : EnvOK g w d env' tm := by
  intro i v hv
  rw [he] at hv
  obtain ⟨x, hx, hs⟩ := h i v hv
  exact ⟨x, hx, hs.congr fun j _ => ⟨fun l o hl => ⟨o, by rw [he]; exact hl⟩, rfl⟩⟩
/-- Borrowers may go at any time. -/
theorem EnvOK.killed (gone : List Nat) (h : EnvOK g w d env tm) (he : ∀ i, eget env' i = (eget env i).map (killv gone)) : EnvOK g w d env' tm := by
  intro i v hv
  rw [he] at hv
  obtain ⟨u, hu, rfl⟩ := Option.map_eq_some_iff.1 hv
  obtain ⟨x, hx, hs⟩ := h i u hu
  refine ⟨x, hx, ?_⟩
  rcases @killv_dead gone u with e | ⟨e, _⟩
  · rw [e]
    exact hs.congr fun j _ => ⟨fun l o hl => ⟨o, by rw [he, hl]; rfl⟩, rfl⟩
  · rw [e]; exact dead_slot
theorem NoBor.killed {gone : List Nat} {i : Nat} (hi : i ∈ gone) (he : ∀ j, eget env' j = (eget env j).map (killv gone)) : NoBor env' i := by
  intro j v hv
  rw [he] at hv
  obtain ⟨u, hu, rfl⟩ := Option.map_eq_some_iff.1 hv
  rcases @killv_dead gone u with e | ⟨e, _⟩
  · constructor
    · intro e'
      rw [e] at e'; subst e'
      simp only [killv] at e
      rw [if_pos (hasN_iff.2 hi)] at e
      cases e
    · intro a b e'
      rw [e] at e'; subst e'
      simp only [killv] at e
      rw [if_pos (hasN_iff.2 hi)] at e
      cases e
  · rw [e]; exact ⟨by simp [deadV], by simp [deadV]⟩
end kill

/-! ### Before and behind -/
/-- what an operation of a frame at depth d did to the memory: the objects that it wrote; the one that it laid in the place that was kept for it -/
structure Post (d B : Nat) (g : G) (w : World) (H : Heap) (g' : G) (w' : World) (H' : Heap) (wr : List Nat) (born : Nat → Prop) : Prop where
  step : Step d g w g' w'
  inv : Inv B g' w' H'
  len : H.length ≤ H'.length
  pend : ∀ id, id < H.length → g.rho id = none → ¬ born id → g'.rho id = none ∧ hget H' id = hget H id
  kept : ∀ id b, g.rho id = some b → id ∉ wr → w'.heap[b]? = w.heap[b]?

def nobody : Nat → Prop := fun _ => False
theorem Post.refl {d B : Nat} {g : G} {w : World} {H : Heap} (h : Inv B g w H) : Post d B g w H g w H [] nobody :=
  ⟨.refl _ _ _, h, Nat.le_refl _, fun _ _ h _ => ⟨h, rfl⟩, fun _ _ _ _ => rfl⟩
theorem Post.trans {d B : Nat} {g g1 g2 : G} {w w1 w2 : World} {H H1 H2 : Heap} {r1 r2 : List Nat} {n1 n2 : Nat → Prop} (h : Post d B g w H g1 w1 H1 r1 n1) (k : Post d B g1 w1 H1 g2 w2 H2 r2 n2) :
    Post d B g w H g2 w2 H2 (r2 ++ r1) (fun i => n1 i ∨ n2 i) :=
  ⟨h.step.trans k.step, k.inv, Nat.le_trans h.len k.len, fun id hl hr hb => by
    obtain ⟨a1, a2⟩ := h.pend id hl hr fun e => hb (.inl e)
    obtain ⟨b1, b2⟩ := k.pend id (Nat.lt_of_lt_of_le hl h.len) a1 fun e => hb (.inr e)
    exact ⟨b1, b2.trans a2⟩, fun id b hr hw => by
    have h1 := h.kept id b hr fun e => hw (List.mem_append.2 (.inr e))
    have h2 := k.kept id b (h.step.le.rho id b hr) fun e => hw (List.mem_append.2 (.inl e))
    exact h2.trans h1⟩
theorem Post.mono {d B : Nat} {g g' : G} {w w' : World} {H H' : Heap} {r r' : List Nat} {n n' : Nat → Prop} (h : Post d B g w H g' w' H' r n) (hr : ∀ i, i ∈ r → i ∈ r') (hn : ∀ i, n i → n' i) : Post d B g w H g' w' H' r' n' :=
  ⟨h.step, h.inv, h.len, fun id hl he hb => h.pend id hl he fun e => hb (hn id e), fun id b he hw => h.kept id b he fun e => hw (hr id e)⟩
theorem Fix.post {d B : Nat} {g g' : G} {w : World} {H : Heap} (h : Fix d B g g' w H) : Post d B g w H g' w H [] nobody :=
  ⟨h.step, h.inv, Nat.le_refl _, fun _ _ hr _ => ⟨by rw [h.rho]; exact hr, rfl⟩, fun _ _ _ _ => rfl⟩

/-- a slot's value is what stands in the heap -/
structure FactsOK (g : G) (w : World) (facts : Env) (tm : Nat → Option Value) : Prop where
  cell : ∀ j id off, eget facts j = some (.ptr (some (id, off))) → ∃ b c e fr x, g.rho id = some b ∧ w.heap[b]? = some (.cells c e fr) ∧ c[off]? = some x ∧ tm j = some x
  un : ∀ j, eget facts j = some .nilFunc → tm j = some undef
theorem eget_factsKill {wr : List Nat} {f : Env} {j : Nat} : eget (factsKill wr f) j = (eget f j).map (factv wr) := by
  unfold factsKill
  split
  · cases eget f j with
    | none => rfl
    | some v =>
      simp only [Option.map_some]
      congr 1
      unfold factv
      split <;> rfl
  · exact eget_map _ f j
theorem factv_nilFunc {wr : List Nat} {v : AVal} (h : factv wr v = .nilFunc) : v = .nilFunc := by
  unfold factv at h
  split at h
  · split at h <;> cases h
  · exact h

/-- what an operation with this outcome leaves -/
structure Left (d B : Nat) (env : Env) (tm : Nat → Option Value) (g : G) (w : World) (H : Heap) (dst : Option Nat) (c : OutC) (born : Nat → Prop) (g' : G) (w' : World) (x : Value) : Prop where
  post : Post d B g w H g' w' c.heap c.wr born
  slots : EnvOK g' w' d (esets (kills c.out.gone env) c.out.ups) tm
  val : ∀ t, dst = some t → SlotOK g' w' d (esets (kills c.out.gone env) c.out.ups) tm t x c.out.val
  fact : ∀ id off, c.out.fact = some (id, off) → ∃ b cs e fr, g'.rho id = some b ∧ w'.heap[b]? = some (.cells cs e fr) ∧ cs[off]? = some x

def RunsAs (P : Program) (o : Oper) (a : Act) (w w' : World) (x : Value) : Prop :=
  (execOp a.eval o).run P w = .ok (.value x) w' ∨ ((execOp a.eval o).run P w = .ok .skip w' ∧ x = undef)

/-- an operation that runs no other code -/
def OpOK (P : Program) (d B : Nat) (env : Env) (g : G) (w : World) (H : Heap) (a : Act) (o : Oper) (c : OutC) (born : Nat → Prop) : Prop :=
  ∃ g' w' x, RunsAs P o a w w' x ∧ Left d B env (tmOf a) g w H o.dst c born g' w' x

theorem EnvOK.factsKeep {d B : Nat} {g g' : G} {w w' : World} {H H' : Heap} {wr : List Nat} {born : Nat → Prop} {facts : Env} {tm : Nat → Option Value} (h : FactsOK g w facts tm) (p : Post d B g w H g' w' H' wr born) :
    FactsOK g' w' (factsKill wr facts) tm := by
  refine ⟨fun j id off hj => ?_, fun j hj => ?_⟩
  · have key : eget facts j = some (.ptr (some (id, off))) ∧ id ∉ wr := by
      rw [eget_factsKill] at hj
      obtain ⟨u, hu, hv⟩ := Option.map_eq_some_iff.1 hj
      unfold factv at hv
      split at hv
      · rename_i id' off'
        split at hv
        · cases hv
        · rename_i hn
          cases hv
          exact ⟨hu, fun e => hn (hasN_iff.2 e)⟩
      · rename_i hn
        subst hv
        exact absurd rfl (hn _ _)
    obtain ⟨b, c, e, fr, x, h1, h2, h3, h4⟩ := h.cell j id off key.1
    exact ⟨b, c, e, fr, x, p.step.le.rho _ _ h1, (p.kept id b h1 key.2).trans h2, h3, h4⟩
  · rw [eget_factsKill] at hj
    obtain ⟨u, hu, hv⟩ := Option.map_eq_some_iff.1 hj
    exact h.un j (by rw [hu, factv_nilFunc hv])

/-- writes to other slots and the going of borrowers may change places -/
theorem eget_esets_kills {t : Nat} : ∀ {ups : List (Nat × AVal)} {env1 env2 : Env}, (∀ p ∈ ups, varOk p.2 = true) → (∀ i, eget env2 i = (eget env1 i).map (killv [t])) →
    ∀ i, eget (esets env2 ups) i = (eget (esets env1 ups) i).map (killv [t]) := by
  intro ups
  induction ups with
  | nil => intro env1 env2 _ h i; exact h i
  | cons p r ih =>
    obtain ⟨j, v⟩ := p
    intro env1 env2 hv h i
    simp only [esets]
    refine ih (fun p hp => hv p (List.mem_cons_of_mem _ hp)) (fun k => ?_) i
    rw [eget_eset, eget_eset]
    split
    · simp [killv_varOk (hv (j, v) (by simp))]
    · exact h k
theorem killv_cons {t : Nat} {gone : List Nat} {v : AVal} : killv (t :: gone) v = killv [t] (killv gone v) := by
  cases v with
  | bor j =>
    simp only [killv, hasN, List.any_cons, List.any_nil, Bool.or_false]
    by_cases h : t = j
    · subst h
      by_cases h2 : (gone.any fun x => x == t) = true
      · simp [h2, deadV]
      · simp [h2, killv, hasN]
    · by_cases h2 : (gone.any fun x => x == j) = true
      · simp [h2, deadV]
      · simp [h2, killv, hasN]
  | sptr j a b =>
    simp only [killv, hasN, List.any_cons, List.any_nil, Bool.or_false]
    by_cases h : t = j
    · subst h
      by_cases h2 : (gone.any fun x => x == t) = true
      · simp [h2, deadV]
      · simp [h2, killv, hasN]
    · by_cases h2 : (gone.any fun x => x == j) = true
      · simp [h2, deadV]
      · simp [h2, killv, hasN]
  | _ => rfl

section fin
variable {d B : Nat} {env : Env} {a : Act} {g g' : G} {w w' : World} {H : Heap} {born : Nat → Prop} {x : Value} {c : OutC}
/-- THE STATE BEHIND AN OPERATION. -/
theorem Left.fin {st : St} {dst : Option Nat} {req : List Nat} (h : Left d B st.env (tmOf a) g w st.heap dst c born g' w' x) (he : EnvOK g w d st.env (tmOf a)) (hf : FactsOK g w st.facts (tmOf a))
    (hd : ∀ t, dst = some t → t < a.tmps.size) (hc : okE req dst c = true) :
    EnvOK g' w' d (applyE none st dst c).env (tmOf (a.put dst x)) ∧ FactsOK g' w' (applyE none st dst c).facts (tmOf (a.put dst x)) := by
  simp only [okE, Bool.and_eq_true, List.all_eq_true] at hc
  obtain ⟨⟨hc1, hc2⟩, hc3⟩ := hc
  simp only [applyE, punchE]
  refine ⟨?_, ?_⟩
  · cases dst with
    | none => simp only [goneOf, upsOf, tmOf_none]; exact h.slots
    | some t =>
      have htl := hd t rfl
      simp only [upsOf, esets_append, esets_one]
      rw [tmOf_put htl]
      have hv := h.val t rfl
      have hroot : ∀ j, (c.out.val = .bor j ∨ ∃ p q, c.out.val = .sptr j p q) → t ≠ j := by
        intro j hj e
        subst e
        rcases hj with e | ⟨p, q, e⟩ <;> (rw [e] at hc2; simp [borOk] at hc2)
      have hups : ∀ p ∈ c.out.ups, varOk p.2 = true := fun p hp => (hc1 p hp).2
      have key : ∀ env2, EnvOK g' w' d env2 (tmOf a) → NoBor env2 t → (∀ j l o, eget (esets (kills c.out.gone st.env) c.out.ups) j = some (.vec l o) → eget env2 j = some (.vec l o)) → EnvOK g' w' d (eset env2 t c.out.val) (tset (tmOf a) t x) := by
        intro env2 h1 h2 h3
        refine h1.put h2 (hv.congr fun j hj => ?_)
        have hne := hroot j hj
        exact ⟨fun l o hl => ⟨o, by rw [eget_eset_ne _ _ hne]; exact h3 j l o hl⟩, tset_ne _ _ hne⟩
      unfold goneOf
      simp only []
      split
      · rename_i u hu
        have hk : ∀ i, eget (esets (kills (t :: c.out.gone) st.env) c.out.ups) i = (eget (esets (kills c.out.gone st.env) c.out.ups) i).map (killv [t]) := by
          refine eget_esets_kills hups fun i => ?_
          rw [eget_kills, eget_kills, Option.map_map]
          congr 1
          funext v
          exact killv_cons
        exact key _ (h.slots.killed [t] hk) (NoBor.killed (by simp) hk) fun j l o hl => by rw [hk, hl]; rfl
      · rename_i hu
        refine key _ h.slots (fun j v hj => ?_) fun j l o hl => hl
        have aux : ∀ v, eget (esets (kills c.out.gone st.env) c.out.ups) j = some v → (v = .bor t ∨ ∃ p q, v = .sptr t p q) → False := by
          intro v hj hv
          rcases eget_esets hj with h1 | ⟨h1, _⟩
          · have := hups _ h1
            rcases hv with rfl | ⟨p, q, rfl⟩ <;> cases this
          · rw [eget_kills] at h1
            obtain ⟨u, hu', hk⟩ := Option.map_eq_some_iff.1 h1
            have huv := killv_ne hk (by rcases hv with rfl | ⟨p, q, rfl⟩ <;> simp [deadV])
            subst huv
            obtain ⟨y, _, hs⟩ := he j _ hu'
            rcases hv with rfl | ⟨p, q, rfl⟩
            · obtain ⟨l, o, h1, _⟩ := hs; rw [hu] at h1; cases h1
            · obtain ⟨l, o, _, _, _, _, _, h1, _⟩ := hs; rw [hu] at h1; cases h1
        exact ⟨fun e => aux v hj (.inl e), fun p q e => aux v hj (.inr ⟨p, q, e⟩)⟩
  · have h1 := EnvOK.factsKeep hf h.post
    cases dst with
    | none => exact h1
    | some t =>
      rw [tmOf_put (hd t rfl)]
      simp only [factPut]
      have put : ∀ v, v ≠ .nilFunc → (∀ id off, v = .ptr (some (id, off)) → ∃ b cs e fr, g'.rho id = some b ∧ w'.heap[b]? = some (.cells cs e fr) ∧ cs[off]? = some x) → FactsOK g' w' (eset (factsKill c.wr st.facts) t v) (tset (tmOf a) t x) := by
        intro v hn hv
        refine ⟨fun j id off hj => ?_, fun j hj => ?_⟩
        · rw [eget_eset] at hj
          split at hj
          · rename_i e; subst e
            cases hj
            obtain ⟨b, cs, e, fr, k1, k2, k3⟩ := hv id off rfl
            exact ⟨b, cs, e, fr, x, k1, k2, k3, tset_same _ _ _⟩
          · rename_i e
            rw [tset_ne _ _ e]
            exact h1.cell j id off hj
        · rw [eget_eset] at hj
          split at hj
          · cases hj; exact absurd rfl hn
          · rename_i e
            rw [tset_ne _ _ e]
            exact h1.un j hj
      cases hfc : c.out.fact with
      | some p =>
        obtain ⟨id, off⟩ := p
        exact put _ (by simp) fun id' off' e => by cases e; exact h.fact _ _ hfc
      | none =>
        simp only []
        split
        · exact put _ (by simp [deadV]) fun id off e => by cases e
        · rename_i hn
          have hne : ∀ j v, eget (factsKill c.wr st.facts) j = some v → t ≠ j := by rintro j v hj rfl; rw [hn] at hj; cases hj
          exact ⟨fun j id off hj => by rw [tset_ne _ _ (hne j _ hj)]; exact h1.cell j id off hj, fun j hj => by rw [tset_ne _ _ (hne j _ hj)]; exact h1.un j hj⟩
end fin

/-- A copy in a slot. -/
theorem slot_ro {g : G} {w : World} {d : Nat} {env : Env} {tm : Nat → Option Value} {t : Nat} {x : Value} {v : AVal} (h : RelV g w v x) (h1 : ∀ vs, v ≠ .tup vs) (h2 : ∀ j, v ≠ .bor j) (h3 : ∀ j p q, v ≠ .sptr j p q) (h4 : ∀ l k, v ≠ .vec l (.ex k)) (h5 : ∀ l k, v ≠ .vec l (.tip (k + 1))) :
    SlotOK g w d env tm t x v := by
  have := @RelV.hold g w (.slot d t) v x h h4 h5
  unfold SlotOK
  split
  · exact absurd rfl (h1 _)
  · exact absurd rfl (h2 _)
  · exact absurd rfl (h3 _ _ _)
  · exact this
theorem ro_plain {v : AVal} (h1 : ∀ vs, v ≠ .tup vs) (h2 : ∀ j, v ≠ .bor j) (h3 : ∀ j p q, v ≠ .sptr j p q) : (∀ vs, ro v ≠ .tup vs) ∧ (∀ j, ro v ≠ .bor j) ∧ ∀ j p q, ro v ≠ .sptr j p q := by
  cases v with
  | tup vs => exact absurd rfl (h1 vs)
  | bor j => exact absurd rfl (h2 j)
  | sptr j p q => exact absurd rfl (h3 j p q)
  | vec l o =>
    simp only [ro, ro1]
    split <;> simp_all
  | _ => simp [ro, ro1]
/-- a copy of what an operand read as, where that is fixed -/
theorem slot_of_ro {g : G} {w : World} {d : Nat} {env : Env} {tm : Nat → Option Value} {t : Nat} {x : Value} {v : AVal} (h : RelV g w (ro v) x) (h1 : ∀ vs, v ≠ .tup vs) (h2 : ∀ j, v ≠ .bor j) (h3 : ∀ j p q, v ≠ .sptr j p q) :
    SlotOK g w d env tm t x (ro v) :=
  slot_ro h (ro_plain h1 h2 h3).1 (ro_plain h1 h2 h3).2.1 (ro_plain h1 h2 h3).2.2 ro_flags.1 ro_flags.2
end Go.Abs
end

section
/- Operations that leave the memory as it is. -/
namespace Go.Abs
open Go
set_option linter.unusedSimpArgs false

theorem kills_nil (e : Env) : kills [] e = e := rfl
theorem esets_nil (e : Env) : esets e [] = e := rfl

/-- ground values in a slot -/
theorem slot_ofV {g : G} {w : World} {d : Nat} {env : Env} {tm : Nat → Option Value} {t : Nat} {u : Value} {v : AVal} (h : ofV u = some v) : SlotOK g w d env tm t u v := by
  have hr := @ofV_rel g w _ _ h
  unfold ofV at h
  split at h
  · obtain ⟨us, _, rfl⟩ := Option.map_eq_some_iff.1 h
    exact slot_ro hr (by simp) (by simp) (by simp) (by simp) (by simp)
  · split at h
    · cases h; exact .inl rfl
    · cases h
  · unfold ofV1 at h
    split at h <;> cases h <;> exact slot_ro hr (by simp) (by simp) (by simp) (by simp) (by simp)

section
variable {P : Program} {d B : Nat} {env e : Env} {g : G} {w : World} {H : Heap} {a : Act}

/-- an operation that but yields a value -/
theorem left_pure (hi : Inv B g w H) (he : EnvOK g w d env (tmOf a)) {dst : Option Nat} {x : Value} {v : AVal} (hv : ∀ t, SlotOK g w d env (tmOf a) t x v) :
    Left d B env (tmOf a) g w H dst ⟨⟨[], [], v, none⟩, H, []⟩ nobody g w x :=
  ⟨.refl hi, he, fun t _ => hv t, fun _ _ h => by cases h⟩
theorem pure_ok (hi : Inv B g w H) (he : EnvOK g w d env (tmOf a)) {o : Oper} {x : Value} {v : AVal} {out : Out} (ho : outV v = some out) (hr : (execOp a.eval o).run P w = .ok (.value x) w) (hv : ∀ t, SlotOK g w d env (tmOf a) t x v) :
    OpOK P d B env g w H a o ⟨out, H, []⟩ nobody := by
  cases ho
  exact ⟨g, w, x, .inl hr, left_pure hi he hv⟩

/-! ### Arithmetic and comparisons -/
theorem stringOp_str (op : BinOp) (t : TypeId) (x y : Operand) (s u : List UInt8) (v : AVal) (h : binE P op t x y (.str s) (.str u) = some v) (w : World) :
    ∃ z, (do eqGuard op t x y (.string ⟨s.toArray⟩) (.string ⟨u.toArray⟩); binOp op t (.string ⟨s.toArray⟩) (.string ⟨u.toArray⟩) : Sem Value).run P w = .ok z w ∧ RelV g w v z ∧ ofV z = some v := by
  have hg : (eqGuard op t x y (.string ⟨s.toArray⟩) (.string ⟨u.toArray⟩) : Sem Unit).run P w = .ok () w := by
    cases op <;> simp [eqGuard]
  have hl : ∀ l : List UInt8, (⟨l.toArray⟩ : ByteArray).toList = l := fun l => by rw [ByteArray.toList_eq]
  simp only [Sem.run_bind, hg, Result.andThen_ok]
  have hb : binOp op t (.string ⟨s.toArray⟩) (.string ⟨u.toArray⟩) = Op.stringOp op ⟨s.toArray⟩ ⟨u.toArray⟩ := by cases op <;> rfl
  rw [hb]
  cases op <;> simp only [binE] at h
  case add =>
    split at h
    · rename_i hlt
      cases h
      refine ⟨.string ⟨(s ++ u).toArray⟩, ?_, .str _, by simp [ofV, ofV1]⟩
      have e : (⟨s.toArray⟩ : ByteArray) ++ ⟨u.toArray⟩ = ⟨(s ++ u).toArray⟩ := by
        apply ByteArray.ext
        rw [ByteArray.data_append]
        simp
      have hsz : ¬ (((ByteArray.size ⟨s.toArray⟩ + ByteArray.size ⟨u.toArray⟩ : Nat) : Int) > IntKind.i64.max) := by
        have h1 : ByteArray.size ⟨s.toArray⟩ = s.length := by simp [ByteArray.size]
        have h2 : ByteArray.size ⟨u.toArray⟩ = u.length := by simp [ByteArray.size]
        have h3 : IntKind.i64.max = 9223372036854775807 := by decide
        rw [h1, h2, h3]
        omega
      simp only [Op.stringOp]
      rw [if_neg hsz, e]
      rfl
    · cases h
  all_goals first
    | (cases h; refine ⟨.bool _, by simp only [Op.stringOp, hl]; rfl, .bool _, rfl⟩; done)
    | (exfalso; simp only [ground2, toV, toV1, Option.map] at h; simp [Op.stringOp, pureRun, binOp, eqGuard, Bind.bind, Sem.bind, stuck, Pure.pure, Sem.pure] at h; done)
    | skip
theorem toV_vec (l : List AVal) (o : Own) : toV (.vec l o) = none := rfl
theorem toV_read {v : AVal} {x u : Value} (h : ReadV g w v x) (hu : toV v = some u) : x = u :=
  toV_rel (h.plain fun l o e => by subst e; cases hu) hu

theorem ground2_ok {op : BinOp} {t : TypeId} {x y : Operand} {p q v : AVal} {u1 u2 : Value} (h : ground2 P op t x y p q = some v) (h1 : ReadV g w p u1) (h2 : ReadV g w q u2) :
    ∃ z, (do eqGuard op t x y u1 u2; binOp op t u1 u2 : Sem Value).run P w = .ok z w ∧ ofV z = some v := by
  unfold ground2 at h
  split at h
  · rename_i a1 a2 e1 e2
    cases toV_read h1 e1
    cases toV_read h2 e2
    obtain ⟨z, hz, hv⟩ := Option.bind_eq_some_iff.1 h
    exact ⟨z, pureRun_run hz w, hv⟩
  · cases h

theorem eqGuard_ptr {op : BinOp} {t : TypeId} {x y : Operand} {p q : Option Addr} : (eqGuard op t x y (.pointer p) (.pointer q) : Sem Unit).run P w = .ok () w := by
  unfold eqGuard
  split <;> rfl
theorem eqGuard_fun {op : BinOp} {t : TypeId} {x y : Operand} {fn : Fn} {xs ys : Array Value} : (eqGuard op t x y (.func fn xs ys) .nilFunc : Sem Unit).run P w = .ok () w := by
  unfold eqGuard
  split <;> rfl
theorem run_eq_fun {t : TypeId} {ps rs : Array TypeId} {vr : Bool} (h : P.underlying t = some (.func ps rs vr)) {fn : Fn} {xs ys : Array Value} (w : World) :
    (binOp .eql t (.func fn xs ys) .nilFunc).run P w = .ok (.bool false) w ∧ (binOp .neq t (.func fn xs ys) .nilFunc).run P w = .ok (.bool true) w := by
  have : (Op.equal t (.func fn xs ys) .nilFunc).run P w = .ok false w := by
    have : ∀ d, (Op.equalIn (d + 1) t (.func fn xs ys) .nilFunc).run P w = .ok false w := fun d => by simp [Op.equalIn, run_underlying h]
    exact this 9999
  constructor <;> (simp only [binOp]; simp [this])

theorem run_eq_slice {t : TypeId} {el : TypeId} (h : P.underlying t = some (.slice el)) {x y : Operand} (b : Option Addr) (n c : Nat) (w : World) :
    (do eqGuard .eql t x y (.slice b n c) (.slice none 0 0); binOp .eql t (.slice b n c) (.slice none 0 0) : Sem Value).run P w = .ok (.bool b.isNone) w ∧ (do eqGuard .neq t x y (.slice b n c) (.slice none 0 0); binOp .neq t (.slice b n c) (.slice none 0 0) : Sem Value).run P w = .ok (.bool !b.isNone) w := by
  have : (Op.equal t (.slice b n c) (.slice none 0 0)).run P w = .ok b.isNone w := by
    have : ∀ d, (Op.equalIn (d + 1) t (.slice b n c) (.slice none 0 0)).run P w = .ok b.isNone w := fun d => by
      cases b <;> simp [Op.equalIn, run_underlying h]
    exact this 9999
  constructor <;> (simp only [Sem.run_bind]; simp [eqGuard, binOp, this])
theorem run_eq_map {t : TypeId} {kt et : TypeId} (h : P.underlying t = some (.map kt et)) {x y : Operand} (b : Option Nat) (w : World) :
    (do eqGuard .eql t x y (.map b) (.map none); binOp .eql t (.map b) (.map none) : Sem Value).run P w = .ok (.bool b.isNone) w ∧ (do eqGuard .neq t x y (.map b) (.map none); binOp .neq t (.map b) (.map none) : Sem Value).run P w = .ok (.bool !b.isNone) w := by
  have : (Op.equal t (.map b) (.map none)).run P w = .ok b.isNone w := by
    have : ∀ d, (Op.equalIn (d + 1) t (.map b) (.map none)).run P w = .ok b.isNone w := fun d => by
      cases b <;> simp [Op.equalIn, run_underlying h]
    exact this 9999
  constructor <;> (simp only [Sem.run_bind]; simp [eqGuard, binOp, this])
theorem run_eq_face {t : TypeId} {ms : Array (String × TypeId)} (h : P.underlying t = some (.interface ms)) {x y : Operand} (u : TypeId) (z : Value) (w : World) :
    (do eqGuard .eql t x y (.iface u z) .nilIface; binOp .eql t (.iface u z) .nilIface : Sem Value).run P w = .ok (.bool false) w ∧ (do eqGuard .neq t x y (.iface u z) .nilIface; binOp .neq t (.iface u z) .nilIface : Sem Value).run P w = .ok (.bool true) w := by
  have : (Op.equal t (.iface u z) .nilIface).run P w = .ok false w := by
    have : ∀ d, (Op.equalIn (d + 1) t (.iface u z) .nilIface).run P w = .ok false w := fun d => by simp [Op.equalIn, run_underlying h]
    exact this 9999
  constructor <;> (simp only [Sem.run_bind]; simp [eqGuard, binOp, this])
theorem isNil_read {l : List AVal} {ow : Own} {v : AVal} {x : Value} (h : isNilE l ow = some v) (h1 : ReadV g w (.vec l ow) x) : ∃ b n c, x = .slice b n c ∧ v = .bool b.isNone := by
  unfold isNilE at h
  obtain ⟨h1, h2⟩ := h1
  split at h
  · cases h
    rcases h1 with ⟨e, _⟩ | ⟨b, o, cap, k, vs, e, _⟩
    · cases e
    · exact ⟨_, _, _, e, rfl⟩
  · split at h
    · cases h
      exact ⟨_, _, _, h2 rfl, rfl⟩
    · cases h
theorem bin_ok {op : BinOp} {t : TypeId} {x y : Operand} {p q v : AVal} {u1 u2 : Value} (h : binE P op t x y p q = some v) (h1 : ReadV g w p u1) (h2 : ReadV g w q u2) :
    ∃ z, (do eqGuard op t x y u1 u2; binOp op t u1 u2 : Sem Value).run P w = .ok z w ∧ ofV z = some v := by
  have str : ∀ s u, p = .str s → q = .str u → ∃ z, (do eqGuard op t x y u1 u2; binOp op t u1 u2 : Sem Value).run P w = .ok z w ∧ ofV z = some v := by
    rintro s u rfl rfl
    have e1 := h1.plain (by simp)
    have e2 := h2.plain (by simp)
    cases e1; cases e2
    obtain ⟨z, k1, _, k3⟩ := @stringOp_str P g op t x y s u v h w
    exact ⟨z, k1, k3⟩
  unfold binE at h
  split at h
  case h_8 =>
    rename_i a'
    split at h
    · rename_i el hu
      cases h
      have e1 := h1.plain (by simp)
      have e2 := h2.plain (by simp)
      cases e2
      have hp : P.underlying t = some (.pointer (P.pointee t)) := by simp only [Program.pointee, hu]
      obtain ⟨z, rfl⟩ : ∃ z, u1 = .pointer z := by cases e1 <;> exact ⟨_, rfl⟩
      have hz : z.isNone = a'.isNone := by cases e1 <;> rfl
      exact ⟨.bool z.isNone, by rw [Sem.run_bind, eqGuard_ptr]; exact run_eql_pointer_nil w t z hp, by rw [hz]; rfl⟩
    · cases h
  case h_9 =>
    rename_i a'
    split at h
    · rename_i el hu
      cases h
      have e1 := h1.plain (by simp)
      have e2 := h2.plain (by simp)
      cases e2
      have hp : P.underlying t = some (.pointer (P.pointee t)) := by simp only [Program.pointee, hu]
      obtain ⟨z, rfl⟩ : ∃ z, u1 = .pointer z := by cases e1 <;> exact ⟨_, rfl⟩
      have hz : z.isNone = a'.isNone := by cases e1 <;> rfl
      exact ⟨.bool (!z.isNone), by rw [Sem.run_bind, eqGuard_ptr]; exact run_neq_pointer_nil w t z hp, by rw [hz]; rfl⟩
    · cases h
  case h_10 =>
    split at h
    · rename_i hu
      cases h
      have e1 := h1.plain (by simp)
      have e2 := h2.plain (by simp)
      cases e2
      obtain ⟨fn, xs, ys, rfl⟩ : ∃ fn xs ys, u1 = .func fn xs ys := by cases e1 <;> exact ⟨_, _, _, rfl⟩
      exact ⟨.bool false, by rw [Sem.run_bind, eqGuard_fun]; exact (run_eq_fun hu w).1, rfl⟩
    · cases h
  case h_11 =>
    split at h
    · rename_i hu
      cases h
      have e1 := h1.plain (by simp)
      have e2 := h2.plain (by simp)
      cases e2
      obtain ⟨fn, xs, ys, rfl⟩ : ∃ fn xs ys, u1 = .func fn xs ys := by cases e1 <;> exact ⟨_, _, _, rfl⟩
      exact ⟨.bool true, by rw [Sem.run_bind, eqGuard_fun]; exact (run_eq_fun hu w).2, rfl⟩
    · cases h
  case h_12 =>
    split at h
    · rename_i hu
      obtain ⟨b, n, c, rfl, rfl⟩ := isNil_read h h1
      rw [h2.2 rfl]
      exact ⟨_, (run_eq_slice hu b n c w).1, rfl⟩
    · cases h
  case h_13 =>
    split at h
    · rename_i hu
      split at h
      · rename_i bb hb
        obtain ⟨b, n, c, rfl, e⟩ := isNil_read hb h1
        cases e
        cases h
        rw [h2.2 rfl]
        exact ⟨_, (run_eq_slice hu b n c w).2, rfl⟩
      · cases h
    · cases h
  case h_14 =>
    split at h
    · rename_i r _ kt et hu
      cases h
      have e1 := h1.plain (by simp)
      have e2 := h2.plain (by simp)
      cases e2
      obtain ⟨b, rfl, hb⟩ : ∃ b, u1 = .map b ∧ b.isNone = r.isNone := by cases e1 <;> exact ⟨_, rfl, rfl⟩
      exact ⟨_, (run_eq_map hu b w).1, by rw [hb]; rfl⟩
    · cases h
  case h_15 =>
    split at h
    · rename_i r _ kt et hu
      cases h
      have e1 := h1.plain (by simp)
      have e2 := h2.plain (by simp)
      cases e2
      obtain ⟨b, rfl, hb⟩ : ∃ b, u1 = .map b ∧ b.isNone = r.isNone := by cases e1 <;> exact ⟨_, rfl, rfl⟩
      exact ⟨_, (run_eq_map hu b w).2, by rw [hb]; rfl⟩
    · cases h
  case h_16 =>
    split at h
    · rename_i hu
      cases h
      have e1 := h1.plain (by simp)
      have e2 := h2.plain (by simp)
      cases e2
      cases e1
      exact ⟨_, (run_eq_face hu _ _ w).1, rfl⟩
    · cases h
  case h_17 =>
    split at h
    · rename_i hu
      cases h
      have e1 := h1.plain (by simp)
      have e2 := h2.plain (by simp)
      cases e2
      cases e1
      exact ⟨_, (run_eq_face hu _ _ w).2, rfl⟩
    · cases h
  case h_18 => exact ground2_ok h h1 h2
  all_goals exact str _ _ rfl rfl

section
variable (hi : Inv B g w H) (he : EnvOK g w d env (tmOf a)) (hs : Sub e env)
include hi he hs
theorem binOp_ok {o : Oper} {op : BinOp} {t yt : TypeId} {x y : Operand} {out : Out} (ho : o.op = .binOp op t x y yt) (h : binOpE P e op t x y = some out) : OpOK P d B env g w H a o ⟨out, H, []⟩ nobody := by
  unfold binOpE at h
  split at h
  · rename_i p q hp hq
    split at h
    · rename_i v hv
      obtain ⟨z, hz, hvz⟩ := bin_ok hv (ev_read he (ev_sub hs hp)) (ev_read he (ev_sub hs hq))
      refine pure_ok hi he h (x := z) ?_ fun t => slot_ofV hvz
      simp only [execOp, ho]
      simp only [Sem.run_bind] at hz ⊢
      rw [hz]
      rfl
    · cases h
  · cases h
theorem unOp_ok {o : Oper} {op : UnOp} {t : TypeId} {x : Operand} {out : Out} (ho : o.op = .unOp op t x) (h : unOpE P e op x = some out) : OpOK P d B env g w H a o ⟨out, H, []⟩ nobody := by
  unfold unOpE at h
  split at h
  · rename_i p hp
    split at h
    · rename_i u hu
      split at h
      · rename_i v hv
        obtain ⟨z, hz, hvz⟩ := Option.bind_eq_some_iff.1 hv
        refine pure_ok hi he h (x := z) ?_ fun t => slot_ofV hvz
        simp only [execOp, ho, toV_read (ev_read he (ev_sub hs hp)) hu]
        simp only [Sem.run_bind, pureRun_run hz w]
        rfl
      · cases h
    · cases h
  · cases h
end

/-! ### Parts -/
theorem info_of_underlying {t : TypeId} {dd : TypeDesc} (h : P.underlying t = some dd) : ∃ i, P.info? t = some i := by
  unfold Program.underlying at h
  cases hi : P.info? t with
  | none => rw [hi] at h; cases h
  | some i => exact ⟨i, rfl⟩
theorem sizeOf_run {t : TypeId} {dd : TypeDesc} (h : P.underlying t = some dd) (w : World) : (sizeOf t).run P w = .ok (P.cellsOf t) w := by
  obtain ⟨i, hi⟩ := info_of_underlying h
  exact run_sizeOf w hi
theorem isAgg_run {t : TypeId} {dd : TypeDesc} (h : P.underlying t = some dd) (w : World) : (isAgg t).run P w = .ok (isAggT P t) w := by
  unfold isAgg isAggT
  rw [Sem.run_bind, run_underlying h w, h]
  cases dd <;> rfl
theorem RelV.noBor {v : AVal} {x : Value} (h : RelV g w v x) : (∀ j, v ≠ .bor j) ∧ ∀ j p q, v ≠ .sptr j p q := by
  cases h <;> simp
theorem RelV.noTup {v : AVal} {x : Value} (h : RelV g w v x) (h1 : ∀ vs, x ≠ .tuple vs) : ∀ vs, v ≠ .tup vs := by
  intro vs e; subst e
  cases h
  exact h1 _ rfl
theorem ro1_ro1 (v : AVal) : ro1 (ro1 v) = ro1 v := by
  cases v with
  | vec l o => cases o with
    | tip k => cases k <;> rfl
    | _ => rfl
  | _ => rfl
theorem One.get {vs : List Value} (h : One vs) {j : Nat} {x : Value} (hj : vs[j]? = some x) : x.oneCell' = true := h x (List.mem_of_getElem? hj)
theorem part_ok {t : TypeId} {cs : List AVal} {vs : List Value} {off : Nat} {v : AVal} (hl : RelL g w cs vs) (h1 : One vs) (h : partOf P t cs off = some v) :
    ∃ z, (part t vs.toArray off).run P w = .ok z w ∧ RelV g w v z ∧ (∀ l, z ≠ .tuple l) ∧ ro v = v := by
  unfold partOf at h
  split at h
  · cases h
  · rename_i dd hu
    unfold part
    rw [Sem.run_bind, isAgg_run hu w]
    simp only [Result.andThen_ok]
    split at h
    · rename_i hag
      split at h
      · rename_i hle
        cases h
        rw [if_pos hag]
        simp only [Sem.run_bind, sizeOf_run hu w, Result.andThen_ok]
        refine ⟨_, rfl, ?_, by simp, ?_⟩
        · have := (((hl.drop off).take (P.cellsOf t)).map fun _ _ k => k.ro1)
          have h2 : One ((vs.drop off).take (P.cellsOf t)) := fun x hx => h1 x (List.mem_of_mem_drop (List.mem_of_mem_take hx))
          have h3 := RelV.agg this h2
          have h4 : ((vs.drop off).take (P.cellsOf t)).toArray = vs.toArray.extract off (off + P.cellsOf t) := by
            rw [List.extract_toArray, List.extract_eq_take_drop]
            congr 2
            omega
          rwa [h4] at h3
        · simp only [ro, List.map_map]
          congr 1
          apply List.map_congr_left
          intro x _
          exact ro1_ro1 x
      · cases h
    · rename_i hag
      obtain ⟨c, hc, rfl⟩ := Option.map_eq_some_iff.1 h
      obtain ⟨x, hx, hr⟩ := hl.get hc
      rw [if_neg hag]
      refine ⟨x, ?_, hr.ro1, ?_, ?_⟩
      · simp [hx]
      · intro l e; subst e; have := h1.get hx; cases this
      · have h5 := h1.get hx
        cases c with
        | agg l => cases hr; cases h5
        | tup l => cases hr; cases h5
        | vec l o => simp only [ro1]; split <;> simp [ro, ro1]
        | _ => rfl
end
end Go.Abs
end

section
/- Operations that leave the memory as it is, but for what they hand on. -/
namespace Go.Abs
open Go
set_option linter.unusedSimpArgs false
set_option linter.unusedVariables false

/-- what an operation hands on -/
def Frees (env : Env) (ups : List (Nat × AVal)) : Prop := ∀ i u, (i, u) ∈ ups → ∃ l k, u = .vec l (.tip k) ∧ eget env i = some (.vec l (.ex k))
theorem frees_esc (env : Env) (x : Operand) : Frees env (esc env x) := fun _ _ h => esc_ups h
theorem Frees.last {env : Env} {ups : List (Nat × AVal)} (h : Frees env ups) {i : Nat} {u : AVal} (hm : (i, u) ∈ ups) : eget (esets env ups) i = some u := by
  refine esets_last hm fun u' hm' => ?_
  obtain ⟨l, k, rfl, h1⟩ := h i u hm
  obtain ⟨l', k', rfl, h2⟩ := h i u' hm'
  rw [h1] at h2; cases h2; rfl
theorem frees_nil (env : Env) : Frees env [] := fun _ _ h => by cases h
theorem Frees.append {env : Env} {a b : List (Nat × AVal)} (h : Frees env a) (k : Frees env b) : Frees env (a ++ b) := fun i u hm => by
  rcases List.mem_append.1 hm with hm | hm
  · exact h i u hm
  · exact k i u hm

section
variable {P : Program} {d B : Nat} {env e : Env} {g : G} {w : World} {H : Heap} {a : Act}
theorem left_esc (hi : Inv B g w H) (he : EnvOK g w d env (tmOf a)) {ups : List (Nat × AVal)} (hu : Frees env ups) {dst : Option Nat} {x : Value} {v : AVal}
    (hv : ∀ g', Fix d B g g' w H → EnvOK g' w d (esets env ups) (tmOf a) → Froze env (esets env ups) → ∀ t, SlotOK g' w d (esets env ups) (tmOf a) t x v) :
    ∃ g', Left d B env (tmOf a) g w H dst ⟨⟨ups, [], v, none⟩, H, []⟩ nobody g' w x := by
  obtain ⟨g', f, h1, h2⟩ := freeze_ups he hi (.refl env) hu
  exact ⟨g', f.post, h1, fun t _ => hv g' f h1 h2 t, fun _ _ h => by cases h⟩
theorem esc_ok (hi : Inv B g w H) (he : EnvOK g w d env (tmOf a)) {ups : List (Nat × AVal)} (hu : Frees env ups) {o : Oper} {x : Value} {v : AVal} {out : Out} (ho : outU ups v = some out) (hr : (execOp a.eval o).run P w = .ok (.value x) w)
    (hv : ∀ g', Fix d B g g' w H → EnvOK g' w d (esets env ups) (tmOf a) → Froze env (esets env ups) → ∀ t, SlotOK g' w d (esets env ups) (tmOf a) t x v) :
    OpOK P d B env g w H a o ⟨out, H, []⟩ nobody := by
  cases ho
  obtain ⟨g', h⟩ := left_esc (dst := o.dst) hi he hu hv
  exact ⟨g', w, x, .inl hr, h⟩
theorem read_frozen {g' : G} {ups : List (Nat × AVal)} (hu : Frees env ups) (h1 : EnvOK g' w d (esets env ups) (tmOf a)) (h2 : Froze env (esets env ups)) {x : Operand} {v : AVal} (hv : ev env x = some v) (hm : ∀ p, p ∈ esc env x → p ∈ ups) :
    RelV g' w (ro v) (a.eval x) := ev_frozen h1 h2 hv fun i u hiu => hu.last (hm _ hiu)
theorem slot_frozen {g' : G} {ups : List (Nat × AVal)} (hu : Frees env ups) (h1 : EnvOK g' w d (esets env ups) (tmOf a)) (h2 : Froze env (esets env ups)) {x : Operand} {v : AVal} (hv : ev env x = some v) (hm : ∀ p, p ∈ esc env x → p ∈ ups) (t : Nat) :
    SlotOK g' w d (esets env ups) (tmOf a) t (a.eval x) (ro v) :=
  slot_of_ro (read_frozen hu h1 h2 hv hm) (ev_noTup hv) (ev_noBor hv) (ev_noSptr hv)

variable (hi : Inv B g w H) (he : EnvOK g w d env (tmOf a)) (hs : Sub e env)
include hi he hs

theorem pick_ok {o : Oper} {c x y : Operand} {out : Out} (ho : o.op = .pick c x y) (h : pickE e c x y = some out) : OpOK P d B env g w H a o ⟨out, H, []⟩ nobody := by
  unfold pickE at h
  have run : ∀ b, ev e c = some (.bool b) → (execOp a.eval o).run P w = .ok (.value (if b then a.eval x else a.eval y)) w := by
    intro b hb
    have := ev_rel he (ev_sub hs hb) (by simp)
    generalize hz : a.eval c = z at this
    cases this
    simp only [execOp, ho]
    simp [hz, asBool]
  split at h
  · rename_i hc
    split at h
    · rename_i v hv
      rw [esc_sub hs hv] at h
      exact esc_ok hi he (frees_esc env x) h (by simpa using run true hc) fun g' f h1 h2 t => slot_frozen (frees_esc env x) h1 h2 (ev_sub hs hv) (fun _ h => h) t
    · cases h
  · rename_i hc
    split at h
    · rename_i v hv
      rw [esc_sub hs hv] at h
      exact esc_ok hi he (frees_esc env y) h (by simpa using run false hc) fun g' f h1 h2 t => slot_frozen (frees_esc env y) h1 h2 (ev_sub hs hv) (fun _ h => h) t
    · cases h
  · cases h

theorem index_ok {o : Oper} {t : TypeId} {x ix : Operand} {out : Out} (ho : o.op = .index t x ix) (h : indexE P e t x ix = some out) : OpOK P d B env g w H a o ⟨out, H, []⟩ nobody := by
  unfold indexE at h
  split at h
  · rename_i s k i hu hx hix
    split at h
    · rename_i hi0
      split at h
      · rename_i b hb
        have e1 := ev_rel he (ev_sub hs hx) (by simp)
        have e2 := ev_rel he (ev_sub hs hix) (by simp)
        refine pure_ok hi he h (x := .int .u8 b.toNat) ?_ fun t => slot_ro (.int _ _) (by simp) (by simp) (by simp) (by simp) (by simp)
        generalize hz1 : a.eval x = z1 at e1
        generalize hz2 : a.eval ix = z2 at e2
        cases e1; cases e2
        simp only [execOp, ho, hz1, hz2, Instr.index, asIntOf]
        simp [run_underlying hu]
        have hb' : (⟨s.toArray⟩ : ByteArray)[i.toNat]? = some b := by
          have hlt : i.toNat < s.length := by
            rcases Nat.lt_or_ge i.toNat s.length with h | h
            · exact h
            · rw [List.getElem?_eq_none h] at hb; cases hb
          rw [List.getElem?_eq_getElem hlt] at hb
          cases hb
          rw [getElem?_pos (⟨s.toArray⟩ : ByteArray) i.toNat (by simpa [ByteArray.size] using hlt)]
          rfl
        simp [hi0, hb']
      · cases h
    · cases h
  · rename_i n elem cs k i hu hx hix
    split at h
    · rename_i hi0
      split at h
      · rename_i v hv
        have e1 := ev_rel he (ev_sub hs hx) (by simp)
        have e2 := ev_rel he (ev_sub hs hix) (by simp)
        generalize hz1 : a.eval x = z1 at e1
        generalize hz2 : a.eval ix = z2 at e2
        cases e1 with
        | agg hl h1 =>
          cases e2
          obtain ⟨z, hz, hr, hnt, hro⟩ := @part_ok P g w elem cs _ _ v hl h1 hv
          have hue : ∃ de, P.underlying elem = some de := by
            unfold partOf at hv
            split at hv
            · cases hv
            · rename_i de hde; exact ⟨de, hde⟩
          obtain ⟨de, hue⟩ := hue
          refine pure_ok hi he h (x := z) ?_ fun t => by
            have := slot_of_ro (d := d) (env := env) (tm := tmOf a) (t := t) (hro.symm ▸ hr) (hr.noTup hnt) hr.noBor.1 hr.noBor.2
            rwa [hro] at this
          simp only [execOp, ho, hz1, hz2, Instr.index, asIntOf]
          simp [run_underlying hu, hi0, sizeOf_run hue, hz]
      · cases h
    · cases h
  · cases h

theorem field_ok {o : Oper} {t : TypeId} {x : Operand} {f : Nat} {out : Out} (ho : o.op = .field t x f) (h : fieldE P e t x f = some out) : OpOK P d B env g w H a o ⟨out, H, []⟩ nobody := by
  unfold fieldE at h
  split at h
  · rename_i fields cs hu hx
    split at h
    · rename_i fd hfd
      split at h
      · rename_i v hv
        have e1 := ev_rel he (ev_sub hs hx) (by simp)
        generalize hz1 : a.eval x = z1 at e1
        cases e1 with
        | agg hl h1 =>
          obtain ⟨z, hz, hr, hnt, hro⟩ := @part_ok P g w fd.type cs _ _ v hl h1 hv
          refine pure_ok hi he h (x := z) ?_ fun t => by
            have := slot_of_ro (d := d) (env := env) (tm := tmOf a) (t := t) (hro.symm ▸ hr) (hr.noTup hnt) hr.noBor.1 hr.noBor.2
            rwa [hro] at this
          simp only [execOp, ho, hz1, Instr.field]
          simp [run_underlying hu, hfd, asAgg, hz]
      · cases h
    · cases h
  · cases h

theorem plain_slot {t : Nat} {x : Value} {v : AVal} (h : RelV g w v x) (h1 : ∀ vs, v ≠ .tup vs) (h2 : ∀ l o, v ≠ .vec l o) : SlotOK g w d env (tmOf a) t x v :=
  slot_ro h h1 h.noBor.1 h.noBor.2 (fun l k => h2 l _) (fun l k => h2 l _)
omit hi he hs in
theorem field_inv {t : TypeId} {dd : TypeDesc} (h : P.underlying t = some dd) (hz : P.cellsOf t ≠ 0) (b o : Nat) (fd : Field) (ht : fd.type = t) (w : World) : (fieldPlace ⟨b, o, none⟩ fd).run P w = .ok ⟨b, o + fd.offset, none⟩ w := by
  unfold fieldPlace
  rw [ht]
  simp [sizeOf_run h, hz, Addr.add_mid]
omit hi he hs in
theorem info_of_cells {t : TypeId} (hz : P.cellsOf t ≠ 0) : ∃ i, P.info? t = some i := by
  cases hi : P.info? t with
  | none => exact absurd (by simp [Program.cellsOf, hi]) hz
  | some i => exact ⟨i, rfl⟩
omit hi he hs in
theorem fieldPlace_run {fd : Field} (hz : P.cellsOf fd.type ≠ 0) (b o : Nat) (w : World) : (fieldPlace ⟨b, o, none⟩ fd).run P w = .ok ⟨b, o + fd.offset, none⟩ w := by
  unfold fieldPlace
  obtain ⟨i, hi⟩ := info_of_cells hz
  rw [Sem.run_bind, run_sizeOf w hi]
  simp [hz, Addr.add_mid]

theorem fieldAddr_ok {o : Oper} {s : TypeId} {x : Operand} {f : Nat} {out : Out} (ho : o.op = .fieldAddr s x f) (h : fieldAddrE P e s x f = some out) : OpOK P d B env g w H a o ⟨out, H, []⟩ nobody := by
  unfold fieldAddrE at h
  split at h
  · rename_i fields hu
    split at h
    · rename_i fd hfd
      split at h
      · cases h
      · rename_i hz
        have run : ∀ b p, a.eval x = .pointer (some ⟨b, p, none⟩) → (execOp a.eval o).run P w = .ok (.value (.pointer (some ⟨b, p + fd.offset, none⟩))) w := by
          intro b p hx
          simp only [execOp, ho, hx, Instr.fieldAt, Instr.sureAddr]
          simp [run_underlying hu, hfd, fieldPlace_run hz]
        split at h
        · rename_i id off hx
          have e1 := (rawv_read he (rawv_sub hs hx) (by simp) (by simp) (by simp)).plain (by simp)
          generalize hz1 : a.eval x = z1 at e1
          cases e1 with
          | ptr _ hr => exact pure_ok hi he h (run _ _ hz1) fun t => plain_slot hi he hs (.ptr _ hr) (by simp) (by simp)
        · rename_i cs off hx
          have e1 := (rawv_read he (rawv_sub hs hx) (by simp) (by simp) (by simp)).plain (by simp)
          generalize hz1 : a.eval x = z1 at e1
          cases e1 with
          | eptr _ hl h1 hh hb =>
            refine pure_ok hi he h (run _ _ hz1) fun t => ?_
            rw [Nat.add_assoc]
            exact plain_slot hi he hs (.eptr _ hl h1 hh hb) (by simp) (by simp)
        · rename_i i k off hx
          cases x with
          | tmp t =>
            split at h
            · rename_i hlt
              obtain ⟨hx1, hx2⟩ := rawv_slot he (rawv_sub hs hx)
              obtain ⟨l, ow, b, p, n, cap, m, h1, h2, h3, h4, h5⟩ := hx2
              refine pure_ok hi he h (run b _ (h5.ptr (by omega))) fun t => ?_
              exact ⟨l, ow, b, p, n, cap, m, h1, h2, h3, h4, .inl ⟨hlt, by rw [Nat.add_assoc]⟩⟩
            · cases h
          | const c => exact absurd (@ofV_rel g w _ _ hx) (by intro k; cases k)
          | global gl => cases hx
          | func f => cases hx
        · cases h
    · cases h
  · cases h

theorem nilCheck_ok {o : Oper} {x : Operand} {out : Out} (ho : o.op = .nilCheck x) (h : nilCheckE e x = some out) : OpOK P d B env g w H a o ⟨out, H, []⟩ nobody := by
  unfold nilCheckE at h
  split at h
  · rename_i i k off hx
    cases x with
    | tmp t =>
      split at h
      · rename_i hlt
        obtain ⟨hx1, hx2⟩ := rawv_slot he (rawv_sub hs hx)
        have hx3 := hx2
        obtain ⟨l, ow, b, p, n, cap, m, h1, h2, h3, h4, h5⟩ := hx2
        refine pure_ok hi he h (x := a.eval (.tmp t)) ?_ fun t => hx3
        simp only [execOp, ho, h5.ptr hlt]
        rfl
      · cases h
    | const c => exact absurd (@ofV_rel g w _ _ hx) (by intro k; cases k)
    | global gl => cases hx
    | func f => cases hx
  · split at h
    · rename_i p hx
      have e1 := ev_rel he (ev_sub hs hx) (by simp)
      refine pure_ok hi he h (x := a.eval x) ?_ fun t => plain_slot hi he hs e1 (by simp) (by simp)
      generalize hz1 : a.eval x = z1 at e1
      cases e1
      simp only [execOp, ho, hz1]; rfl
    · rename_i cs off hx
      have e1 := ev_rel he (ev_sub hs hx) (by simp)
      refine pure_ok hi he h (x := a.eval x) ?_ fun t => plain_slot hi he hs e1 (by simp) (by simp)
      generalize hz1 : a.eval x = z1 at e1
      cases e1
      simp only [execOp, ho, hz1]; rfl
    · rename_i fn first captured hx
      split at h
      · cases h
      · rename_i hne
        have e1 := ev_rel he (ev_sub hs hx) (by simp)
        refine pure_ok hi he h (x := a.eval x) ?_ fun t => plain_slot hi he hs e1 (by simp) (by simp)
        generalize hz1 : a.eval x = z1 at e1
        cases e1 with
        | func hy h1 h2 =>
          simp only [execOp, ho, hz1]
          cases fn with
          | method nm => exact absurd rfl (hne nm)
          | _ => rfl
        | yieldF h => simp only [execOp, ho, hz1]; rfl
    · rename_i r hx
      have e1 := ev_rel he (ev_sub hs hx) (by simp)
      refine pure_ok hi he h (x := a.eval x) ?_ fun t => plain_slot hi he hs e1 (by simp) (by simp)
      generalize hz1 : a.eval x = z1 at e1
      cases e1 <;> (simp only [execOp, ho, hz1]; rfl)
    · cases h
end
end Go.Abs
end

section
/- Addresses of elements; loads; look-ups. -/
namespace Go.Abs
open Go
set_option linter.unusedSimpArgs false
set_option linter.unusedVariables false
set_option linter.unusedSectionVars false

/-! ### Lists of elements -/
theorem flat_length {l : List AVal} {k : Nat} (h : ∀ e ∈ l, e.cells.length = k) : (l.flatMap AVal.cells).length = l.length * k := by
  induction l with
  | nil => simp
  | cons v r ih =>
    have h1 := h v (by simp)
    have h2 := ih fun e he => h e (List.mem_cons_of_mem _ he)
    simp only [List.flatMap_cons, List.length_append, h1, h2, List.length_cons, Nat.add_mul]
    omega
theorem flat_drop {l : List AVal} {k : Nat} (h : ∀ e ∈ l, e.cells.length = k) (n : Nat) : (l.drop n).flatMap AVal.cells = (l.flatMap AVal.cells).drop (n * k) := by
  induction n generalizing l with
  | zero => simp
  | succ n ih =>
    cases l with
    | nil => simp
    | cons v r =>
      have h1 := h v (by simp)
      rw [List.drop_succ_cons, ih fun e he => h e (List.mem_cons_of_mem _ he), List.flatMap_cons, show (n + 1) * k = v.cells.length + n * k by rw [h1, Nat.add_mul]; omega, List.drop_append]
      simp
theorem flat_take {l : List AVal} {k : Nat} (h : ∀ e ∈ l, e.cells.length = k) (n : Nat) : (l.take n).flatMap AVal.cells = (l.flatMap AVal.cells).take (n * k) := by
  induction n generalizing l with
  | zero => simp
  | succ n ih =>
    cases l with
    | nil => simp
    | cons v r =>
      have h1 := h v (by simp)
      rw [List.take_succ_cons, List.flatMap_cons, ih fun e he => h e (List.mem_cons_of_mem _ he), List.flatMap_cons, show (n + 1) * k = v.cells.length + n * k by rw [h1, Nat.add_mul]; omega, List.take_append, show v.cells.take (v.cells.length + n * k) = v.cells from List.take_of_length_le (by omega)]
      simp
theorem flat_get {l : List AVal} {k : Nat} (h : ∀ e ∈ l, e.cells.length = k) {i : Nat} {v : AVal} (hi : l[i]? = some v) : v.cells = ((l.flatMap AVal.cells).drop (i * k)).take k := by
  rw [← flat_drop h]
  have hlt : i < l.length := by
    rcases Nat.lt_or_ge i l.length with h | h
    · exact h
    · rw [List.getElem?_eq_none h] at hi; cases hi
  rw [List.drop_eq_getElem_cons hlt]
  have : l[i] = v := by rw [List.getElem?_eq_getElem hlt] at hi; cases hi; rfl
  rw [this, List.flatMap_cons]
  have hv := h v (this ▸ List.getElem_mem hlt)
  rw [List.take_append_of_le_length (by omega), ← hv]
  simp
theorem headOk_uni {l : List AVal} {k m : Nat} (h : ∀ e ∈ l, e.cells.length = k) (hh : headOk m l = true) : ∀ e ∈ l, e.cells.length = m := by
  cases l with
  | nil => simp
  | cons v r =>
    have h1 := h v (by simp)
    simp only [headOk, beq_iff_eq] at hh
    intro e he
    rw [h e he]; omega

theorem rangeAt_sub {w : World} {b o : Nat} {vs : List Value} (h : w.rangeAt b o vs) (m n : Nat) : w.rangeAt b (o + m) ((vs.drop m).take n) := by
  intro j v hj
  rw [List.getElem?_take] at hj
  split at hj
  · rw [List.getElem?_drop] at hj
    have := h (m + j) v hj
    rwa [show o + (m + j) = o + m + j by omega] at this
  · cases hj
theorem one_sub {vs : List Value} (h : One vs) (m n : Nat) : One ((vs.drop m).take n) := fun x hx => h x (List.mem_of_mem_drop (List.mem_of_mem_take hx))

section
variable {P : Program} {d B : Nat} {env e : Env} {g : G} {w : World} {H : Heap} {a : Act}
/-- the place of an element -/
theorem elem_place {l : List AVal} {own : Own} {x : Value} (h : RelV g w (.vec l own) x) {i k : Nat} {v : AVal} (hi : l[i]? = some v) (hk : headOk k l = true) :
    ∃ b o cap, x = .slice (some ⟨b, o, none⟩) l.length cap ∧ RelV g w (.eptr v.cells 0) (.pointer (some ⟨b, o + i * k, none⟩)) := by
  cases h with
  | vecE _ a cap ho => cases hi
  | vec _ hu hl h1 hh he hc ho hz =>
    rename_i b o cap k' vs
    have hu := headOk_uni hu hk
    refine ⟨b, o, cap, rfl, ?_⟩
    have hlen := flat_length hu
    have hvl := hl.length
    have hil : i < l.length := by
      rcases Nat.lt_or_ge i l.length with h | h
      · exact h
      · rw [List.getElem?_eq_none h] at hi; cases hi
    have hik : i * k + k ≤ l.length * k := by
      have := Nat.mul_le_mul_right k (show i + 1 ≤ l.length from hil)
      rw [Nat.add_mul] at this; omega
    have h2 : RelL g w v.cells ((vs.drop (i * k)).take k) := by
      rw [flat_get hu hi]; exact (hl.drop _).take _
    have := RelV.eptr 0 h2 (one_sub h1 _ _) (rangeAt_sub hh (i * k) k) (by
      rw [List.length_take, List.length_drop]; omega)
    simpa using this

theorem indexAddr_run {o : Oper} {t : TypeId} {x ix : Operand} (ho : o.op = .indexAddr t x ix) {elem : TypeId} (hu : P.underlying t = some (.slice elem)) {de : TypeDesc} (hue : P.underlying elem = some de) {k : IntKind} {i : Int} (hix : a.eval ix = .int k i) {b p n cap : Nat}
    (hx : a.eval x = .slice (some ⟨b, p, none⟩) n cap) (h0 : 0 ≤ i) (h1 : i < n) : (execOp a.eval o).run P w = .ok (.value (.pointer (some ⟨b, p + i.toNat * P.cellsOf elem, none⟩))) w := by
  simp only [execOp, ho, hx, hix, Instr.indexAt, asIntOf]
  simp [run_underlying hu, h0, h1, sizeOf_run hue, Addr.add_mid]

variable (hi : Inv B g w H) (he : EnvOK g w d env (tmOf a)) (hs : Sub e env)
include hi he hs

theorem indexAddr_ok {o : Oper} {t : TypeId} {x ix : Operand} {out : Out} (ho : o.op = .indexAddr t x ix) (h : indexAddrE P e t x ix = some out) : OpOK P d B env g w H a o ⟨out, H, []⟩ nobody := by
  unfold indexAddrE at h
  split at h
  case h_2 => cases h
  rename_i kk i hix
  have e2 := ev_rel he (ev_sub hs hix) (by simp)
  have hzi : a.eval ix = .int kk i := by generalize a.eval ix = z at e2; cases e2; rfl
  split at h
  case h_3 => cases h
  · rename_i elem hu
    split at h
    case h_2 => cases h
    rename_i l ow hx
    split at h
    case isFalse => cases h
    rename_i hc
    obtain ⟨h0, hk, hue⟩ := hc
    obtain ⟨de, hue⟩ := Option.isSome_iff_exists.1 hue
    split at h
    case h_2 => cases h
    rename_i v hv
    have hlt : i.toNat < l.length := by
      rcases Nat.lt_or_ge i.toNat l.length with h | h
      · exact h
      · rw [List.getElem?_eq_none h] at hv; cases hv
    have hil : i < (l.length : Nat) := by omega
    have direct : ∀ r, rawv e x = some r → (∀ s, r = .bor s → ∀ l k, eget e s ≠ some (.vec l (.ex k))) → outU (esc e x) (.eptr v.cells 0) = some out → OpOK P d B env g w H a o ⟨out, H, []⟩ nobody := by
      intro r hr hnb hout
      rw [esc_sub hs hx] at hout
      have hx' := ev_sub hs hx
      have fr := frees_esc env x
      obtain ⟨g1, f, h1, h2⟩ := freeze_ups he hi (.refl env) fr
      have hro := read_frozen fr h1 h2 hx' fun _ h => h
      have hro' : RelV g1 w (.vec l .ro) (a.eval x) := by
        cases ow with
        | ro => exact hro
        | nul => exact hro.own _
        | tip k => cases k with
          | zero => exact hro.own _
          | succ k => exact hro
        | ex k => exact hro
      obtain ⟨b, p, cap, hxe, hel⟩ := elem_place hro' hv hk
      refine esc_ok hi he fr hout (indexAddr_run ho hu hue hzi hxe h0 hil) fun g' f h1 h2 t => ?_
      have hro := read_frozen fr h1 h2 hx' fun _ h => h
      have hro' : RelV g' w (.vec l .ro) (a.eval x) := by
        cases ow with
        | ro => exact hro
        | nul => exact hro.own _
        | tip k => cases k with
          | zero => exact hro.own _
          | succ k => exact hro
        | ex k => exact hro
      obtain ⟨b', p', cap', hxe', hel'⟩ := elem_place hro' hv hk
      rw [hxe] at hxe'
      cases hxe'
      exact slot_ro hel' (by simp) (by simp) (by simp) (by simp) (by simp)
    split at h
    · rename_i s hr
      have hr' := rawv_sub hs hr
      cases x with
      | const c => exact absurd (@ofV_rel g w _ _ hr) (by intro k; cases k)
      | global gl => cases hr
      | func f => cases hr
      | tmp t1 =>
        obtain ⟨hx1, l1, o1, hs1, hs2⟩ := rawv_slot he hr'
        obtain ⟨s', l', o', hr2, hl2, e3⟩ := (ev_cases hx).resolve_right fun ⟨hr2, _, h2, _⟩ => by
          rw [hr] at hr2; cases hr2
        rw [hr] at hr2; cases hr2
        cases e3
        have hse := hs s _ hl2
        rw [hs1] at hse
        cases hse
        split at h
        · rename_i l3 k3 hs3
          rw [hl2] at hs3; cases hs3
          obtain ⟨y, hy, hsl⟩ := he s _ hs1
          rw [hs2] at hy; cases hy
          have hex : ExOK g w (.slot d s) l k3 (a.eval (.tmp t1)) := by simpa [SlotOK, HoldOK] using hsl
          obtain ⟨ad, cap, hxe, hcase⟩ := hex
          rcases hcase with ⟨rfl, _⟩ | ⟨hk3, hc3, b, p, vs, rfl, _, _, hun, _⟩
          · cases hv
          · refine pure_ok hi he h (indexAddr_run ho hu hue hzi hxe h0 hil) fun t => ?_
            exact ⟨l, .ex k3, b, p, l.length, cap, P.cellsOf elem, hs1, hs2.trans (congrArg some hxe), hlt, headOk_uni hun hk, .inl ⟨by decide, rfl⟩⟩
        · rename_i hne
          refine direct _ hr (fun s' e3 l3 k3 h3 => by cases e3; exact hne l3 k3 h3) ?_
          have : esc e (.tmp t1) = [] := by
            have hr0 : eget e t1 = some (.bor s) := hr
            simp only [esc, hr0, hl2]
            cases o1 with
            | ex k3 => exact absurd hl2 (hne _ _)
            | _ => rfl
          rw [this]
          exact h
    · rename_i hne
      cases hr : rawv e x with
      | none => simp [ev, hr] at hx
      | some r => exact direct r hr (fun s e3 => absurd (by rw [hr, e3]) (hne s)) h
  · rename_i n elem hu
    have run : ∀ b p, a.eval x = .pointer (some ⟨b, p, none⟩) → 0 ≤ i → i < (n : Nat) → (∃ de, P.underlying elem = some de) → (execOp a.eval o).run P w = .ok (.value (.pointer (some ⟨b, p + i.toNat * P.cellsOf elem, none⟩))) w := by
      intro b p hx h0 h1 hue
      obtain ⟨de, hue⟩ := hue
      simp only [execOp, ho, hx, hzi, Instr.indexAt, asIntOf]
      simp [run_underlying hu, h0, h1, sizeOf_run hue, Addr.add_mid, Instr.sureAddr]
    split at h
    · rename_i id off hx
      split at h
      case isFalse => cases h
      rename_i hc
      have e1 := (rawv_read he (rawv_sub hs hx) (by simp) (by simp) (by simp)).plain (by simp)
      generalize hz1 : a.eval x = z1 at e1
      cases e1 with
      | ptr _ hr => exact pure_ok hi he h (run _ _ hz1 hc.1 hc.2.1 (Option.isSome_iff_exists.1 hc.2.2)) fun t => plain_slot hi he hs (.ptr _ hr) (by simp) (by simp)
    · rename_i cs off hx
      split at h
      case isFalse => cases h
      rename_i hc
      have e1 := (rawv_read he (rawv_sub hs hx) (by simp) (by simp) (by simp)).plain (by simp)
      generalize hz1 : a.eval x = z1 at e1
      cases e1 with
      | eptr _ hl h1 hh hb =>
        refine pure_ok hi he h (run _ _ hz1 hc.1 hc.2.1 (Option.isSome_iff_exists.1 hc.2.2)) fun t => ?_
        rw [Nat.add_assoc]
        exact plain_slot hi he hs (.eptr _ hl h1 hh hb) (by simp) (by simp)
    · cases h
end
end Go.Abs
end

section
/- Loads; look-ups; lengths. -/
namespace Go.Abs
open Go
set_option linter.unusedSimpArgs false
set_option linter.unusedVariables false
set_option linter.unusedSectionVars false

section
variable {P : Program} {d B : Nat} {env e : Env} {g : G} {w : World} {H : Heap} {a : Act}
theorem cell_of_range {w : World} {b o : Nat} {vs : List Value} (h : w.rangeAt b o vs) {j : Nat} {x : Value} (hj : vs[j]? = some x) : ∃ c e fr, w.heap[b]? = some (.cells c e fr) ∧ c[o + j]? = some x := by
  have := h j x hj
  unfold World.cell? at this
  cases hb : w.heap[b]? with
  | none => simp [hb] at this
  | some ob =>
    cases ob with
    | cells c e fr => exact ⟨c, e, fr, rfl, by simpa [hb] using this⟩
    | _ => simp [hb] at this
theorem partOf_some {t : TypeId} {cs : List AVal} {off : Nat} {v : AVal} (h : partOf P t cs off = some v) : ∃ dd, P.underlying t = some dd := by
  unfold partOf at h
  split at h
  · cases h
  · rename_i dd hd; exact ⟨dd, hd⟩
/-- a variable is read -/
theorem loadVar_ok {t : TypeId} {cs : List AVal} {vs : List Value} {b o off : Nat} {v : AVal} (hl : RelL g w cs vs) (h1 : One vs) (hh : w.rangeAt b o vs) (h : partOf P t cs off = some v) :
    ∃ z, (loadVar t ⟨b, o + off, none⟩).run P w = .ok z w ∧ RelV g w v z ∧ (∀ l, z ≠ .tuple l) ∧ ro v = v ∧ (∀ l ow, v = .vec l ow → vs[off]? = some z) := by
  unfold partOf at h
  split at h
  · cases h
  · rename_i dd hu
    obtain ⟨i, hi⟩ := info_of_underlying hu
    split at h
    · rename_i hag
      split at h
      · rename_i hle
        cases h
        have hsz : (P.info? t).map (·.size) = some ((vs.drop off).take (P.cellsOf t)).length := by
          have : P.cellsOf t = i.size := by simp [Program.cellsOf, hi]
          rw [hi, List.length_take, List.length_drop, ← hl.length]
          simp only [Option.map_some]
          congr 1
          omega
        have hd : dd.isRow = true := by
          unfold isAggT at hag
          rw [hu] at hag
          cases dd <;> simp_all [TypeDesc.isRow]
        refine ⟨_, run_loadVar_mid w b (o + off) t _ dd (rangeAt_sub hh off (P.cellsOf t)) hu hd hsz, ?_, by simp, ?_, by simp⟩
        · exact RelV.agg (((hl.drop off).take (P.cellsOf t)).map fun _ _ k => k.ro1) (one_sub h1 _ _)
        · simp only [ro, List.map_map]
          congr 1
          apply List.map_congr_left
          intro x _
          exact ro1_ro1 x
      · cases h
    · rename_i hag
      obtain ⟨c, hc, rfl⟩ := Option.map_eq_some_iff.1 h
      obtain ⟨x, hx, hr⟩ := hl.get hc
      refine ⟨x, ?_, hr.ro1, ?_, ?_, fun _ _ _ => hx⟩
      · unfold loadVar
        rw [Sem.run_bind, isAgg_run hu w]
        simp only [Result.andThen_ok]
        rw [if_neg hag]
        simp [hh off x hx]
      · intro l e; subst e; have := h1.get hx; cases this
      · have h5 := h1.get hx
        cases c with
        | agg l => cases hr; cases h5
        | tup l => cases hr; cases h5
        | vec l o => simp only [ro1]; split <;> simp [ro, ro1]
        | _ => rfl
/-- the cells of an object -/
theorem box_cells {id b : Nat} {cs : List AVal} (h : ObjOK g w id b (.box cs)) : ∃ c e fr, w.heap[b]? = some (.cells c e fr) ∧ unfrozen c fr ∧ c.size = cs.length ∧ RelL g w cs c.toList ∧ One c.toList ∧ w.rangeAt b 0 c.toList := by
  obtain ⟨c, e, fr, h1, h2, h3, h4⟩ := h
  refine ⟨c, e, fr, h1, h2, h3, .mk (by simp [h3]) fun j v x hv hx => ?_, fun x hx => ?_, fun j v hj => ?_⟩
  · obtain ⟨y, hy, hc⟩ := h4 j v hv
    rw [← Array.getElem?_toList] at hy
    rw [hx] at hy; cases hy
    exact hc.2.1
  · obtain ⟨j, hj⟩ := List.getElem?_of_mem hx
    have hlt : j < cs.length := by
      rcases Nat.lt_or_ge j c.toList.length with h | h
      · rw [← h3]; simpa using h
      · rw [List.getElem?_eq_none h] at hj; cases hj
    obtain ⟨y, hy, hc⟩ := h4 j _ (List.getElem?_eq_getElem hlt)
    rw [← Array.getElem?_toList] at hy
    rw [hj] at hy; cases hy
    exact hc.1
  · simp only [World.cell?, h1]
    rw [Nat.zero_add, ← Array.getElem?_toList]
    simpa using hj

variable (hi : Inv B g w H) (he : EnvOK g w d env (tmOf a)) (hs : Sub e env)
include hi he hs
theorem load_ok {o : Oper} {t : TypeId} {p : Operand} {out : Out} (ho : o.op = .load t p) (h : loadE P e t p ((objOf (rawv e p)).bind (hget H)) = some out) : OpOK P d B env g w H a o ⟨out, H, []⟩ nobody := by
  have run : ∀ b q z, a.eval p = .pointer (some ⟨b, q, none⟩) → (loadVar t ⟨b, q, none⟩).run P w = .ok z w → (execOp a.eval o).run P w = .ok (.value z) w := by
    intro b q z hp hz
    simp only [execOp, ho, hp, Instr.loadAt, Instr.sureAddr]
    simp [hz]
  have slot : ∀ {v z}, RelV g w v z → (∀ l, z ≠ .tuple l) → ro v = v → ∀ t, SlotOK g w d env (tmOf a) t z v := by
    intro v z hr hnt hro t
    have := slot_of_ro (d := d) (env := env) (tm := tmOf a) (t := t) (hro.symm ▸ hr) (hr.noTup hnt) hr.noBor.1 hr.noBor.2
    rwa [hro] at this
  unfold loadE at h
  split at h
  · rename_i cs off hp
    split at h
    · rename_i v hv
      have e1 := (rawv_read he (rawv_sub hs hp) (by simp) (by simp) (by simp)).plain (by simp)
      generalize hz1 : a.eval p = z1 at e1
      cases e1 with
      | eptr _ hl h1 hh hb =>
        obtain ⟨z, hz, hr, hnt, hro, _⟩ := loadVar_ok (P := P) hl h1 hh hv
        exact pure_ok hi he h (run _ _ _ hz1 hz) (slot hr hnt hro)
    · cases h
  · rename_i i k off hp
    split at h
    case isFalse => cases h
    rename_i hlt
    split at h
    · rename_i l ow hl0
      split at h
      · rename_i ev' hev
        split at h
        · rename_i v hv
          cases p with
          | const c => exact absurd (@ofV_rel g w _ _ hp) (by intro k; cases k)
          | global gl => cases hp
          | func f => cases hp
          | tmp t1 =>
            obtain ⟨hx1, l1, o1, b, q, n, cap, m, hs1, hs2, hs3, hs4, hs5⟩ := rawv_slot he (rawv_sub hs hp)
            rw [hs i _ hl0] at hs1
            cases hs1
            obtain ⟨y, hy, hsl⟩ := he i _ (hs i _ hl0)
            rw [hs2] at hy; cases hy
            have hrd := (hsl.hold (by simp) (by simp) (by simp)).read
            rcases hrd with ⟨rfl, _⟩ | ⟨b', q', cap', m', vs, e3, hu, hl, h1, hh, hc⟩
            · cases hev
            · cases e3
              have hmm : m' = m := by
                have hmem := List.mem_of_getElem? hev
                rw [← hu _ hmem, hs4 _ hmem]
              subst hmm
              have h2 : RelL g w ev'.cells ((vs.drop (k * m')).take m') := by
                rw [flat_get hu hev]; exact (hl.drop _).take _
              obtain ⟨z, hz, hr, hnt, hro, _⟩ := loadVar_ok (P := P) h2 (one_sub h1 _ _) (rangeAt_sub hh (k * m') m') hv
              exact pure_ok hi he h (run _ _ _ (hs5.ptr hlt) hz) (slot hr hnt hro)
        · cases h
      · cases h
    · cases h
  · rename_i id off hp
    have e1 := (rawv_read he (rawv_sub hs hp) (by simp) (by simp) (by simp)).plain (by simp)
    generalize hz1 : a.eval p = z1 at e1
    cases e1 with
    | ptr _ hr0 =>
      rename_i b
      rw [hp] at h
      simp only [objOf, Option.bind_some] at h
      split at h
      · rename_i cs hg
        obtain ⟨c, el, fr, hb, _, hsz, hl, h1, hh⟩ := box_cells (hi.obj _ _ _ hg hr0)
        have fin : ∀ v, partOf P t cs off = some v → ∃ z, (execOp a.eval o).run P w = .ok (.value z) w ∧ (∀ t, SlotOK g w d env (tmOf a) t z v) ∧ (∀ l ow, v = .vec l ow → c[off]? = some z) := by
          intro v hv
          obtain ⟨z, hz, hr, hnt, hro, hcell⟩ := loadVar_ok (P := P) hl h1 hh hv
          rw [Nat.zero_add] at hz
          exact ⟨z, run _ _ _ hz1 hz, slot hr hnt hro, fun l ow e3 => by rw [← Array.getElem?_toList]; exact hcell l ow e3⟩
        split at h
        · rename_i l ow hv
          cases h
          obtain ⟨z, k1, k2, k3⟩ := fin _ hv
          exact ⟨g, w, z, .inl k1, .refl hi, he, fun t _ => k2 t, fun id' off' e3 => by cases e3; exact ⟨b, c, el, fr, hr0, hb, k3 _ _ rfl⟩⟩
        · rename_i v hv
          obtain ⟨z, k1, k2, k3⟩ := fin _ (by assumption)
          exact pure_ok hi he h k1 k2
        · cases h
      · cases h
  · cases h
end
end Go.Abs
end

section
/- Look-ups; lengths; the greatest and the least. -/
namespace Go.Abs
open Go
set_option linter.unusedSimpArgs false
set_option linter.unusedVariables false
set_option linter.unusedSectionVars false

section
variable {P : Program} {d B : Nat} {env e : Env} {g : G} {w : World} {H : Heap} {a : Act}

/-- the entries of a map -/
def EntsOK (g : G) (w : World) (es : List (AVal × AVal)) (ms : List MapEntry) : Prop :=
  ms.length = es.length ∧ ∀ (j : Nat) (e : AVal × AVal), es[j]? = some e → ∃ m, ms[j]? = some m ∧ RelV g w e.1 m.key ∧ RelV g w e.2 m.val
theorem EntsOK.tail {e : AVal × AVal} {es : List (AVal × AVal)} {m : MapEntry} {ms : List MapEntry} (h : EntsOK g w (e :: es) (m :: ms)) : EntsOK g w es ms :=
  ⟨by simpa using h.1, fun j e' hj => by simpa using h.2 (j + 1) e' (by simpa using hj)⟩

theorem sameNow_equal {dd : TypeDesc} {kt : TypeId} (hu : P.underlying kt = some dd) {x y : Value} {b : Bool} (h : Instr.sameNow dd x y = some b) (w : World) : (Op.equal kt x y).run P w = .ok b w := by
  unfold Instr.sameNow at h
  split at h
  · split at h
    · rename_i k0 k1 x k2 y hk; subst hk
      cases h
      have : ∀ n, (Op.equalIn (n + 1) kt (.int k1 x) (.int k1 y)).run P w = .ok (x == y) w := fun n => run_equalIn_int (P := P) w n kt _ _ _ _ hu
      exact this 9999
    · cases h
  · cases h
    rename_i x y
    have : ∀ n, (Op.equalIn (n + 1) kt (.string x) (.string y)).run P w = .ok (x == y) w := fun n => by simp [Op.equalIn, run_underlying hu]
    exact this 9999
  · cases h
    rename_i x y
    have : ∀ n, (Op.equalIn (n + 1) kt (.bool x) (.bool y)).run P w = .ok (x == y) w := fun n => by simp [Op.equalIn, run_underlying hu]
    exact this 9999
  · cases h

theorem findAsking_run {kt : TypeId} {k : Value} : ∀ {es : List (AVal × AVal)} {ms : List MapEntry} {i : Nat} {r : Option Nat}, EntsOK g w es ms → keyIdx P kt k es i = some r →
    ∃ q, (Instr.findAsking kt k ms i).run P w = .ok q w ∧ (match r with
      | none => q = none
      | some j => i ≤ j ∧ ∃ m, ms[j - i]? = some m ∧ q = some (j, m.val))
  | [], [], i, r, _, h => by
    simp only [keyIdx] at h
    cases h
    exact ⟨none, rfl, rfl⟩
  | [], _ :: _, i, r, h, _ => by have := h.1; simp at this
  | _ :: _, [], i, r, h, _ => by have := h.1; simp at this
  | e :: es, m :: ms, i, r, h, hk => by
    simp only [keyIdx] at hk
    split at hk
    · cases hk
    · rename_i ke hke
      obtain ⟨m', hm', hr1, hr2⟩ := h.2 0 e rfl
      cases hm'
      have : m.key = ke := toV_rel hr1 hke
      split at hk
      · rename_i hq
        cases hk
        refine ⟨some (i, m.val), ?_, Nat.le_refl _, m, by simp, rfl⟩
        simp only [Instr.findAsking, Sem.run_bind, this, pureRun_run hq w]
        rfl
      · rename_i hq
        obtain ⟨q, h1, h2⟩ := findAsking_run (i := i + 1) h.tail hk
        refine ⟨q, ?_, ?_⟩
        · simp only [Instr.findAsking, Sem.run_bind, this, pureRun_run hq w]
          simpa using h1
        · cases r with
          | none => exact h2
          | some j =>
            obtain ⟨k1, m2, k2, k3⟩ := h2
            refine ⟨by omega, m2, ?_, k3⟩
            rw [show j - i = (j - (i + 1)) + 1 by omega]
            simpa using k2
      · cases hk

theorem findNow_eq {dd : TypeDesc} {kt : TypeId} (hu : P.underlying kt = some dd) {k : Value} (w : World) : ∀ {ms : List MapEntry} {i : Nat} {q : Option (Nat × Value)}, Instr.findNow dd k ms i = some q → (Instr.findAsking kt k ms i).run P w = .ok q w
  | [], i, q, h => by simp only [Instr.findNow] at h; cases h; rfl
  | m :: ms, i, q, h => by
    simp only [Instr.findNow] at h
    split at h
    · rename_i hq
      cases h
      simp only [Instr.findAsking, Sem.run_bind, sameNow_equal hu hq w]
      rfl
    · rename_i hq
      simp only [Instr.findAsking, Sem.run_bind, sameNow_equal hu hq w]
      simpa using findNow_eq hu w h
    · cases h

/-- a key is looked for -/
theorem find_okE {emp : Bool} {kt : TypeId} {k : Value} {es : List (AVal × AVal)} {ms : List MapEntry} {r : Option Nat} (h : EntsOK g w es ms) (hf : findE P emp kt k es = some r) :
    (Instr.checkKey emp 10000 kt k).run P w = .ok () w ∧ ∃ q, (Instr.findKey kt k ms).run P w = .ok q w ∧ (match r with
      | none => q = none
      | some j => ∃ m, ms[j]? = some m ∧ q = some (j, m.val)) := by
  unfold findE at hf
  split at hf
  · rename_i dd u hu hc
    refine ⟨pureRun_run hc w, ?_⟩
    obtain ⟨q, h1, h2⟩ := findAsking_run (P := P) (w := w) h hf
    refine ⟨q, ?_, ?_⟩
    · unfold Instr.findKey
      rw [Sem.run_bind, run_underlying hu]
      simp only [Result.andThen_ok]
      split
      · rename_i r' hr'
        have := findNow_eq hu w hr'
        rw [this] at h1
        exact h1
      · exact h1
    · cases r with
      | none => exact h2
      | some j =>
        obtain ⟨_, m, k2, k3⟩ := h2
        exact ⟨m, by simpa using k2, k3⟩
  · cases hf

theorem find_ok {kt : TypeId} {k : Value} {es : List (AVal × AVal)} {ms : List MapEntry} {r : Option Nat} (h : EntsOK g w es ms) (hf : findE P es.isEmpty kt k es = some r) :
    (Instr.checkKey ms.isEmpty 10000 kt k).run P w = .ok () w ∧ ∃ q, (Instr.findKey kt k ms).run P w = .ok q w ∧ (match r with
      | none => q = none
      | some j => ∃ m, ms[j]? = some m ∧ q = some (j, m.val)) := by
  have he : ms.isEmpty = es.isEmpty := by
    have := h.1
    cases ms <;> cases es <;> simp_all
  rw [he]
  obtain ⟨h1, q, h2, h3⟩ := find_okE h hf
  exact ⟨h1, q, h2, by cases r <;> exact h3⟩
theorem getMap_run {r : Nat} {es : Array MapEntry} {clock : Nat} (hb : w.heap[r]? = some (.map es clock)) : (getObj r).run P w = .ok (.map es clock) w := by
  simp [getObj, Sem.run, hb]
theorem map_ents {id b : Nat} {es : List (AVal × AVal)} {st : Stamp} (h : ObjOK g w id b (.map es st)) : ∃ ents, w.heap[b]? = some (.map ents st.cl) ∧ EntsOK g w es ents.toList ∧ ents.toList.map MapEntry.born = st.bs := by
  obtain ⟨ents, clock, h1, ⟨h2, rfl, h4⟩, h3⟩ := h
  refine ⟨ents, h1, ?_, h4⟩
  exact ⟨by simp [h2], fun j e hj => by
    obtain ⟨m, hm, k⟩ := h3 j e hj
    exact ⟨m, by rw [Array.getElem?_toList]; exact hm, k⟩⟩

theorem zero_run {t : TypeId} {z : AVal} (h : zeroOf P t = some z) (w : World) : ∃ zv, (zeroValue t).run P w = .ok zv w ∧ RelV g w z zv := by
  unfold zeroOf at h
  split at h
  · rename_i zv hz
    obtain ⟨i, h1, h2⟩ := Option.bind_eq_some_iff.1 hz
    refine ⟨zv, ?_, ofV_rel h⟩
    unfold zeroValue typeInfo
    simp [h1, h2]
  · cases h

variable (hi : Inv B g w H) (he : EnvOK g w d env (tmOf a)) (hs : Sub e env)
include hi he hs

theorem entries_run {r : Option Nat} {es : List (AVal × AVal)} {x : Value} (hx : RelV g w (.map r) x) (h : entriesE r ((objOf (some (.map r))).bind (hget H)) = some es) :
    (x = .map none ∧ es = []) ∨ ∃ b ents clock, x = .map (some b) ∧ w.heap[b]? = some (.map ents clock) ∧ EntsOK g w es ents.toList := by
  cases hx with
  | mapN => left; simp only [entriesE] at h; cases h; exact ⟨rfl, rfl⟩
  | map hr =>
    right
    rename_i id b
    simp only [objOf, Option.bind_some] at h
    unfold entriesE at h
    split at h
    · rename_i h0; cases h0
    · rename_i hg
      cases h
      obtain ⟨ents, h1, h2, _⟩ := map_ents (hi.obj _ _ _ hg hr)
      exact ⟨b, ents, _, rfl, h1, h2⟩
    · cases h

theorem lookup_ok {o : Oper} {t : TypeId} {x ix : Operand} {ok : Bool} {out : Out} (ho : o.op = .lookup t x ix ok) (h : lookupE P e t x ix ok ((objOf (ev e x)).bind (hget H)) = some out) : OpOK P d B env g w H a o ⟨out, H, []⟩ nobody := by
  unfold lookupE at h
  split at h
  case h_2 => cases h
  rename_i kt et r kv hu hx hk
  obtain ⟨ka, hka, hkv⟩ := Option.bind_eq_some_iff.1 hk
  have hkr := toV_read (ev_read he (ev_sub hs hka)) hkv
  have e1 := ev_rel he (ev_sub hs hx) (by simp)
  rw [hx] at h
  split at h
  case h_2 => cases h
  rename_i es hes
  have key : ∀ j, findE P es.isEmpty kt kv es = some j → ∃ q, (Instr.lookup t (a.eval x) (a.eval ix) ok).run P w = ((match q with
      | some (_, v) => pure (v, true)
      | none => do pure (← zeroValue et, false) : Sem (Value × Bool)).run P w).andThen (fun p w' => .ok (if ok then Value.tuple #[p.1, .bool p.2] else p.1) w') ∧ (match j with
      | none => q = none
      | some i => ∃ ev', es[i]? = some ev' ∧ ∃ m, q = some (i, m) ∧ RelV g w ev'.2 m) := by
    intro j hj
    rcases entries_run hi he hs e1 hes with ⟨hx0, rfl⟩ | ⟨b, ents, clock, hx0, hb, hents⟩
    · have hents : EntsOK g w [] ([] : List MapEntry) := ⟨rfl, fun j e h => by simp at h⟩
      obtain ⟨hc, q, hq, hm⟩ := find_ok (P := P) hents hj
      refine ⟨q, ?_, ?_⟩
      · simp only [Instr.lookup, Sem.run_bind, run_underlying hu, Result.andThen_ok, hx0, hkr, Sem.run_pure]
        rw [show (#[] : Array MapEntry).isEmpty = ([] : List MapEntry).isEmpty from rfl, hc]
        simp only [Result.andThen_ok, hq]
        cases q with
        | none =>
          simp only [Sem.run_bind]
          generalize (zeroValue et).run P w = r
          cases r <;> simp
        | some q => simp
      · cases j with
        | none => exact hm
        | some i => obtain ⟨m, hm1, _⟩ := hm; simp at hm1
    · obtain ⟨hc, q, hq, hm⟩ := find_ok (P := P) hents hj
      refine ⟨q, ?_, ?_⟩
      · simp only [Instr.lookup, Sem.run_bind, run_underlying hu, Result.andThen_ok, hx0, hkr, getMap_run hb, Sem.run_pure]
        rw [show ents.isEmpty = ents.toList.isEmpty by cases ents; simp, hc]
        simp only [Result.andThen_ok, hq]
        cases q with
        | none =>
          simp only [Sem.run_bind]
          generalize (zeroValue et).run P w = r
          cases r <;> simp
        | some q => simp
      · cases j with
        | none => exact hm
        | some i =>
          obtain ⟨m, hm1, hm2⟩ := hm
          have hlt : i < es.length := by
            rcases Nat.lt_or_ge i ents.toList.length with h | h
            · rw [← hents.1]; exact h
            · rw [List.getElem?_eq_none h] at hm1; cases hm1
          obtain ⟨m', hm', _, hv⟩ := hents.2 i _ (List.getElem?_eq_getElem hlt)
          rw [hm1] at hm'; cases hm'
          exact ⟨_, List.getElem?_eq_getElem hlt, m.val, hm2, hv⟩
  have fin : ∀ v z b, RelV g w (ro v) z → (∀ vs, v ≠ .tup vs) → (execOp a.eval o).run P w = .ok (.value (if ok then Value.tuple #[z, .bool b] else z)) w → outV (if ok then .tup [ro v, .bool b] else ro v) = some out → OpOK P d B env g w H a o ⟨out, H, []⟩ nobody := by
    intro v z b hr hnt hrun hout
    have hb := hr.noBor
    refine pure_ok hi he hout hrun fun t => ?_
    have hro := slot_ro (d := d) (env := env) (tm := tmOf a) (t := t) hr (fun vs e3 => by
      cases v with
      | tup l => exact absurd rfl (hnt l)
      | vec l o => simp only [ro, ro1] at e3; split at e3 <;> cases e3
      | _ => simp [ro, ro1] at e3) hb.1 hb.2 ro_flags.1 ro_flags.2
    cases ok with
    | false => exact hro
    | true =>
      refine .inr ⟨_, rfl, rfl, fun j v' hj => ?_⟩
      match j, hj with
      | 0, hj => cases hj; exact ⟨z, rfl, .inr (hr.hold ro_flags.1 ro_flags.2)⟩
      | 1, hj => cases hj; exact ⟨.bool b, rfl, .inr (.bool b)⟩
      | j + 2, hj => simp at hj
  split at h
  · rename_i i hf
    split at h
    · rename_i en hen
      obtain ⟨q, hq, hm⟩ := key _ hf
      obtain ⟨ev', hev', m, rfl, hr⟩ := hm
      rw [hen] at hev'; cases hev'
      have hru : (execOp a.eval o).run P w = .ok (.value (if ok then Value.tuple #[m, .bool true] else m)) w := by
        simp only [execOp, ho, Sem.run_bind, hq]
        cases ok <;> rfl
      split at h
      · cases h
      · rename_i hnt
        exact fin en.2 m true hr.ro (fun vs e3 => by rw [e3] at hnt; exact hnt rfl) hru h
    · cases h
  · rename_i hf
    split at h
    · rename_i z hz
      obtain ⟨q, hq, hm⟩ := key _ hf
      cases hm
      split at h
      · cases h
      · rename_i hnt
        obtain ⟨zv, hzv, hr⟩ := zero_run (g := g) hz w
        have hru : (execOp a.eval o).run P w = .ok (.value (if ok then Value.tuple #[zv, .bool false] else zv)) w := by
          simp only [execOp, ho, Sem.run_bind, hq, hzv]
          cases ok <;> rfl
        exact fin z zv false hr.ro (fun vs e3 => by rw [e3] at hnt; exact hnt rfl) hru h
    · cases h
  · cases h
end
end Go.Abs
end

section
/- Lengths; the greatest and the least; closures; structs and arrays by value. -/
namespace Go.Abs
open Go
set_option linter.unusedSimpArgs false
set_option linter.unusedVariables false
set_option linter.unusedSectionVars false

section
variable {P : Program} {d B : Nat} {env e : Env} {g : G} {w : World} {H : Heap} {a : Act}

theorem execOp_builtin {o : Oper} {c : Call} {b : Builtin} (ho : o.op = .call c) (hb : c.callee = .builtin b) (w : World) :
    ∃ cs, (execOp a.eval o).run P w = (builtin b c.argTypes o.type cs (c.args.map a.eval)).run P w := by
  refine ⟨c.args.map fun | .const _ => true | _ => false, ?_⟩
  simp only [execOp, ho, resolve, hb]
  rfl
theorem args_one {c : Call} {x : Operand} (h : c.args.toList = [x]) : c.args.map a.eval = #[a.eval x] := by
  apply Array.ext'
  simp [h]
theorem args_two {c : Call} {x y : Operand} (h : c.args.toList = [x, y]) : c.args.map a.eval = #[a.eval x, a.eval y] := by
  apply Array.ext'
  simp [h]
theorem types_head {c : Call} {t : TypeId} {r : List TypeId} (h : c.argTypes.toList = t :: r) : c.argTypes[0]? = some t ∧ c.argTypes[1]? = r.head? := by
  constructor
  · rw [← Array.getElem?_toList, h]; rfl
  · rw [← Array.getElem?_toList, h]; cases r <;> rfl

theorem evAll_get {env : Env} {xs : List Operand} {vs : List AVal} (h : evAll env xs = some vs) : vs.length = xs.length ∧ ∀ (j : Nat) (x : Operand), xs[j]? = some x → ∃ v, vs[j]? = some v ∧ ev env x = some v := by
  obtain ⟨h1, h2⟩ := mapO_some h
  exact ⟨h1.symm, h2⟩

variable (hi : Inv B g w H) (he : EnvOK g w d env (tmOf a)) (hs : Sub e env)
include hi he hs

theorem len_ok {o : Oper} {c : Call} {out : Out} (ho : o.op = .call c) (hb : c.callee = .builtin .len) (h : lenE P e c ((match c.args.toList with
    | [x] => objOf (ev e x)
    | _ => none).bind (hget H)) = some out) : OpOK P d B env g w H a o ⟨out, H, []⟩ nobody := by
  have slot : ∀ n : Int, ∀ t, SlotOK g w d env (tmOf a) t (.int .i64 n) (.int .i64 n) := fun n t => slot_ro (.int _ _) (by simp) (by simp) (by simp) (by simp) (by simp)
  obtain ⟨cs0, hrun⟩ := execOp_builtin (a := a) (P := P) ho hb w
  unfold lenE at h
  split at h
  case h_2 => cases h
  rename_i x t r hx ht
  rw [args_one hx] at hrun
  have ht0 := (types_head ht).1
  rw [hx] at h
  split at h
  case h_4 => cases h
  · rename_i l ow hu hv
    have e1 := ev_read he (ev_sub hs hv)
    obtain ⟨ad, cap, hxe⟩ : ∃ ad cap, a.eval x = .slice ad l.length cap := by
      rcases e1 with ⟨rfl, ad, cap, e1⟩ | ⟨b, o, cap, k, vs, e1, _⟩
      · exact ⟨ad, cap, e1⟩
      · exact ⟨_, cap, e1⟩
    refine pure_ok hi he h (x := .int .i64 l.length) ?_ (slot _)
    rw [hrun]
    simp [builtin, Builtin.len_, ht0, hxe, run_underlying hu, goInt]
  · rename_i s hu hv
    have e1 := ev_rel he (ev_sub hs hv) (by simp)
    generalize hxe : a.eval x = z at e1
    cases e1
    refine pure_ok hi he h (x := .int .i64 s.length) ?_ (slot _)
    rw [hrun]
    have hsz : (⟨s.toArray⟩ : ByteArray).size = s.length := rfl
    simp only [builtin, Builtin.len_, ht0, hxe]
    simp [run_underlying hu, goInt, hsz]
  · rename_i rr hu hv
    have e1 := ev_rel he (ev_sub hs hv) (by simp)
    simp only [hv] at h
    split at h
    case h_2 => cases h
    rename_i es hes
    refine pure_ok hi he h (x := .int .i64 es.length) ?_ (slot _)
    rw [hrun]
    rcases entries_run hi he hs e1 hes with ⟨hx0, rfl⟩ | ⟨b, ents, clock, hx0, hb', hents⟩
    · simp [builtin, Builtin.len_, ht0, hx0, run_underlying hu, goInt]
    · simp only [builtin, Builtin.len_, ht0, hx0]
      simp [run_underlying hu, getMap_run hb', goInt]
      have := hents.1
      rw [Array.length_toList] at this
      rw [this]

theorem cap_ok {o : Oper} {c : Call} {out : Out} (ho : o.op = .call c) (hb : c.callee = .builtin .cap) (h : capE P e c = some out) : OpOK P d B env g w H a o ⟨out, H, []⟩ nobody := by
  obtain ⟨cs0, hrun⟩ := execOp_builtin (a := a) (P := P) ho hb w
  unfold capE at h
  split at h
  case h_2 => cases h
  rename_i x t r hx ht
  rw [args_one hx] at hrun
  have ht0 := (types_head ht).1
  split at h
  case h_3 => cases h
  case h_2 =>
    rename_i l hu hv
    have hrd := ev_read he (ev_sub hs hv)
    have hx' := hrd.2 rfl
    have hl : l = [] := by
      rcases hrd.1 with ⟨e, _⟩ | ⟨b, o, cap, k, vs, e, _⟩
      · exact e
      · rw [hx'] at e; cases e
    subst hl
    refine pure_ok hi he h (x := .int .i64 0) ?_ fun t => slot_ro (.int _ _) (by simp) (by simp) (by simp) (by simp) (by simp)
    rw [hrun]
    simp [builtin, Builtin.cap_, ht0, hx', run_underlying hu, goInt]
  rename_i l hu hv
  have hv' := ev_sub hs hv
  rcases ev_cases hv' with ⟨i, l', o', hr, hl, e3⟩ | ⟨hr, h1, h2, h3⟩
  · cases e3
  · have hx' : ∃ ad, a.eval x = .slice ad l.length l.length := by
      cases x with
      | tmp t =>
        obtain ⟨_, hsl⟩ := rawv_slot he hr
        obtain ⟨hr1, ad, n, cap, e4, hcase⟩ := hsl.hold (by simp) (by simp) (by simp)
        rw [e4] at hr1
        have hn : n = l.length := by
          cases hr1 <;> rfl
        rcases hcase with hc | ⟨hk, _⟩
        · subst hc; subst hn; exact ⟨ad, e4⟩
        · exact absurd rfl hk
      | _ =>
        have e1 := rawv_const (g := g) (w := w) (a := a) (by simp) hr
        generalize hz : a.eval _ = z at e1
        cases e1 with
        | vecE _ ad cap hc => rw [hc rfl]; exact ⟨ad, rfl⟩
        | vec _ _ _ _ _ _ _ hc _ => rw [← hc rfl]; exact ⟨_, rfl⟩
    obtain ⟨ad, hx'⟩ := hx'
    refine pure_ok hi he h (x := .int .i64 l.length) ?_ fun t => slot_ro (.int _ _) (by simp) (by simp) (by simp) (by simp) (by simp)
    rw [hrun]
    simp [builtin, Builtin.cap_, ht0, hx', run_underlying hu, goInt]

theorem evAll_ground {xs : List Operand} {vs : List AVal} {us : List Value} (h : evAll e xs = some vs) (hu : mapO toV vs = some us) : xs.map a.eval = us := by
  obtain ⟨h1, h2⟩ := evAll_get h
  obtain ⟨k1, k2⟩ := mapO_some hu
  refine List.ext_getElem? fun j => ?_
  by_cases hj : j < xs.length
  · obtain ⟨v, hv, hev⟩ := h2 j _ (List.getElem?_eq_getElem hj)
    obtain ⟨u, hu', htv⟩ := k2 j v hv
    rw [List.getElem?_map, List.getElem?_eq_getElem hj, hu']
    simp [toV_read (ev_read he (ev_sub hs hev)) htv]
  · rw [List.getElem?_eq_none (by simp; omega), List.getElem?_eq_none (by omega)]
theorem minMax_ok {o : Oper} {c : Call} {f : Array TypeId → TypeId → Array Value → Sem Value} {out : Out} (ho : o.op = .call c) {b : Builtin} (hb : c.callee = .builtin b) (hf : ∀ ty cs args, builtin b c.argTypes ty cs args = do pure (.value (← f c.argTypes ty args)))
    (h : minMaxE P e f o.type c = some out) : OpOK P d B env g w H a o ⟨out, H, []⟩ nobody := by
  obtain ⟨cs0, hrun⟩ := execOp_builtin (a := a) (P := P) ho hb w
  unfold minMaxE at h
  split at h
  case h_2 => cases h
  rename_i us hus
  obtain ⟨vs, hvs, hus⟩ := Option.bind_eq_some_iff.1 hus
  split at h
  case h_2 => cases h
  rename_i v hv
  obtain ⟨z, hz, hvz⟩ := Option.bind_eq_some_iff.1 hv
  refine pure_ok hi he h (x := z) ?_ fun t => slot_ofV hvz
  have : c.args.map a.eval = us.toArray := by
    apply Array.ext'
    rw [Array.toList_map]
    exact evAll_ground hi he hs hvs hus
  rw [hrun, this, hf]
  simp [pureRun_run hz w]
end
end Go.Abs
end

section
/- Closures; structs and arrays by value; parts of slices and strings. -/
namespace Go.Abs
open Go
set_option linter.unusedSimpArgs false
set_option linter.unusedVariables false
set_option linter.unusedSectionVars false

theorem putAt_length (cs : List AVal) (off : Nat) (vs : List AVal) : (putAt cs off vs).length = cs.length := by
  induction vs generalizing cs off with
  | nil => rfl
  | cons v r ih => simp [putAt, ih]
def putL (cs : List Value) (off : Nat) : List Value → List Value
  | [] => cs
  | v :: r => putL (cs.set off v) (off + 1) r
theorem RelL.putAt {g : G} {w : World} {cs : List AVal} {xs : List Value} (h : RelL g w cs xs) (off : Nat) {vs : List AVal} {ys : List Value} (k : RelL g w vs ys) : RelL g w (putAt cs off vs) (putL xs off ys) := by
  induction vs generalizing cs xs ys off with
  | nil => cases k; exact h
  | cons v r ih => cases k with | cons k ks => exact ih (h.set off k) (off + 1) ks
theorem putAt_map (f : AVal → AVal) (cs : List AVal) (off : Nat) (vs : List AVal) : (putAt cs off vs).map f = putAt (cs.map f) off (vs.map f) := by
  induction vs generalizing cs off with
  | nil => rfl
  | cons v r ih => simp [putAt, ih, List.map_set]
theorem One.putL {cs : List Value} (h : One cs) (off : Nat) {vs : List Value} (k : One vs) : One (putL cs off vs) := by
  induction vs generalizing cs off with
  | nil => exact h
  | cons v r ih =>
    refine ih (fun x hx => ?_) (off + 1) (fun x hx => k x (List.mem_cons_of_mem _ hx))
    rcases List.mem_or_eq_of_mem_set hx with hx | hx
    · exact h x hx
    · subst hx; exact k _ (by simp)
theorem putL_length (cs : List Value) (off : Nat) (vs : List Value) : (putL cs off vs).length = cs.length := by
  induction vs generalizing cs off with
  | nil => rfl
  | cons v r ih => simp [putL, ih]
theorem foldl_put (vs : List Value) : ∀ (n off : Nat) (cells : Array Value), ((vs.zipIdx n).foldl (fun cs (p : Value × Nat) => cs.setIfInBounds (off + p.2) p.1) cells).toList = putL cells.toList (off + n) vs := by
  induction vs with
  | nil => intro n off cells; rfl
  | cons v r ih =>
    intro n off cells
    simp only [List.zipIdx_cons, List.foldl_cons, putL]
    rw [ih (n + 1) off]
    rw [Array.toList_setIfInBounds]
    rfl
theorem fill_step (cells : Array Value) (off : Nat) (v : Array Value) : (v.zipIdx.foldl (fun cs (p : Value × Nat) => cs.setIfInBounds (off + p.2) p.1) cells).toList = putL cells.toList off v.toList := by
  rw [← Array.foldl_toList, Array.toList_zipIdx]
  exact foldl_put v.toList 0 off cells

section
variable {P : Program} {d B : Nat} {env e : Env} {g : G} {w : World} {H : Heap} {a : Act}

theorem ro_cells {v : AVal} : (ro v).cells = v.cells.map ro1 ∨ ∃ vs, v = .tup vs := by
  cases v with
  | tup vs => exact .inr ⟨vs, rfl⟩
  | vec l o =>
    left
    cases o with
    | ro => rfl
    | nul => rfl
    | tip k => cases k <;> rfl
    | ex k => rfl
  | _ => exact .inl rfl
theorem RelV.one_cells {v : AVal} {x : Value} (h : RelV g w v x) (hn : ∀ vs, v ≠ .tup vs) : One x.cells.toList := by
  cases h with
  | agg hl h1 => simpa [Value.cells] using h1
  | tup hl => exact absurd rfl (hn _)
  | _ =>
    intro y hy
    simp [Value.cells] at hy
    subst hy
    rfl

/-- the cells of a literal are filled in -/
theorem fill_ok {g' : G} {place : Nat → Option (Nat × Nat)} : ∀ {ps : List (Nat × AVal)} {xs : List (Nat × Value)} {cs r : List AVal} {vs : Array Value},
    xs.length = ps.length → (∀ (j : Nat) (p : Nat × AVal), ps[j]? = some p → ∃ x, xs[j]? = some (p.1, x) ∧ RelV g' w (ro p.2) x ∧ ∀ l, p.2 ≠ .tup l) →
    RelL g' w (cs.map ro1) vs.toList → One vs.toList → fillE place cs ps = some r →
    ∃ us, Instr.fill place vs xs = some us ∧ RelL g' w (r.map ro1) us.toList ∧ One us.toList
  | [], [], cs, r, vs, _, _, hl, h1, h => by simp only [fillE] at h; cases h; exact ⟨vs, rfl, hl, h1⟩
  | [], _ :: _, _, _, _, h, _, _, _, _ => by simp at h
  | _ :: _, [], _, _, _, h, _, _, _, _ => by simp at h
  | p :: ps, x :: xs, cs, r, vs, hlen, hp, hl, h1, h => by
    obtain ⟨x', hx', hr, hnt⟩ := hp 0 p rfl
    cases hx'
    obtain ⟨i, v⟩ := p
    simp only [fillE] at h
    simp only [Instr.fill]
    split at h
    · cases h
    · rename_i off size hpl
      rw [hpl]
      split at h
      · cases h
      · rename_i hc
        have hcell : RelL g' w (v.cells.map ro1) x'.cells.toList := by
          have := hr.cells
          rcases @ro_cells v with e3 | ⟨l, e3⟩
          · rwa [e3] at this
          · exact absurd e3 (hnt l)
        have hsz : x'.cells.size = v.cells.length := by
          have := hcell.length
          simpa using this.symm
        have hvs : vs.size = cs.length := by
          have := hl.length
          simpa using this.symm
        have hc' : ¬ (x'.cells.size ≠ size || off + x'.cells.size > vs.size) = true := by
          simp only [Bool.or_eq_true, decide_eq_true_eq, bne_iff_ne, ne_eq]
          rw [hsz, hvs]
          omega
        simp only []
        rw [if_neg hc']
        refine fill_ok (by simpa using hlen) (fun j p hj => by simpa using hp (j + 1) p (by simpa using hj)) ?_ ?_ h
        · rw [fill_step, putAt_map]
          exact hl.putAt off hcell
        · rw [fill_step]
          refine h1.putL off ?_
          have hrt : ∀ l, ro v ≠ .tup l := by
            intro l e3
            cases v with
            | tup l' => exact absurd rfl (hnt l')
            | vec l' o => simp only [ro, ro1] at e3; split at e3 <;> cases e3
            | _ => simp [ro, ro1] at e3
          exact hr.one_cells hrt

theorem places_list (w : World) : ∀ (l : List Field), (∀ f ∈ l, (P.info? f.type).isSome = true) →
    (l.mapM (fun f => do pure (f.offset, ← sizeOf f.type) : Field → Sem (Nat × Nat))).run P w = .ok (l.map fun f => (f.offset, P.cellsOf f.type)) w
  | [], _ => rfl
  | f :: l, h => by
    obtain ⟨i, hi⟩ := Option.isSome_iff_exists.1 (h f (by simp))
    rw [List.mapM_cons]
    simp only [Sem.run_bind, run_sizeOf w hi, Result.andThen_ok, Sem.run_pure]
    rw [places_list w l fun f hf => h f (List.mem_cons_of_mem _ hf)]
    rfl
theorem places_run {fields : Array Field} (h : fields.toList.all (fun f => (P.info? f.type).isSome) = true) (w : World) :
    (fields.mapM (fun f => do pure (f.offset, ← sizeOf f.type) : Field → Sem (Nat × Nat))).run P w = .ok (fields.map fun f => (f.offset, P.cellsOf f.type)) w := by
  rw [← Array.toArray_toList (xs := fields), List.mapM_toArray]
  rw [Sem.run_map, places_list w fields.toList (List.all_eq_true.1 h)]
  simp only [Result.andThen_ok]
  congr 1
  apply Array.ext'
  simp

variable (hi : Inv B g w H) (he : EnvOK g w d env (tmOf a)) (hs : Sub e env)
include hi he hs

theorem escL_sub {xs : List Operand} (h : ∀ x ∈ xs, ∃ v, ev e x = some v) : escL e xs = escL env xs := by
  induction xs with
  | nil => rfl
  | cons x r ih =>
    obtain ⟨v, hv⟩ := h x (by simp)
    have := ih fun y hy => h y (List.mem_cons_of_mem _ hy)
    simp only [escL, List.flatMap_cons] at this ⊢
    rw [this, esc_sub hs hv]
omit hi he hs in
theorem frees_escL (env : Env) (xs : List Operand) : Frees env (escL env xs) := fun i u hm => by
  obtain ⟨x, hx, hm⟩ := List.mem_flatMap.1 hm
  exact esc_ups hm
omit hi he hs in
theorem mem_escL {env : Env} {xs : List Operand} {x : Operand} (hx : x ∈ xs) {p : Nat × AVal} (hp : p ∈ esc env x) : p ∈ escL env xs := List.mem_flatMap.2 ⟨x, hx, hp⟩

theorem evAll_frozen {g' : G} {ups : List (Nat × AVal)} (hu : Frees env ups) (h1 : EnvOK g' w d (esets env ups) (tmOf a)) (h2 : Froze env (esets env ups)) {xs : List Operand} {vs : List AVal} (hv : evAll e xs = some vs) (hm : ∀ x ∈ xs, ∀ p, p ∈ esc env x → p ∈ ups) :
    RelL g' w (vs.map ro) (xs.map a.eval) := by
  obtain ⟨k1, k2⟩ := evAll_get hv
  refine .mk (by simp [k1]) fun j v x hj hx => ?_
  rw [List.getElem?_map] at hj hx
  obtain ⟨v', hv', rfl⟩ := Option.map_eq_some_iff.1 hj
  obtain ⟨x', hx', rfl⟩ := Option.map_eq_some_iff.1 hx
  obtain ⟨v2, hv2, hev⟩ := k2 j x' hx'
  rw [hv'] at hv2; cases hv2
  exact read_frozen hu h1 h2 (ev_sub hs hev) fun p hp => hm x' (List.mem_of_getElem? hx') p hp

theorem makeFunc_ok {o : Oper} {fn : Fn} {first captured : Array Operand} {out : Out} (ho : o.op = .makeFunc fn first captured) (h : makeFuncE e fn first.toList captured.toList = some out) : OpOK P d B env g w H a o ⟨out, H, []⟩ nobody := by
  unfold makeFuncE at h
  split at h
  case h_2 => cases h
  rename_i fs cs hf hc
  have hne : ∀ l, fn ≠ .yield l := by
    intro l e3; subst e3; cases h
  have h : outU (escL e (first.toList ++ captured.toList)) (.func fn (fs.map ro) (cs.map ro)) = some out := by
    cases fn <;> first | exact h | exact absurd rfl (hne _)
  have hsub : escL e (first.toList ++ captured.toList) = escL env (first.toList ++ captured.toList) := by
    refine escL_sub hi he hs fun x hx => ?_
    rcases List.mem_append.1 hx with hx | hx
    · obtain ⟨j, hj⟩ := List.getElem?_of_mem hx
      obtain ⟨v, _, hv⟩ := (evAll_get hf).2 j x hj
      exact ⟨v, hv⟩
    · obtain ⟨j, hj⟩ := List.getElem?_of_mem hx
      obtain ⟨v, _, hv⟩ := (evAll_get hc).2 j x hj
      exact ⟨v, hv⟩
  rw [hsub] at h
  have fr := frees_escL env (first.toList ++ captured.toList)
  refine esc_ok hi he fr h (x := .func fn (first.map a.eval) (captured.map a.eval)) ?_ fun g' f h1 h2 t => ?_
  · simp only [execOp, ho, Instr.makeFunc]; rfl
  · have r1 := evAll_frozen hi he hs fr h1 h2 hf fun x hx p hp => mem_escL (List.mem_append.2 (.inl hx)) hp
    have r2 := evAll_frozen hi he hs fr h1 h2 hc fun x hx p hp => mem_escL (List.mem_append.2 (.inr hx)) hp
    have := RelV.func hne r1 r2
    rw [show (List.map a.eval first.toList).toArray = first.map a.eval from by apply Array.ext'; simp, show (List.map a.eval captured.toList).toArray = captured.map a.eval from by apply Array.ext'; simp] at this
    exact slot_ro this (by simp) (by simp) (by simp) (by simp) (by simp)

theorem evParts_get {xs : List (Nat × Operand)} {ps : List (Nat × AVal)} (h : evParts e xs = some ps) : ps.length = xs.length ∧ ∀ (j : Nat) (p : Nat × AVal), ps[j]? = some p → ∃ x, xs[j]? = some (p.1, x) ∧ ev e x = some p.2 := by
  obtain ⟨h1, h2⟩ := mapO_some h
  refine ⟨h1.symm, fun j p hj => ?_⟩
  have hlt : j < xs.length := by
    rcases Nat.lt_or_ge j ps.length with h | h
    · omega
    · rw [List.getElem?_eq_none h] at hj; cases hj
  obtain ⟨b, hb, hf⟩ := h2 j _ (List.getElem?_eq_getElem hlt)
  rw [hj] at hb; cases hb
  obtain ⟨v, hv, e3⟩ := Option.map_eq_some_iff.1 hf
  refine ⟨xs[j].2, ?_, ?_⟩
  · rw [List.getElem?_eq_getElem hlt, ← e3]
  · rw [hv, ← e3]
/-- the parts of a literal, handed on -/
theorem parts_frozen {parts : List (Nat × Operand)} {ps : List (Nat × AVal)} (hp : evParts e parts = some ps) : escL e (parts.map (·.2)) = escL env (parts.map (·.2)) ∧
    ∀ g', EnvOK g' w d (esets env (escL env (parts.map (·.2)))) (tmOf a) → Froze env (esets env (escL env (parts.map (·.2)))) →
      (parts.map fun p => (p.1, a.eval p.2)).length = ps.length ∧ ∀ (j : Nat) (p : Nat × AVal), ps[j]? = some p → ∃ x, (parts.map fun p => (p.1, a.eval p.2))[j]? = some (p.1, x) ∧ RelV g' w (ro p.2) x ∧ ∀ l, p.2 ≠ .tup l := by
  obtain ⟨k1, k2⟩ := evParts_get hi he hs hp
  refine ⟨?_, fun g' h1 h2 => ⟨by simp [k1], fun j p hj => ?_⟩⟩
  · refine escL_sub hi he hs fun x hx => ?_
    obtain ⟨q, hq, rfl⟩ := List.mem_map.1 hx
    obtain ⟨j, hj⟩ := List.getElem?_of_mem hq
    have hlt : j < ps.length := by
      rcases Nat.lt_or_ge j parts.length with h | h
      · omega
      · rw [List.getElem?_eq_none h] at hj; cases hj
    obtain ⟨x, hx, hv⟩ := k2 j _ (List.getElem?_eq_getElem hlt)
    rw [hj] at hx; cases hx
    exact ⟨_, hv⟩
  · obtain ⟨x, hx, hv⟩ := k2 j p hj
    refine ⟨a.eval x, by rw [List.getElem?_map, hx]; rfl, ?_, ev_noTup hv⟩
    exact read_frozen (frees_escL env _) h1 h2 (ev_sub hs hv) fun q hq => mem_escL (List.mem_map.2 ⟨_, List.mem_of_getElem? hx, rfl⟩) hq

theorem build_ok {o : Oper} {t : TypeId} {parts : Array (Nat × Operand)} {out : Out} (ho : o.op = .build t parts) (h : buildE P e t parts.toList = some out) : OpOK P d B env g w H a o ⟨out, H, []⟩ nobody := by
  unfold buildE at h
  have main : ∀ (zc : List AVal) (ps : List (Nat × AVal)) (place : Nat → Option (Nat × Nat)) (cs : List AVal), zeroOf P t = some (.agg zc) → evParts e parts.toList = some ps → fillE place zc ps = some cs →
      outU (escL e (parts.toList.map (·.2))) (.agg (cs.map ro1)) = some out →
      (∀ zero us, (zeroValue t).run P w = .ok zero w → Instr.fill place zero.cells (parts.map fun p => (p.1, a.eval p.2)).toList = some us → (Instr.build t (parts.map fun p => (p.1, a.eval p.2))).run P w = .ok (.agg us) w) →
      OpOK P d B env g w H a o ⟨out, H, []⟩ nobody := by
    intro zc ps place cs hz hp hf hout hrun
    obtain ⟨hsub, hparts⟩ := parts_frozen hi he hs hp
    rw [hsub] at hout
    have fr := frees_escL env (parts.toList.map (·.2))
    have fill : ∀ g', EnvOK g' w d (esets env (escL env (parts.toList.map (·.2)))) (tmOf a) → Froze env (esets env (escL env (parts.toList.map (·.2)))) → ∃ zero us, (zeroValue t).run P w = .ok zero w ∧
        Instr.fill place zero.cells (parts.map fun p => (p.1, a.eval p.2)).toList = some us ∧ RelL g' w (cs.map ro1) us.toList ∧ One us.toList := by
      intro g' h1 h2
      obtain ⟨k1, k2⟩ := hparts g' h1 h2
      obtain ⟨zero, hzr, hzrel⟩ := zero_run (P := P) (g := g') hz w
      cases hzrel with
      | agg hl hone =>
        rename_i vs
        obtain ⟨us, u1, u2, u3⟩ := fill_ok (vs := vs.toArray) (place := place) k1 k2 (by simpa using hl.map fun _ _ k => k.ro1) (by simpa using hone) hf
        exact ⟨_, us, hzr, by rw [Array.toList_map]; exact u1, u2, u3⟩
    obtain ⟨g1, f, h1, h2⟩ := freeze_ups he hi (.refl env) fr
    obtain ⟨zero, us, u1, u2, u3, u4⟩ := fill g1 h1 h2
    refine esc_ok hi he fr hout (x := .agg us) ?_ fun g' f h1 h2 t => ?_
    · simp only [execOp, ho]
      rw [Sem.run_bind, hrun zero us u1 u2]
      rfl
    · obtain ⟨zero', us', u1', u2', u3', u4'⟩ := fill g' h1 h2
      rw [u1] at u1'; cases u1'
      rw [u2] at u2'; cases u2'
      exact slot_ro (.agg u3' u4') (by simp) (by simp) (by simp) (by simp) (by simp)
  split at h
  case h_3 => cases h
  · rename_i zc fields ps hz hu hp
    split at h
    case isFalse => cases h
    rename_i hall
    split at h
    case h_2 => cases h
    rename_i cs hf
    refine main zc ps _ cs hz hp hf h fun zero us hzr hfill => ?_
    unfold Instr.build
    rw [Sem.run_bind, hzr]
    simp only [Result.andThen_ok]
    rw [Sem.run_bind, run_underlying hu]
    simp only [Result.andThen_ok]
    rw [Sem.run_bind, places_run hall]
    simp only [Result.andThen_ok]
    have : (fun i : Nat => (fields.map fun f : Field => (f.offset, P.cellsOf f.type))[i]?) = fun i => (fields[i]?).map fun f : Field => (f.offset, P.cellsOf f.type) := by
      funext i
      rw [Array.getElem?_map]
    rw [this, hfill]
    rfl
  · rename_i zc n elem ps hz hu hp
    split at h
    case isFalse => cases h
    rename_i hsome
    split at h
    case h_2 => cases h
    rename_i cs hf
    refine main zc ps _ cs hz hp hf h fun zero us hzr hfill => ?_
    obtain ⟨inf, hinf⟩ := Option.isSome_iff_exists.1 hsome
    unfold Instr.build
    rw [Sem.run_bind, hzr]
    simp only [Result.andThen_ok]
    rw [Sem.run_bind, run_underlying hu]
    simp only [Result.andThen_ok]
    rw [Sem.run_bind, run_sizeOf w hinf]
    simp only [Result.andThen_ok, hfill]
    rfl
end
end Go.Abs
end

section
/- What is known of a slice goes from one holder to another. -/
namespace Go.Abs
open Go
set_option linter.unusedSimpArgs false
set_option linter.unusedVariables false
set_option linter.unusedSectionVars false

deriving instance DecidableEq for Holder

def G.remap (g : G) (σ : Holder → Holder) : G := { g with ow := fun b => (g.ow b).map σ }
/-- one holder's slices become another's -/
def give1to (h h' : Holder) : Holder → Holder := fun o => if o = h then h' else o

section
variable {d B : Nat} {g : G} {w : World} {H : Heap} {σ : Holder → Holder}
theorem le_remap (g : G) (w : World) (σ : Holder → Holder) : Le g w (g.remap σ) w := ⟨fun _ _ h => h, fun _ => Nat.le_refl _, fun _ _ _ => rfl⟩
theorem TipOK.remap {h : Holder} {l : List AVal} {k : Nat} {x : Value} (t : TipOK g w h l k x) : TipOK (g.remap σ) w (σ h) l k x := by
  obtain ⟨a, n, cap, hx, t⟩ := t
  refine ⟨a, n, cap, hx, ?_⟩
  rcases t with t | ⟨hk, b, o, ha, how, hu, he, ht⟩
  · exact .inl t
  · exact .inr ⟨hk, b, o, ha, by simp [G.remap, how], hu, he, ht⟩
theorem ExOK.remap {h : Holder} {l : List AVal} {k : Nat} {x : Value} (t : ExOK g w h l k x) : ExOK (g.remap σ) w (σ h) l k x := by
  obtain ⟨a, cap, hx, t⟩ := t
  refine ⟨a, cap, hx, ?_⟩
  rcases t with t | ⟨hk, hc, b, o, vs, ha, how, he, hu, hl, h1, hr, ht⟩
  · exact .inl t
  · exact .inr ⟨hk, hc, b, o, vs, ha, by simp [G.remap, how], he, hu, hl.le (le_remap g w σ), h1, hr, ht⟩
/-- nothing is known of it that hangs on its holder -/
def passive : AVal → Prop
  | .vec _ (.ex _) => False
  | .vec _ (.tip (_ + 1)) => False
  | _ => True
theorem HoldOK.remap {h : Holder} {v : AVal} {x : Value} (t : HoldOK g w h v x) : HoldOK (g.remap σ) w (σ h) v x := by
  unfold HoldOK at *
  split
  · exact ExOK.remap t
  · exact ⟨t.1.le (le_remap g w σ), t.2.remap⟩
  · exact RelV.le (le_remap g w σ) (by simpa using t)
theorem HoldOK.rel {h : Holder} {v : AVal} {x : Value} (t : HoldOK g w h v x) (hp : passive v) : RelV g w v x := by
  unfold HoldOK at t
  split at t
  · exact hp.elim
  · exact t.1
  · exact t
theorem HoldOK.passive {h h' : Holder} {v : AVal} {x : Value} (t : HoldOK g w h v x) (hp : passive v) : HoldOK (g.remap σ) w h' v x := by
  have := (t.rel hp).le (le_remap g w σ)
  refine this.hold ?_ ?_
  · rintro l k rfl; exact hp
  · rintro l k rfl; exact hp
theorem CellOK.remap {h : Holder} {v : AVal} {x : Value} (hσ : σ h = h) (t : CellOK g w h v x) : CellOK (g.remap σ) w h v x :=
  ⟨t.1, t.2.1.le (le_remap g w σ), fun l k e => by have := (t.2.2 l k e).remap (σ := σ); rwa [hσ] at this⟩
theorem ObjOK.remap {id b : Nat} {o : AObj} (hσ : ∀ off, σ (.cell id off) = .cell id off) (t : ObjOK g w id b o) : ObjOK (g.remap σ) w id b o := by
  cases o with
  | box cs =>
    obtain ⟨cc, e, fr, h1, h2, h3, h4⟩ := t
    exact ⟨cc, e, fr, h1, h2, h3, fun j v hj => by
      obtain ⟨x, hx, hc⟩ := h4 j v hj
      exact ⟨x, hx, hc.remap (hσ j)⟩⟩
  | map es s =>
    obtain ⟨ents, clock, h1, h2, h3⟩ := t
    exact ⟨ents, clock, h1, h2, fun j e hj => by
      obtain ⟨m, hm, k1, k2⟩ := h3 j e hj
      exact ⟨m, hm, k1.le (le_remap g w σ), k2.le (le_remap g w σ)⟩⟩
  | iter m since seen last =>
    obtain ⟨q, h1, h2⟩ := t
    exact ⟨q, h1, h2.le (le_remap g w σ)⟩
  | loop lp =>
    obtain ⟨L, h1, h0, h2, h3, h5, h6, h7, h8⟩ := t
    exact ⟨L, h1, h0, h2, h3, h5, h6, h7, fun i v hv => by
      obtain ⟨x, hx, k⟩ := h8 i v hv
      exact ⟨x, hx, k.le (le_remap g w σ)⟩⟩
theorem Inv.remap (h : Inv B g w H) (hσ : ∀ id off, σ (.cell id off) = .cell id off) : Inv B (g.remap σ) w H where
  rho id b hr := by
    obtain ⟨h1, h2, h3, h4, h5⟩ := h.rho id b hr
    exact ⟨h1, h2, h3, h4, by simp [G.remap, h5]⟩
  inj := h.inj
  ext := h.ext
  ow b o ho := by
    simp only [G.remap] at ho
    obtain ⟨o', ho', _⟩ := Option.map_eq_some_iff.1 ho
    exact h.ow b o' ho'
  obj id o b hg hr := (h.obj id o b hg hr).remap (hσ id)
  base := h.base
theorem step_remap (hσ : ∀ o, Foreign d (some o) → σ o = o) : Step d g w (g.remap σ) w :=
  ⟨le_remap g w σ, Nat.le_refl _, rfl, rfl, rfl, fun b _ hr hf => ⟨rfl, by
    simp only [G.remap]
    cases ho : g.ow b with
    | none => rfl
    | some o => rw [ho] at hf; simp [hσ o hf], rfl, hr⟩⟩

/-- nothing turned but the holders -/
structure Turn (d B : Nat) (g g' : G) (w : World) (H : Heap) : Prop where
  step : Step d g w g' w
  inv : Inv B g' w H
  rho : g'.rho = g.rho
theorem Turn.refl (h : Inv B g w H) : Turn d B g g w H := ⟨.refl _ _ _, h, rfl⟩
theorem Fix.turn {g' : G} (h : Fix d B g g' w H) : Turn d B g g' w H := ⟨h.step, h.inv, h.rho⟩
theorem Turn.trans {g1 g2 : G} (h : Turn d B g g1 w H) (k : Turn d B g1 g2 w H) : Turn d B g g2 w H := ⟨h.step.trans k.step, k.inv, k.rho.trans h.rho⟩
theorem Turn.post {g' : G} (h : Turn d B g g' w H) : Post d B g w H g' w H [] nobody :=
  ⟨h.step, h.inv, Nat.le_refl _, fun _ _ hr _ => ⟨by rw [h.rho]; exact hr, rfl⟩, fun _ _ _ _ => rfl⟩
theorem turn_remap (h : Inv B g w H) (h1 : ∀ id off, σ (.cell id off) = .cell id off) (h2 : ∀ o, Foreign d (some o) → σ o = o) : Turn d B g (g.remap σ) w H := ⟨step_remap h2, h.remap h1, rfl⟩

variable {env : Env} {tm : Nat → Option Value}
theorem EnvOK.remap (h : EnvOK g w d env tm) (hs : ∀ i v, eget env i = some v → σ (.slot d i) = .slot d i ∨ Abs.passive v)
    (hc : ∀ i vs, eget env i = some (.tup vs) → ∀ (j : Nat) (v : AVal), vs[j]? = some v → σ (.comp d i j) = .comp d i j ∨ Abs.passive v) : EnvOK (g.remap σ) w d env tm := by
  intro i v hv
  obtain ⟨x, hx, hsl⟩ := h i v hv
  refine ⟨x, hx, ?_⟩
  have h1 := hs i v hv
  unfold SlotOK at *
  split
  · rename_i vs
    rcases hsl with hsl | ⟨xs, e, hz, hk⟩
    · exact .inl hsl
    · refine .inr ⟨xs, e, hz, fun j v' hj => ?_⟩
      obtain ⟨y, hy, hc'⟩ := hk j v' hj
      refine ⟨y, hy, ?_⟩
      rcases hc' with hc' | hc'
      · exact .inl hc'
      · rcases hc i vs hv j v' hj with e3 | e3
        · have := hc'.remap (σ := σ)
          rw [e3] at this
          exact .inr this
        · exact .inr (hc'.passive e3)
  · exact hsl
  · exact hsl
  · rcases h1 with e3 | e3
    · have := HoldOK.remap (σ := σ) (show HoldOK g w (.slot d i) v x by simpa using hsl)
      rwa [e3] at this
    · exact HoldOK.passive (show HoldOK g w (.slot d i) v x by simpa using hsl) e3

theorem give_foreign {h h' : Holder} (hn : ¬ Foreign d (some h)) : ∀ o, Foreign d (some o) → give1to h h' o = o := fun o ho => by
  unfold give1to
  split
  · rename_i e; subst e; exact absurd ho hn
  · rfl
theorem give_same (h h' : Holder) : give1to h h' h = h' := by simp [give1to]
theorem give_ne {h h' o : Holder} (hn : o ≠ h) : give1to h h' o = o := by simp [give1to, hn]

/-- A slot's slice is given up to another holder: the slot is dead. -/
theorem take_ex {j : Nat} {l : List AVal} {k : Nat} (h : EnvOK g w d env tm) (hi : Inv B g w H) (hj : eget env j = some (.vec l (.ex k))) (h' : Holder) :
    ∃ g' x, tm j = some x ∧ Turn d B g g' w H ∧ EnvOK g' w d (esets (kills [j] env) [(j, deadV)]) tm ∧ ExOK g' w h' l k x ∧ ∃ σ, g' = g.remap σ ∧ σ (.slot d j) = h' := by
  obtain ⟨x, hx, hs⟩ := h j _ hj
  have hs : ExOK g w (.slot d j) l k x := by simpa [SlotOK, HoldOK] using hs
  have hk : ∀ i, eget (kills [j] env) i = (eget env i).map (killv [j]) := eget_kills [j] env
  have h1 := (h.killed [j] hk).kill (NoBor.killed (by simp) hk) ⟨x, hx⟩
  refine ⟨g.remap (give1to (.slot d j) h'), x, hx, turn_remap hi (fun id off => give_ne (by simp)) (give_foreign not_foreign_slot), h1.remap (fun i v hv => ?_) (fun i vs hv j' v' hj' => .inl (give_ne (by simp))), ?_, _, rfl, give_same _ _⟩
  · by_cases e : i = j
    · subst e
      rw [eget_eset_same] at hv
      cases hv
      exact .inr trivial
    · exact .inl (give_ne (by simp [e]))
  · have := hs.remap (σ := give1to (.slot d j) h')
    rwa [give_same] at this
/-- A slot's right to append goes to another holder: the slot keeps what it reads as. -/
theorem take_tip {j : Nat} {l : List AVal} {k : Nat} (h : EnvOK g w d env tm) (hi : Inv B g w H) (hj : eget env j = some (.vec l (.tip k))) (h' : Holder) :
    ∃ g' x, tm j = some x ∧ Turn d B g g' w H ∧ EnvOK g' w d (esets env [(j, .vec l .ro)]) tm ∧ RelV g' w (.vec l (.tip k)) x ∧ TipOK g' w h' l k x := by
  obtain ⟨x, hx, hs⟩ := h j _ hj
  have hs : RelV g w (.vec l (.tip k)) x ∧ TipOK g w (.slot d j) l k x := by simpa [SlotOK, HoldOK] using hs
  have h1 := h.flag (o' := .ro) hj hx (hs.1.own _)
  refine ⟨g.remap (give1to (.slot d j) h'), x, hx, turn_remap hi (fun id off => give_ne (by simp)) (give_foreign not_foreign_slot), h1.remap (fun i v hv => ?_) (fun i vs hv j' v' hj' => .inl (give_ne (by simp))), hs.1.le (le_remap _ _ _), ?_⟩
  · by_cases e : i = j
    · subst e
      rw [eget_eset_same] at hv
      cases hv
      exact .inr trivial
    · exact .inl (give_ne (by simp [e]))
  · have := hs.2.remap (σ := give1to (.slot d j) h')
    rwa [give_same] at this
/-- what is the holder's alone may be appended to by it alone -/
theorem ExOK.slot {h : Holder} {l : List AVal} {k : Nat} {x : Value} (t : ExOK g w h l k x) : HoldOK g w h (.vec l (.ex k)) x := t

/-- a slice that was a holder's alone: its cells are fixed from now on -/
theorem freeze_hold {h : Holder} {l : List AVal} {k : Nat} {x : Value} (hi : Inv B g w H) (hd : ¬ Foreign d (some h)) (hcell : ∀ id off, h ≠ .cell id off) (t : ExOK g w h l k x) :
    ∃ g', Fix d B g g' w H ∧ (∀ b, g'.ext b ≠ g.ext b → g.ow b = some h) ∧ RelV g' w (.vec l (.tip k)) x ∧ TipOK g' w h l k x := by
  obtain ⟨a, cap, rfl, t⟩ := t
  rcases t with ⟨rfl, rfl⟩ | ⟨hk, hc, b, o, vs, rfl, how, hext, hu, hl, h1, hr, ht⟩
  · exact ⟨g, .refl hi, fun b hb => absurd rfl hb, .vecE _ _ _ fun _ => rfl, ⟨a, 0, 0, rfl, .inl rfl⟩⟩
  · have hvl : vs.length = l.length * k := by
      rw [← hl.length]; exact flat_length hu
    have hle : g.ext b ≤ o + l.length * k := by omega
    have hext' : (g.fix b (o + l.length * k)).ext b = o + l.length * k := by simp [G.fix]
    refine ⟨g.fix b (o + l.length * k), ⟨(chg_fix hle).step (.inr (.inr (by rw [how]; exact hd))), hi.fix hle how hcell, rfl, rfl⟩, fun b' hb' => ?_, ?_, ?_⟩
    · have : b' = b := by
        apply Classical.byContradiction
        intro hne
        exact hb' (by simp [G.fix, hne])
      subst this; exact how
    · exact .vec _ hu (hl.le (chg_fix (w := w) hle).le) h1 hr (by rw [hext', hvl]; exact Nat.le_refl _) hc (by simp; omega)
    · refine ⟨_, _, cap, rfl, .inr ⟨hk, b, o, rfl, how, hu, hext', ?_⟩⟩
      intro j hj
      have hcap : l.length * k + (cap - l.length) * k = cap * k := by rw [← Nat.add_mul]; congr 1; omega
      have := ht.1 (l.length * k + j) (by omega)
      rwa [show o + (l.length * k + j) = o + l.length * k + j by omega] at this
end
end Go.Abs
end

section
/- Moves and assignments. -/
namespace Go.Abs
open Go
set_option linter.unusedSimpArgs false
set_option linter.unusedVariables false
set_option linter.unusedSectionVars false

section
variable {P : Program} {d B : Nat} {env e : Env} {g : G} {w : World} {H : Heap} {a : Act} {tm : Nat → Option Value}
theorem rawv_rel (h : EnvOK g w d env (tmOf a)) {x : Operand} {v : AVal} (hv : rawv env x = some v) (hp : passive v) (h1 : ∀ vs, v ≠ .tup vs) (h2 : ∀ j, v ≠ .bor j) (h3 : ∀ j p q, v ≠ .sptr j p q) : RelV g w v (a.eval x) := by
  cases x with
  | tmp t => exact ((rawv_slot h hv).2.hold h1 h2 h3).rel hp
  | _ => exact rawv_const (by simp) hv
/-- A slot's slice that was its alone is given to another slot, as its alone or to be appended to. -/
theorem take_any {j : Nat} {l : List AVal} {k : Nat} (h : EnvOK g w d env tm) (hi : Inv B g w H) (hj : eget env j = some (.vec l (.ex k))) (t : Nat) {v : AVal} (hv : v = .vec l (.ex k) ∨ v = .vec l (.tip k)) :
    ∃ g' x, tm j = some x ∧ Turn d B g g' w H ∧ EnvOK g' w d (esets (kills [j] env) [(j, deadV)]) tm ∧ HoldOK g' w (.slot d t) v x := by
  rcases hv with rfl | rfl
  · obtain ⟨g', x, h1, h2, h3, h4, _⟩ := take_ex h hi hj (.slot d t)
    exact ⟨g', x, h1, h2, h3, h4⟩
  · obtain ⟨g1, f1, h1⟩ := freeze_slot h hi hj
    obtain ⟨g2, x, hx, t2, h2, h3, h4⟩ := take_tip h1 f1.inv (eget_eset_same _ _ _) (.slot d t)
    have hk : ∀ i, eget (kills [j] (esets (eset env j (.vec l (.tip k))) [(j, .vec l .ro)])) i = _ := eget_kills _ _
    have h5 := (h2.killed [j] hk).kill (NoBor.killed (by simp) hk) ⟨x, hx⟩
    refine ⟨g2, x, hx, f1.turn.trans t2, h5.ext fun i => ?_, ⟨h3, h4⟩⟩
    simp only [esets]
    rw [eget_eset, eget_eset]
    split
    · rfl
    · rename_i hne
      rw [eget_kills, eget_kills, eget_eset_ne _ _ hne, eget_eset_ne _ _ hne]
/-- a slot's value that it holds -/
theorem hold_slot {g' : G} {t : Nat} {l : List AVal} {o : Own} {x : Value} (h : HoldOK g' w (.slot d t) (.vec l o) x) : SlotOK g' w d env tm t x (.vec l o) := by simpa [SlotOK] using h

theorem turn_ok {o : Oper} {x : Value} {c : Out} {g' : G} (hr : (execOp a.eval o).run P w = .ok (.value x) w) (ht : Turn d B g g' w H) (hf : c.fact = none)
    (hs : EnvOK g' w d (esets (kills c.gone env) c.ups) (tmOf a)) (hv : ∀ t, o.dst = some t → SlotOK g' w d (esets (kills c.gone env) c.ups) (tmOf a) t x c.val) : OpOK P d B env g w H a o ⟨c, H, []⟩ nobody :=
  ⟨g', w, x, .inl hr, ht.post, hs, hv, fun id off h => by rw [hf] at h; cases h⟩

variable (hi : Inv B g w H) (he : EnvOK g w d env (tmOf a)) (hs : Sub e env)
include hi he hs

theorem move_ok {o : Oper} {vars : Nat} {x : Operand} {out : Out} (ho : o.op = .move x) (h : moveE P vars e o.type x = some out) : OpOK P d B env g w H a o ⟨out, H, []⟩ nobody := by
  have run : (execOp a.eval o).run P w = .ok (.value (a.eval x)) w := by simp only [execOp, ho]; rfl
  unfold moveE at h
  split at h
  · -- a tuple
    rename_i vs hx
    cases x with
    | tmp i =>
      simp only [] at h
      split at h
      case isFalse => cases h
      cases h
      have hx' := rawv_sub hs hx
      obtain ⟨hx1, hx2⟩ := rawv_slot he hx'
      have hx3 : eget env i = some (.tup vs) := hx'
      have h1 := he.kill (he.noBor fun l o e3 => by rw [hx3] at e3; cases e3) ⟨_, hx1⟩
      let σ : Holder → Holder := fun o' => match o' with
        | .comp d' i' j => if d' = d ∧ i' = i then .comp d (o.dst.getD 0) j else o'
        | o' => o'
      have σc : ∀ j, σ (.comp d i j) = .comp d (o.dst.getD 0) j := fun j => by simp [σ]
      have σs : ∀ d' j, σ (.slot d' j) = .slot d' j := fun _ _ => rfl
      have σf : ∀ o', Foreign d (some o') → σ o' = o' := by
        intro o' hf
        cases o' with
        | comp d' i' j =>
          simp only [σ]
          rw [if_neg]
          rintro ⟨rfl, rfl⟩
          exact not_foreign_comp hf
        | _ => rfl
      refine turn_ok (g' := g.remap σ) run (turn_remap hi (fun _ _ => rfl) σf) rfl ?_ fun t ht => ?_
      · refine EnvOK.remap h1 (fun i' v hv => .inl (σs _ _)) fun i' vs' hv' j v hj => ?_
        change eget (eset env i deadV) i' = _ at hv'
        rw [eget_eset] at hv'
        split at hv'
        · cases hv'; simp at hj
        · rename_i hne
          left
          simp only [σ]
          rw [if_neg]
          rintro ⟨_, rfl⟩
          exact hne rfl
      · have e3 : o.dst.getD 0 = t := by rw [ht]; rfl
        simp only [SlotOK] at hx2 ⊢
        rcases hx2 with hx2 | ⟨xs, e4, hz, hc⟩
        · exact .inl hx2
        · refine .inr ⟨xs, e4, hz, fun j v hj => ?_⟩
          obtain ⟨y, hy, hk⟩ := hc j v hj
          refine ⟨y, hy, ?_⟩
          rcases hk with hk | hk
          · exact .inl hk
          · have := hk.remap (σ := σ)
            rw [σc, e3] at this
            exact .inr this
    | _ => cases h
  · rename_i l k hx
    cases x with
    | tmp i =>
      simp only [] at h
      have hx' := rawv_sub hs hx
      obtain ⟨hx1, hx2⟩ := rawv_slot he hx'
      split at h
      · refine pure_ok hi he h run fun t => ⟨l, _, hx', hx1⟩
      · cases h
        have hx3 : eget env i = some (.vec l (.tip (k + 1))) := hx'
        have hk : ∀ j, eget (kills [i] env) j = (eget env j).map (killv [i]) := eget_kills _ _
        obtain ⟨g', y, h1, h2, h3, h4, h5⟩ := take_tip he hi hx3 (.slot d (o.dst.getD 0))
        have hk' : ∀ j, eget (kills [i] (esets env [(i, .vec l .ro)])) j = _ := eget_kills _ _
        have h6 := (h3.killed [i] hk').kill (NoBor.killed (by simp) hk') ⟨y, h1⟩
        rw [h1] at hx1
        cases hx1
        refine turn_ok run h2 rfl (h6.ext fun j => ?_) fun t ht => ?_
        · simp only [esets]
          rw [eget_eset, eget_eset]
          split
          · rfl
          · rename_i hne
            rw [eget_kills, eget_kills, eget_eset_ne _ _ hne]
        · have e3 : o.dst.getD 0 = t := by rw [ht]; rfl
          rw [e3] at h5
          exact hold_slot ⟨h4, h5⟩
    | _ => cases h
  · rename_i l k hx
    cases x with
    | tmp i =>
      simp only [] at h
      have hx' := rawv_sub hs hx
      obtain ⟨hx1, hx2⟩ := rawv_slot he hx'
      split at h
      · refine pure_ok hi he h run fun t => ⟨l, _, hx', hx1⟩
      · cases h
        obtain ⟨g', y, h1, h2, h3, h4⟩ := take_any he hi hx' (o.dst.getD 0) (.inl rfl)
        rw [h1] at hx1
        cases hx1
        refine turn_ok run h2 rfl h3 fun t ht => ?_
        have e3 : o.dst.getD 0 = t := by rw [ht]; rfl
        rw [e3] at h4
        exact hold_slot h4
    | _ => cases h
  · rename_i v h1 h2 h3 hx
    have hx' := rawv_sub hs hx
    cases v with
    | tup vs => exact absurd rfl (h1 vs)
    | bor j =>
      cases x with
      | tmp t => exact pure_ok hi he h run fun t' => by simpa [ro, ro1, SlotOK] using (rawv_slot he hx').2
      | _ => exact absurd (rawv_const (g := g) (w := w) (a := a) (by simp) hx').noBor.1 (by simp)
    | sptr j p q =>
      cases x with
      | tmp t => exact pure_ok hi he h run fun t' => by simpa [ro, ro1, SlotOK] using (rawv_slot he hx').2
      | _ => exact absurd (rawv_const (g := g) (w := w) (a := a) (by simp) hx').noBor.2 (by simp)
    | vec l ow =>
      have hp : passive (.vec l ow) := by
        cases ow with
        | ex k => exact absurd rfl (h3 l k)
        | tip k => cases k with
          | zero => trivial
          | succ k => exact absurd rfl (h2 l k)
        | ro => trivial
        | nul => trivial
      exact pure_ok hi he h run fun t => slot_of_ro ((rawv_rel he hx' hp (by simp) (by simp) (by simp)).ro) (by simp) (by simp) (by simp)
    | _ => exact pure_ok hi he h run fun t => slot_of_ro ((rawv_rel he hx' trivial (by simp) (by simp) (by simp)).ro) (by simp) (by simp) (by simp)
  · cases h

theorem assign_ok {o : Oper} {kk : Nat} {resv exs : List Nat} {x : Operand} {dd : Nat} {out : Out} (ho : o.op = .assign x) (hd : o.dst = some dd) (h : assignE kk resv exs e x dd = some out) : OpOK P d B env g w H a o ⟨out, H, []⟩ nobody := by
  have run : (execOp a.eval o).run P w = .ok (.value (a.eval x)) w := by simp only [execOp, ho]; rfl
  have hold : ∀ (l : List AVal) (k : Nat), (if hasN exs dd then AVal.vec l (.ex k) else .vec l (.tip k)) = .vec l (.ex k) ∨ (if hasN exs dd then AVal.vec l (.ex k) else .vec l (.tip k)) = .vec l (.tip k) := by
    intro l k; split
    · exact .inl rfl
    · exact .inr rfl
  unfold assignE at h
  simp only [] at h
  split at h
  · rename_i l hx
    have hr := rawv_rel he (rawv_sub hs hx) trivial (by simp) (by simp) (by simp)
    split at h
    · refine pure_ok hi he h run fun t => ?_
      generalize a.eval x = z at hr
      cases hr with
      | vecE _ ad cap hc =>
        have := hc rfl; subst this
        split
        · exact hold_slot (show ExOK g w _ [] kk _ from ⟨ad, 0, rfl, .inl ⟨rfl, rfl⟩⟩)
        · exact hold_slot ⟨.vecE _ _ _ fun _ => rfl, ⟨ad, 0, 0, rfl, .inl rfl⟩⟩
      | vec _ hk hl h1 hh he' hc hq hz =>
        have := hq rfl
        simp only [List.length_nil] at this
        subst this
        split
        · exact hold_slot (show ExOK g w _ [] kk _ from ⟨_, 0, rfl, .inl ⟨rfl, rfl⟩⟩)
        · exact hold_slot ⟨.vecE _ _ _ fun _ => rfl, ⟨_, 0, 0, rfl, .inl rfl⟩⟩
    · exact pure_ok hi he h run fun t => slot_ro hr (by simp) (by simp) (by simp) (by simp) (by simp)
  · rename_i l hx
    have hr := rawv_rel he (rawv_sub hs hx) trivial (by simp) (by simp) (by simp)
    split at h
    case h_2 => cases h
    refine pure_ok hi he h run fun t => ?_
    generalize a.eval x = z at hr
    cases hr with
    | vecE _ ad cap hc hz =>
      obtain ⟨_, rfl⟩ := hz rfl
      split
      · exact hold_slot (show ExOK g w _ [] kk _ from ⟨ad, 0, rfl, .inl ⟨rfl, rfl⟩⟩)
      · exact hold_slot ⟨.vecE _ _ _ fun _ => rfl, ⟨ad, 0, 0, rfl, .inl rfl⟩⟩
    | vec _ _ _ _ _ _ _ _ hz => exact absurd rfl hz
  · rename_i l k hx
    cases x with
    | tmp j =>
      simp only [] at h
      split at h
      · cases h
      · cases h
        have hx' := rawv_sub hs hx
        obtain ⟨hx1, _⟩ := rawv_slot he hx'
        obtain ⟨g', y, h1, h2, h3, h4⟩ := take_any he hi hx' dd (hold l k)
        rw [h1] at hx1; cases hx1
        refine turn_ok run h2 rfl h3 fun t ht => ?_
        rw [hd] at ht; cases ht
        rcases hold l k with e3 | e3 <;> (rw [e3] at h4; simp only [e3]; exact hold_slot h4)
    | _ => cases h
  · rename_i l k hne hx
    cases x with
    | tmp j =>
      simp only [] at h
      split at h
      · cases h
      · cases h
        have hx' := rawv_sub hs hx
        obtain ⟨hx1, _⟩ := rawv_slot he hx'
        obtain ⟨g', y, h1, h2, h3, h4, h5⟩ := take_tip he hi hx' (.slot d dd)
        rw [h1] at hx1; cases hx1
        refine turn_ok run h2 rfl h3 fun t ht => ?_
        rw [hd] at ht; cases ht
        exact hold_slot ⟨h4, h5⟩
    | _ => cases h
  · rename_i i hx
    split at h
    · cases h
    · cases x with
      | tmp j =>
        have hx' := rawv_sub hs hx
        obtain ⟨hx1, l1, o1, hs1, hs2⟩ := rawv_slot he hx'
        split at h
        · rename_i l k hl
          have hl' := hs i _ hl
          split at h
          · cases h
            obtain ⟨g', y, h1, h2, h3, h4⟩ := take_any he hi hl' dd (hold l k)
            rw [h1] at hs2; cases hs2
            refine turn_ok run h2 rfl h3 fun t ht => ?_
            rw [hd] at ht; cases ht
            rcases hold l k with e3 | e3 <;> (rw [e3] at h4; simp only [e3]; exact hold_slot h4)
          · cases h
            obtain ⟨g', f, h1⟩ := freeze_slot he hi hl'
            refine turn_ok run f.turn rfl h1 fun t ht => ?_
            obtain ⟨y, hy, hsl⟩ := h1 i _ (eget_eset_same _ _ _)
            rw [hs2] at hy; cases hy
            have hrel := (hsl.hold (by simp) (by simp) (by simp)).1
            exact slot_ro (hrel.own .ro) (by simp) (by simp) (by simp) (by simp) (by simp)
        · rename_i l k hl
          have hl' := hs i _ hl
          split at h
          · cases h
            obtain ⟨g', y, h1, h2, h3, h4, h5⟩ := take_tip he hi hl' (.slot d dd)
            rw [h1] at hs2; cases hs2
            refine turn_ok run h2 rfl h3 fun t ht => ?_
            rw [hd] at ht; cases ht
            exact hold_slot ⟨h4, h5⟩
          · refine pure_ok hi he h run fun t => ?_
            obtain ⟨y, hy, hsl⟩ := he i _ hl'
            rw [hs2] at hy; cases hy
            have hrel := (hsl.hold (by simp) (by simp) (by simp)).1
            exact slot_ro (hrel.own .ro) (by simp) (by simp) (by simp) (by simp) (by simp)
        · rename_i l hl
          have hl' := hs i _ hl
          refine pure_ok hi he h run fun t => ?_
          obtain ⟨y, hy, hsl⟩ := he i _ hl'
          rw [hs2] at hy; cases hy
          have hrel := (hsl.hold (by simp) (by simp) (by simp))
          exact slot_ro hrel (by simp) (by simp) (by simp) (by simp) (by simp)
        · cases h
      | _ => exact absurd (rawv_const (g := g) (w := w) (a := a) (by simp) (rawv_sub hs hx)).noBor.1 (by simp)
  · cases h
  · cases h
  · rename_i v h1 h1b h2 h3 h4 h5 h6 hx
    have hx' := rawv_sub hs hx
    have hp : passive v := by
      cases v with
      | vec l ow =>
        cases ow with
        | ex k => exact absurd rfl (h2 l k)
        | tip k => exact absurd rfl (h3 l k)
        | ro => trivial
        | nul => trivial
      | _ => trivial
    exact pure_ok hi he h run fun t => slot_of_ro ((rawv_rel he hx' hp h6 h4 h5).ro) h6 h4 h5
  · cases h
end
end Go.Abs
end

section
/- Parts of slices and strings. -/
namespace Go.Abs
open Go
set_option linter.unusedSimpArgs false
set_option linter.unusedVariables false
set_option linter.unusedSectionVars false

theorem there_sub {w : World} {b o n : Nat} (h : w.there b o n) (m k : Nat) (hk : m + k ≤ n) : w.there b (o + m) k := by
  intro j hj
  have := h (m + j) (by omega)
  rwa [show o + (m + j) = o + m + j by omega] at this

section
variable {P : Program} {d B : Nat} {env e : Env} {g : G} {w : World} {H : Heap} {a : Act} {tm : Nat → Option Value}

theorem bound_run {n n' r dft : Nat} {v : AVal} {z : Value} (h : boundE n (some v) dft = some r) (hr : ReadV g w v z) (hn : n ≤ n') (code : BoundsCode) (w : World) : (Instr.sliceBound z n' code).run P w = .ok r w ∧ r ≤ n := by
  unfold boundE at h
  split at h
  · rename_i h0; cases h0
  · rename_i k i h0
    cases h0
    split at h
    · rename_i hc
      cases h
      have hr := hr.plain (by simp)
      cases hr
      refine ⟨?_, by omega⟩
      unfold Instr.sliceBound
      have : i ≤ (n' : Int) := by omega
      simp [asIntOf, hc.1, this]
    · cases h
  · cases h

/-- the bounds of a part, its array's end not given -/
theorem bounds_run {isS : Bool} {len cap h l : Nat} {lv hv : Option AVal} {zl zh : Option Value} (h1 : boundE len hv len = some h) (h2 : boundE h lv 0 = some l)
    (hl : ∀ v, lv = some v → ∃ z, zl = some z ∧ ReadV g w v z) (hl0 : lv = none → zl = none) (hh : ∀ v, hv = some v → ∃ z, zh = some z ∧ ReadV g w v z) (hh0 : hv = none → zh = none) (hc : len ≤ cap) (w : World) :
    (Instr.sliceBounds isS len cap zl zh none).run P w = .ok (l, h, cap) w ∧ l ≤ h ∧ h ≤ len := by
  have e1 : ∃ s, (Instr.sliceBounds isS len cap zl zh none) = s := ⟨_, rfl⟩
  cases hv with
  | none =>
    cases hh0 rfl
    simp only [boundE] at h1
    cases h1
    cases lv with
    | none =>
      cases hl0 rfl
      simp only [boundE] at h2
      cases h2
      exact ⟨by simp [Instr.sliceBounds], by omega, by omega⟩
    | some v =>
      obtain ⟨z, rfl, hz⟩ := hl v rfl
      obtain ⟨k1, k2⟩ := bound_run (P := P) (n' := len) h2 hz (Nat.le_refl _) .sliceB w
      exact ⟨by simp [Instr.sliceBounds, k1], k2, by omega⟩
  | some u =>
    obtain ⟨y, rfl, hy⟩ := hh u rfl
    obtain ⟨j1, j2⟩ := bound_run (P := P) (n' := cap) h1 hy hc (if isS then .sliceAcap else .sliceAlen) w
    cases lv with
    | none =>
      cases hl0 rfl
      simp only [boundE] at h2
      cases h2
      exact ⟨by simp [Instr.sliceBounds, j1], by omega, j2⟩
    | some v =>
      obtain ⟨z, rfl, hz⟩ := hl v rfl
      obtain ⟨k1, k2⟩ := bound_run (P := P) (n' := h) h2 hz (Nat.le_refl _) .sliceB w
      exact ⟨by simp [Instr.sliceBounds, j1, k1], k2, j2⟩
/-- the bounds of a part, its array's end given -/
theorem bounds3_run {isS : Bool} {len cap h l m : Nat} {lv : Option AVal} {u um : AVal} {zl : Option Value} {zh zm : Value} (h0 : boundE len (some um) 0 = some m) (h1 : boundE m (some u) 0 = some h) (h2 : boundE h lv 0 = some l)
    (hl : ∀ v, lv = some v → ∃ z, zl = some z ∧ ReadV g w v z) (hl0 : lv = none → zl = none) (hh : ReadV g w u zh) (hm : ReadV g w um zm) (hc : len ≤ cap) (w : World) :
    (Instr.sliceBounds isS len cap zl (some zh) (some zm)).run P w = .ok (l, h, m) w ∧ l ≤ h ∧ h ≤ m ∧ m ≤ len := by
  obtain ⟨i1, i2⟩ := bound_run (P := P) (n' := cap) h0 hm hc (if isS then .slice3Acap else .slice3Alen) w
  obtain ⟨j1, j2⟩ := bound_run (P := P) (n' := m) h1 hh (Nat.le_refl _) .slice3B w
  cases lv with
  | none =>
    cases hl0 rfl
    simp only [boundE] at h2
    cases h2
    exact ⟨by simp [Instr.sliceBounds, i1, j1], by omega, j2, i2⟩
  | some v =>
    obtain ⟨z, rfl, hz⟩ := hl v rfl
    obtain ⟨k1, k2⟩ := bound_run (P := P) (n' := h) h2 hz (Nat.le_refl _) .slice3C w
    exact ⟨by simp [Instr.sliceBounds, i1, j1, k1], k2, j2, i2⟩

/-- a part of a slice -/
theorem part_rel {s : List AVal} {own own' : Own} {k l h m cap n : Nat} {ad : Option Addr} (hr : RelV g w (.vec s own) (.slice ad n cap)) (hk : headOk k s = true) (h1 : l ≤ h) (h2 : h ≤ s.length) (h3 : h ≤ m) (h4 : own' = .tip 0 → m = h) (hn : own' ≠ .nul) :
    RelV g w (.vec ((s.take h).drop l) own') (.slice (if m = l then ad else ad.map (·.add (l * k))) (h - l) (m - l)) := by
  rcases Nat.lt_or_ge l h with hlt | hge
  · cases hr with
    | vecE _ _ _ ho => simp at h2; omega
    | vec _ hu hl hone hh he hc ho hz =>
      rename_i b o k' vs
      have hu := headOk_uni hu hk
      have hlen := flat_length hu
      have hvl := hl.length
      have hll : ((s.take h).drop l).length = h - l := by simp; omega
      have hflat : ((s.take h).drop l).flatMap AVal.cells = ((s.flatMap AVal.cells).drop (l * k)).take ((h - l) * k) := by
        rw [flat_drop (fun e he => hu e (List.mem_of_mem_take he)), flat_take hu, List.drop_take]
        congr 1
        rw [Nat.sub_mul]
      have hlk : h * k ≤ s.length * k := Nat.mul_le_mul_right k h2
      have hlk2 : l * k + (h - l) * k = h * k := by rw [← Nat.add_mul]; congr 1; omega
      have hrel : RelL g w (((s.take h).drop l).flatMap AVal.cells) ((vs.drop (l * k)).take ((h - l) * k)) := by
        rw [hflat]; exact (hl.drop _).take _
      have hlen2 : ((vs.drop (l * k)).take ((h - l) * k)).length = (h - l) * k := by
        rw [List.length_take, List.length_drop]; omega
      have := RelV.vec (g := g) (w := w) (l := (s.take h).drop l) own' (b := b) (o := o + l * k) (cap := m - l) (k := k) (vs := (vs.drop (l * k)).take ((h - l) * k))
        (fun e he => hu e (List.mem_of_mem_take (List.mem_of_mem_drop he))) hrel (one_sub hone _ _) (rangeAt_sub hh _ _) (by rw [hlen2]; omega) (by omega) (fun e => by have := h4 e; omega) hn
      rw [hll] at this
      rw [if_neg (by omega)]
      simp only [Option.map_some, Addr.add_mid]
      exact this
  · have : h = l := by omega
    subst this
    have : (s.take h).drop h = [] := List.drop_eq_nil_of_le (by simp; omega)
    rw [this, Nat.sub_self]
    exact .vecE _ _ _ (fun e => by have := h4 e; omega) fun e => absurd e hn
theorem part_ex {s : List AVal} {k k' l h cap n : Nat} {ad : Option Addr} {ho : Holder} (hr : ExOK g w ho s k' (.slice ad n cap)) (hk : headOk k s = true) (h1 : l ≤ h) (h2 : h ≤ s.length) :
    n = s.length ∧ s.length ≤ cap ∧ ExOK g w ho ((s.take h).drop l) k' (.slice (if cap = l then ad else ad.map (·.add (l * k))) (h - l) (cap - l)) := by
  obtain ⟨a0, c0, e0, hcase⟩ := hr
  cases e0
  have hll : ((s.take h).drop l).length = h - l := by simp; omega
  rcases hcase with ⟨rfl, rfl⟩ | ⟨hk0, hc, b, o, vs, rfl, how, hext, hu, hl, hone, hh, ht⟩
  · simp at h2
    subst h2
    have : l = 0 := by omega
    subst this
    refine ⟨rfl, by simp, ?_⟩
    exact ⟨ad, 0, by simp, .inl ⟨by simp, rfl⟩⟩
  · refine ⟨rfl, hc, ?_⟩
    have hlk0 : l * k = l * k' := by
      cases s with
      | nil =>
        simp at h2
        have : l = 0 := by omega
        rw [this]; simp
      | cons v r =>
        have e1 := hu v (by simp)
        have e2 := headOk_uni hu hk v (by simp)
        rw [← e1, ← e2]
    have hlen := flat_length hu
    have hvl := hl.length
    by_cases hm : cap = l
    · rw [if_pos hm]
      have : h = l := by omega
      subst this
      refine ⟨_, _, by rw [hll], .inl ⟨List.drop_eq_nil_of_le (by simp; omega), by omega⟩⟩
    · rw [if_neg hm]
      refine ⟨some ⟨b, o + l * k', none⟩, cap - l, by rw [hll]; simp [Addr.add_mid, hlk0], .inr ⟨hk0, by rw [hll]; omega, b, o + l * k', (vs.drop (l * k')).take ((h - l) * k'), rfl, how, hext, fun e he => hu e (List.mem_of_mem_take (List.mem_of_mem_drop he)), ?_, one_sub hone _ _, rangeAt_sub hh _ _, ?_⟩⟩
      · have hflat : ((s.take h).drop l).flatMap AVal.cells = ((s.flatMap AVal.cells).drop (l * k')).take ((h - l) * k') := by
          rw [flat_drop (fun e he => hu e (List.mem_of_mem_take he)), flat_take hu, List.drop_take]
          congr 1
          rw [Nat.sub_mul]
        rw [hflat]; exact (hl.drop _).take _
      · refine ⟨there_sub ht.1 _ _ ?_, ht.2⟩
        rw [← Nat.add_mul]
        exact Nat.mul_le_mul_right k' (by omega)

theorem evOpt_cases {env : Env} {x : Option Operand} {v : Option AVal} (h : evOpt env x = some v) : (x = none ∧ v = none) ∨ ∃ y u, x = some y ∧ v = some u ∧ ev env y = some u := by
  cases x with
  | none => simp only [evOpt] at h; cases h; exact .inl ⟨rfl, rfl⟩
  | some y =>
    simp only [evOpt] at h
    obtain ⟨u, hu, rfl⟩ := Option.map_eq_some_iff.1 h
    exact .inr ⟨y, u, rfl, rfl, hu⟩

variable (hi : Inv B g w H) (he : EnvOK g w d env (tmOf a)) (hs : Sub e env)
include hi he hs
theorem evOpt_read {x : Option Operand} {v : Option AVal} (h : evOpt e x = some v) : (∀ u, v = some u → ∃ z, x.map a.eval = some z ∧ ReadV g w u z) ∧ (v = none → x.map a.eval = none) := by
  rcases evOpt_cases h with ⟨rfl, rfl⟩ | ⟨y, u, rfl, rfl, hu⟩
  · exact ⟨fun u h => by (cases h), fun _ => rfl⟩
  · exact ⟨fun u' h => by cases h; exact ⟨_, rfl, ev_read he (ev_sub hs hu)⟩, fun h => by cases h⟩

theorem slice_ok {o : Oper} {t : TypeId} {x : Operand} {lo hi' mx : Option Operand} {out : Out} (ho : o.op = .slice t x lo hi' mx) (h : sliceE P e t x lo hi' mx = some out) : OpOK P d B env g w H a o ⟨out, H, []⟩ nobody := by
  unfold sliceE at h
  split at h
  case h_4 => cases h
  · rename_i s lv hv hu hx hlo hhi hmx
    split at h
    case h_2 => cases h
    rename_i hh hb1
    split at h
    case h_2 => cases h
    rename_i ll hb2
    have e1 := ev_rel he (ev_sub hs hx) (by simp)
    obtain ⟨l1, l2⟩ := evOpt_read hi he hs hlo
    obtain ⟨h1, h2⟩ := evOpt_read hi he hs hhi
    obtain ⟨m1, m2⟩ := evOpt_read hi he hs hmx
    generalize hz : a.eval x = z at e1
    cases e1
    obtain ⟨hr, hle, hlen⟩ := bounds_run (P := P) (isS := false) (cap := s.length) hb1 hb2 l1 l2 h1 h2 (Nat.le_refl _) w
    refine pure_ok hi he h (x := .string ⟨((s.take hh).drop ll).toArray⟩) ?_ fun t => slot_ro (.str _) (by simp) (by simp) (by simp) (by simp) (by simp)
    have hsz : (⟨s.toArray⟩ : ByteArray).size = s.length := rfl
    have hext : (⟨s.toArray⟩ : ByteArray).extract ll hh = ⟨((s.take hh).drop ll).toArray⟩ := by
      apply ByteArray.ext
      rw [ByteArray.data_extract]
      apply Array.ext'
      simp [List.extract_eq_take_drop, List.drop_take]
    simp only [execOp, ho, hz, Instr.sliceAt, Instr.slice, m2 rfl]
    simp [run_underlying hu, hsz, hr, hext]
  · rename_i elem s sw lv hv hu hx hlo hhi hmx
    split at h
    case isFalse => cases h
    rename_i hc
    obtain ⟨hk, hue⟩ := hc
    obtain ⟨de, hue⟩ := Option.isSome_iff_exists.1 hue
    split at h
    case h_2 => cases h
    rename_i hh hb1
    split at h
    case h_2 => cases h
    rename_i ll hb2
    obtain ⟨l1, l2⟩ := evOpt_read hi he hs hlo
    obtain ⟨h1, h2⟩ := evOpt_read hi he hs hhi
    obtain ⟨m1, m2⟩ := evOpt_read hi he hs hmx
    have hx' := ev_sub hs hx
    have run : ∀ ad cap, a.eval x = .slice ad s.length cap → s.length ≤ cap → (execOp a.eval o).run P w = .ok (.value (.slice (if cap = ll then ad else ad.map (·.add (ll * P.cellsOf elem))) (hh - ll) (cap - ll))) w ∧ ll ≤ hh ∧ hh ≤ s.length := by
      intro ad cap hz hcap
      obtain ⟨hr, hle, hlen⟩ := bounds_run (P := P) (isS := true) (cap := cap) hb1 hb2 l1 l2 h1 h2 hcap w
      refine ⟨?_, hle, hlen⟩
      simp only [execOp, ho, hz, Instr.sliceAt, Instr.slice, m2 rfl]
      simp [run_underlying hu, hr, sizeOf_run hue]
    have plain : outU (esc e x) (.vec ((s.take hh).drop ll) (if (sw = .tip 0 ∨ sw = .nul) ∧ hh = s.length then .tip 0 else .ro)) = some out → OpOK P d B env g w H a o ⟨out, H, []⟩ nobody := by
      intro hout
      rw [esc_sub hs hx] at hout
      have fr := frees_esc env x
      have rel : ∀ g', EnvOK g' w d (esets env (esc env x)) (tmOf a) → Froze env (esets env (esc env x)) → ∃ ad cap ow, a.eval x = .slice ad s.length cap ∧ s.length ≤ cap ∧ RelV g' w (.vec s ow) (a.eval x) ∧ (sw = .tip 0 ∨ sw = .nul → cap = s.length) := by
        intro g' k1 k2
        have hro := read_frozen fr k1 k2 hx' fun _ h => h
        have : ∃ ow, ro (.vec s sw) = .vec s ow ∧ (sw = .tip 0 ∨ sw = .nul → ow = .tip 0 ∨ ow = .nul) := by
          cases sw with
          | ro => exact ⟨.ro, rfl, fun h => by simp at h⟩
          | nul => exact ⟨.nul, rfl, fun _ => .inr rfl⟩
          | tip k => cases k with
            | zero => exact ⟨.tip 0, rfl, fun _ => .inl rfl⟩
            | succ k => exact ⟨.ro, rfl, fun h => by simp at h⟩
          | ex k => exact ⟨.ro, rfl, fun h => by simp at h⟩
        obtain ⟨ow, e3, e4⟩ := this
        rw [e3] at hro
        generalize hz : a.eval x = z at hro
        have hro' := hro
        cases hro with
        | vecE _ ad cap hq hz2 => exact ⟨ad, cap, ow, rfl, by simp, hro', fun h => (e4 h).elim (fun e => by simpa using hq e) fun e => by simpa using (hz2 e).2⟩
        | vec _ _ _ _ _ _ hc hq hz2 => exact ⟨_, _, ow, rfl, hc, hro', fun h => (e4 h).elim (fun e => (hq e).symm) fun e => absurd e hz2⟩
      obtain ⟨g1, f, k1, k2⟩ := freeze_ups he hi (.refl env) fr
      obtain ⟨ad, cap, ow, hz, hcap, _, hcl⟩ := rel g1 k1 k2
      obtain ⟨hr, hle, hlen⟩ := run ad cap hz hcap
      refine esc_ok hi he fr hout hr fun g' f k1 k2 t => ?_
      obtain ⟨ad', cap', ow', hz', _, hrel, _⟩ := rel g' k1 k2
      rw [hz'] at hz; cases hz
      rw [hz'] at hrel
      have := part_rel (own' := if (sw = .tip 0 ∨ sw = .nul) ∧ hh = s.length then .tip 0 else .ro) (m := cap) hrel hk hle hlen (by omega) (fun e3 => by
        split at e3
        · rename_i hcc; rw [hcl hcc.1, hcc.2]
        · cases e3)
      refine slot_ro (this (by split <;> simp)) (by simp) (by simp) (by simp) ?_ ?_
      · intro l k; split <;> simp
      · intro l k; split <;> simp
    split at h
    · rename_i l0 k j hr
      cases h
      have hr' := rawv_sub hs hr
      obtain ⟨hx1, _⟩ := rawv_slot he hr'
      have : l0 = s := by
        rcases ev_cases hx' with ⟨i, l', o', hr2, _, _⟩ | ⟨hr2, _⟩
        · rw [hr'] at hr2; cases hr2
        · rw [hr'] at hr2; cases hr2; rfl
      subst this
      obtain ⟨g', y, k1, k2, k3, k4, _⟩ := take_ex he hi hr' (.slot d (o.dst.getD 0))
      rw [k1] at hx1; cases hx1
      obtain ⟨ad, cap, hz, hcase⟩ := id k4
      have hcap : l0.length ≤ cap := by
        rcases hcase with ⟨rfl, rfl⟩ | ⟨_, hc, _⟩
        · simp
        · exact hc
      obtain ⟨hrun, hle, hlen⟩ := run ad cap hz hcap
      rw [hz] at k4
      obtain ⟨_, _, k5⟩ := part_ex (l := ll) (h := hh) k4 hk hle hlen
      refine turn_ok hrun k2 rfl k3 fun t ht => ?_
      have e3 : o.dst.getD 0 = t := by rw [ht]; rfl
      rw [e3] at k5
      exact hold_slot k5
    · exact plain h
  · rename_i elem s sw lv hv mk m hu hx hlo hhi hmx
    split at h
    case isFalse => cases h
    rename_i hc
    obtain ⟨hk, hue, hm0, hm1⟩ := hc
    obtain ⟨de, hue⟩ := Option.isSome_iff_exists.1 hue
    split at h
    case h_2 => cases h
    rename_i hh hb1
    split at h
    case h_2 => cases h
    rename_i ll hb2
    obtain ⟨l1, l2⟩ := evOpt_read hi he hs hlo
    obtain ⟨h1, _⟩ := evOpt_read hi he hs hhi
    obtain ⟨m1, _⟩ := evOpt_read hi he hs hmx
    obtain ⟨zh, hzh, hzh2⟩ := h1 _ rfl
    obtain ⟨zm, hzm, hzm2⟩ := m1 _ rfl
    have hx' := ev_sub hs hx
    have hb0 : boundE s.length (some (.int mk m)) 0 = some m.toNat := by
      simp only [boundE]
      rw [if_pos ⟨hm0, hm1⟩]
    rw [esc_sub hs hx] at h
    have fr := frees_esc env x
    have rel : ∀ g', EnvOK g' w d (esets env (esc env x)) (tmOf a) → Froze env (esets env (esc env x)) → ∃ ad cap, a.eval x = .slice ad s.length cap ∧ s.length ≤ cap ∧ RelV g' w (.vec s .ro) (a.eval x) := by
      intro g' k1 k2
      have hro := read_frozen fr k1 k2 hx' fun _ h => h
      have hro : RelV g' w (.vec s .ro) (a.eval x) := by
        cases sw with
        | ro => exact hro
        | nul => exact hro.own _
        | tip k => cases k with
          | zero => exact hro.own _
          | succ k => exact hro
        | ex k => exact hro
      generalize hz : a.eval x = z at hro
      have hro' := hro
      cases hro with
      | vecE _ ad cap hq => exact ⟨ad, cap, rfl, by simp, hro'⟩
      | vec _ _ _ _ _ _ hc hq _ => exact ⟨_, _, rfl, hc, hro'⟩
    obtain ⟨g1, f, k1, k2⟩ := freeze_ups he hi (.refl env) fr
    obtain ⟨ad, cap, hz, hcap, _⟩ := rel g1 k1 k2
    obtain ⟨hr, hle, hlen, hmm⟩ := bounds3_run (P := P) (isS := true) (cap := cap) hb0 hb1 hb2 l1 l2 hzh2 hzm2 hcap w
    refine esc_ok hi he fr h (x := .slice (if m.toNat = ll then ad else ad.map (·.add (ll * P.cellsOf elem))) (hh - ll) (m.toNat - ll)) ?_ fun g' f k1 k2 t => ?_
    · simp only [execOp, ho, hz, Instr.sliceAt, Instr.slice, hzh, hzm]
      simp [run_underlying hu, hr, sizeOf_run hue]
    · obtain ⟨ad', cap', hz', _, hrel⟩ := rel g' k1 k2
      rw [hz'] at hz; cases hz
      rw [hz'] at hrel
      have := part_rel (own' := if hh = m.toNat then .tip 0 else .ro) (m := m.toNat) hrel hk hle (by omega) hlen (fun e3 => by
        split at e3
        · rename_i hcc; exact hcc.symm
        · cases e3)
      refine slot_ro (this (by split <;> simp)) (by simp) (by simp) (by simp) ?_ ?_
      · intro l k; split <;> simp
      · intro l k; split <;> simp
end
end Go.Abs
end

section
/- New blocks. -/
namespace Go.Abs
open Go
set_option linter.unusedSimpArgs false
set_option linter.unusedVariables false
set_option linter.unusedSectionVars false

/-- a memory with one block more -/
structure NewW (w w' : World) (o : Obj) : Prop where
  heap : w'.heap = w.heap.push o
  os : w'.os = w.os
  tape : w'.tape = w.tape
  output : w'.output = w.output
/-- a memory as it was, but for the draws -/
structure SameW (w w' : World) : Prop where
  heap : w'.heap = w.heap
  os : w'.os = w.os
  tape : w'.tape = w.tape
  output : w'.output = w.output

section
variable {B d : Nat} {g : G} {w w' : World} {H : Heap} {o : Obj}
theorem NewW.old (h : NewW w w' o) {b : Nat} (hb : b < w.heap.size) : w'.heap[b]? = w.heap[b]? := by
  rw [h.heap, Array.getElem?_push_lt hb, Array.getElem?_eq_getElem hb]
theorem NewW.new (h : NewW w w' o) : w'.heap[w.heap.size]? = some o := by rw [h.heap]; simp
theorem NewW.size (h : NewW w w' o) : w'.heap.size = w.heap.size + 1 := by rw [h.heap]; simp
theorem cell_old {b i : Nat} (h : w'.heap[b]? = w.heap[b]?) : w'.cell? ⟨b, i, none⟩ = w.cell? ⟨b, i, none⟩ := by simp only [World.cell?, h]
theorem Inv.ext_new (hi : Inv B g w H) : g.ext w.heap.size = 0 := by
  rcases Nat.eq_zero_or_pos (g.ext w.heap.size) with h | h
  · exact h
  · have := hi.ext _ h; omega
theorem Inv.ow_new (hi : Inv B g w H) : g.ow w.heap.size = none := by
  cases h : g.ow w.heap.size with
  | none => rfl
  | some o => have := (hi.ow _ _ h).2; omega

/-- the new block is a holder's -/
def G.own (g : G) (b : Nat) (h : Holder) : G := { g with ow := fun c => if c = b then some h else g.ow c }
theorem chg_own (hi : Inv B g w H) (hn : NewW w w' o) (h : Holder) : Chg w.heap.size g w (g.own w.heap.size h) w' :=
  ⟨⟨fun _ _ h => h, fun _ => Nat.le_refl _, fun b i hb => cell_old (hn.old (hi.ext b (by omega)))⟩,
   fun b' hne hlt => ⟨hn.old hlt, by simp [G.own, hne], rfl⟩, by rw [hn.size]; omega, hn.os, hn.tape, hn.output, fun _ _ h => .inl h⟩
theorem Inv.own (hi : Inv B g w H) (hn : NewW w w' o) (h : Holder) : Inv B (g.own w.heap.size h) w' H where
  rho id b hr := by
    obtain ⟨h1, h2, h3, h4, h5⟩ := hi.rho id b hr
    have hne : b ≠ w.heap.size := by omega
    exact ⟨h1, h2, by rw [hn.size]; omega, h4, by simp [G.own, hne, h5]⟩
  inj := hi.inj
  ext b hb := by have := hi.ext b hb; rw [hn.size]; omega
  ow b o' ho := by
    simp only [G.own] at ho
    split at ho
    · rename_i e; subst e; exact ⟨hi.base, by rw [hn.size]; omega⟩
    · have := hi.ow b o' ho; exact ⟨this.1, by rw [hn.size]; omega⟩
  obj id o' b hg hr := (hi.obj id o' b hg hr).chg hi (chg_own hi hn h) (hn.old (hi.rho id b hr).2.2.1) fun off e => by
    rw [hi.ow_new] at e; cases e
  base := by rw [hn.size]; have := hi.base; omega
theorem post_own (hi : Inv B g w H) (hn : NewW w w' o) (h : Holder) : Post d B g w H (g.own w.heap.size h) w' H [] nobody :=
  ⟨(chg_own hi hn h).step (.inl (Nat.le_refl _)), hi.own hn h, Nat.le_refl _, fun _ _ hr _ => ⟨hr, rfl⟩, fun id b hr _ => hn.old (hi.rho id b hr).2.2.1⟩
theorem EnvOK.own {env : Env} {tm : Nat → Option Value} (he : EnvOK g w d env tm) (hi : Inv B g w H) (hn : NewW w w' o) (h : Holder) : EnvOK (g.own w.heap.size h) w' d env tm :=
  he.chg hi (chg_own hi hn h) (fun i e => by rw [hi.ow_new] at e; cases e) fun i j e => by rw [hi.ow_new] at e; cases e

/-- A NEW SLICE that is its holder's alone. -/
theorem ex_new (hi : Inv B g w H) {c : Array Value} {el : TypeId} {fr : Nat × Nat} (hn : NewW w w' (.cells c el fr)) (h : Holder) {l : List AVal} {k cap : Nat} {vs rest : List Value} (hk : k ≠ 0) (hu : ∀ e ∈ l, e.cells.length = k)
    (hl : RelL g w (l.flatMap AVal.cells) vs) (h1 : One vs) (hc : c.toList = vs ++ rest) (hcap : l.length ≤ cap) (hsz : c.size = cap * k) (hfr : unfrozen c fr) (hfr2 : fr.1 ≤ fr.2) :
    ExOK (g.own w.heap.size h) w' h l k (.slice (some ⟨w.heap.size, 0, none⟩) l.length cap) := by
  have hcell : ∀ j, w'.cell? ⟨w.heap.size, j, none⟩ = c[j]? := fun j => by simp [World.cell?, hn.new]
  refine ⟨_, cap, rfl, .inr ⟨hk, hcap, _, 0, vs, rfl, by simp [G.own], hi.ext_new, hu, hl.le (chg_own hi hn h).le, h1, ?_, ?_⟩⟩
  · intro j v hj
    rw [hcell, Nat.zero_add, ← Array.getElem?_toList, hc, List.getElem?_append_left]
    · exact hj
    · rcases Nat.lt_or_ge j vs.length with h | h
      · exact h
      · rw [List.getElem?_eq_none h] at hj; cases hj
  · refine ⟨?_, c, el, fr, hn.new, hfr, hfr2⟩
    intro j hj
    rw [hcell, Nat.zero_add]
    have hjc : j < c.size := by omega
    refine ⟨by rw [Array.getElem?_eq_getElem hjc]; rfl, ?_⟩
    simp only [World.frozen?, hn.new]
    have := hfr j hjc
    simp only [Bool.and_eq_false_iff, decide_eq_false_iff_not]
    exact Classical.not_and_iff_not_or_not.1 this

/-! ### Objects -/
theorem hget_cons (o : AObj) (H : Heap) (id : Nat) : hget (o :: H) id = if id = H.length then some o else hget H id := by
  unfold hget
  by_cases h : id = H.length
  · subst h; simp
  · rw [if_neg h]
    by_cases h2 : id < H.length
    · rw [if_pos (by simp; omega), if_pos h2]
      simp only [List.length_cons]
      rw [show H.length + 1 - 1 - id = (H.length - 1 - id) + 1 by omega]
      simp
    · rw [if_neg (by simp; omega), if_neg h2]
theorem hget_lt {H : Heap} {id : Nat} {o : AObj} (h : hget H id = some o) : id < H.length := by
  unfold hget at h
  split at h
  · assumption
  · cases h
def G.name (g : G) (id b : Nat) : G := { g with rho := fun i => if i = id then some b else g.rho i }
theorem chg_name (hi : Inv B g w H) (hn : NewW w w' o) {id : Nat} (hid : g.rho id = none) : Chg w.heap.size g w (g.name id w.heap.size) w' :=
  ⟨⟨fun i b h => by
      have hne : i ≠ id := fun e => by rw [e, hid] at h; cases h
      simp only [G.name]
      rw [if_neg hne]
      exact h, fun _ => Nat.le_refl _, fun b i hb => cell_old (hn.old (hi.ext b (by omega)))⟩,
   fun b' hne hlt => ⟨hn.old hlt, rfl, rfl⟩, by rw [hn.size]; omega, hn.os, hn.tape, hn.output, fun i b h => by
      simp only [G.name] at h
      split at h
      · cases h; exact .inr rfl
      · exact .inl h⟩
/-- a new object: late in the heap, or in the place that was kept for it -/
theorem Inv.name (hi : Inv B g w H) (hn : NewW w w' o) {id : Nat} (hid : g.rho id = none) {H' : Heap} (hlen : H.length ≤ H'.length) (hlt : id < H'.length) (hold : ∀ i, i ≠ id → g.rho i ≠ none → hget H' i = hget H i) (hobj : ∀ ob, hget H' id = some ob → ObjOK (g.name id w.heap.size) w' id w.heap.size ob) :
    Inv B (g.name id w.heap.size) w' H' where
  rho i b hr := by
    simp only [G.name] at hr
    split at hr
    · rename_i e; subst e; cases hr
      exact ⟨hlt, hi.base, by rw [hn.size]; omega, hi.ext_new, hi.ow_new⟩
    · obtain ⟨h1, h2, h3, h4, h5⟩ := hi.rho i b hr
      exact ⟨by omega, h2, by rw [hn.size]; omega, h4, h5⟩
  inj i i' b h1 h2 := by
    simp only [G.name] at h1 h2
    split at h1 <;> split at h2
    · simp_all
    · cases h1
      have := (hi.rho i' _ h2).2.2.1; omega
    · cases h2
      have := (hi.rho i _ h1).2.2.1; omega
    · exact hi.inj i i' b h1 h2
  ext b hb := by have := hi.ext b hb; rw [hn.size]; omega
  ow b o' ho := by have := hi.ow b o' ho; exact ⟨this.1, by rw [hn.size]; omega⟩
  obj i ob b hg hr := by
    simp only [G.name] at hr
    split at hr
    · rename_i e; subst e; cases hr
      exact hobj ob hg
    · rename_i e
      rw [hold i e (by rw [hr]; simp)] at hg
      exact (hi.obj i ob b hg hr).chg hi (chg_name hi hn hid) (hn.old (hi.rho i b hr).2.2.1) fun off e => by
        rw [hi.ow_new] at e; cases e
  base := by rw [hn.size]; have := hi.base; omega
theorem post_name (hi : Inv B g w H) (hn : NewW w w' o) {id : Nat} (hid : g.rho id = none) {H' : Heap} (hlen : H.length ≤ H'.length) (hlt : id < H'.length) (hold : ∀ i, i ≠ id → i < H.length → hget H' i = hget H i) (hobj : ∀ ob, hget H' id = some ob → ObjOK (g.name id w.heap.size) w' id w.heap.size ob) :
    Post d B g w H (g.name id w.heap.size) w' H' [] (fun i => i = id) :=
  ⟨(chg_name hi hn hid).step (.inl (Nat.le_refl _)), hi.name hn hid hlen hlt (fun i hne hr => by
      cases h : g.rho i with
      | none => exact absurd h hr
      | some b => exact hold i hne (hi.rho i b h).1) hobj, hlen, fun i hl hr hb => ⟨by simp only [G.name]; rw [if_neg hb]; exact hr, hold i hb hl⟩, fun i b hr _ => hn.old (hi.rho i b hr).2.2.1⟩
theorem EnvOK.name {env : Env} {tm : Nat → Option Value} (he : EnvOK g w d env tm) (hi : Inv B g w H) (hn : NewW w w' o) {id : Nat} (hid : g.rho id = none) : EnvOK (g.name id w.heap.size) w' d env tm :=
  he.chg hi (chg_name hi hn hid) (fun i e => by rw [hi.ow_new] at e; cases e) fun i j e => by rw [hi.ow_new] at e; cases e
theorem Inv.rho_len (hi : Inv B g w H) : g.rho H.length = none := by
  cases h : g.rho H.length with
  | none => rfl
  | some b => have := (hi.rho _ _ h).1; omega

/-- a cell that holds a copy -/
theorem cell_ro {h : Holder} {v : AVal} {x : Value} (h1 : x.oneCell' = true) (hr : RelV g w (ro1 v) x) : CellOK g w h (ro1 v) x := by
  refine ⟨h1, hr, fun l k e => ?_⟩
  have := (@RelV.hold g w h _ _ hr ro1_flags.1 ro1_flags.2)
  rw [e] at this
  exact this.2
theorem unfrozen_zero (c : Array Value) : unfrozen c (0, 0) := fun j _ h => by
  have := h.2; simp only [Nat.not_lt_zero] at this
/-- an object of copies -/
theorem box_ok {id b : Nat} {cs : List AVal} {c : Array Value} {el : TypeId} {fr : Nat × Nat} (hb : w.heap[b]? = some (.cells c el fr)) (hfr : unfrozen c fr) (hl : RelL g w (cs.map ro1) c.toList) (h1 : One c.toList) : ObjOK g w id b (.box (cs.map ro1)) := by
  refine ⟨c, el, fr, hb, hfr, ?_, fun j v hj => ?_⟩
  · have := hl.length
    simpa using this.symm
  · obtain ⟨x, hx, hr⟩ := hl.get hj
    rw [List.getElem?_map] at hj
    obtain ⟨u, hu, rfl⟩ := Option.map_eq_some_iff.1 hj
    exact ⟨x, by rw [← Array.getElem?_toList]; exact hx, cell_ro (h1.get hx) hr⟩
end
end Go.Abs
end

