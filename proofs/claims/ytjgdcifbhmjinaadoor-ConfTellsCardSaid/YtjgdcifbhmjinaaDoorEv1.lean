/- An evaluator of the program's code over a memory of one's own: blocks by name, no order left open, no capacity. -/
import Derived.Orders
import Derived.WalkKit
import Derived.Laws.World
import Derived.Laws.Append
import Derived.Laws.ByValue
import Derived.Laws.MakeOwn
import Derived.Laws.Slices
section
namespace Go.Proofs.YtjgdcifbhmjinaaDoor.Ev
open Go
noncomputable section

inductive Val where
  | sc (v : Value)
  | agg (cs : List Val)
  | tup (cs : List Val)
  | ref (id off : Nat)
  | row (id off len sz : Nat) (cap : Option Nat)
  | emp
  | fro (es : List (List Val))
  | fpt (cs : List Val)
  | fn (f : Fn) (first cap : List Val)
  | ifc (t : TypeId) (v : Val)
  | ab (k : IntKind) (lo hi : Int) (m r : Nat)   -- a number that isn't known: from lo to hi, r beyond a multiple of m
  deriving Inhabited

def U : Val := .sc undef

/-- Slots: a tree over the bits. -/
inductive Tr where
  | leaf
  | node (v : Val) (l r : Tr)

/-- The recursors are spelled out: the kernel runs them some ten times as fast as what recursion by patterns becomes. -/
noncomputable def Tr.get (t : Tr) : Nat → Val :=
  Tr.rec (motive := fun _ => Nat → Val) (fun _ => U)
    (fun v _ _ l r n => Bool.rec (motive := fun _ => Val) (Bool.rec (motive := fun _ => Val) (r ((n - 1) / 2)) (l ((n - 1) / 2)) (Nat.beq (n % 2) 1)) v (Nat.beq n 0)) t
noncomputable def Tr.one (f : Nat) : Nat → Val → Tr :=
  Nat.rec (motive := fun _ => Nat → Val → Tr) (fun _ _ => .leaf)
    (fun _ ih n x => Bool.rec (motive := fun _ => Tr) (Bool.rec (motive := fun _ => Tr) (.node U .leaf (ih ((n - 1) / 2) x)) (.node U (ih ((n - 1) / 2) x) .leaf) (Nat.beq (n % 2) 1)) (.node x .leaf .leaf) (Nat.beq n 0)) f
noncomputable def Tr.put (t : Tr) : Nat → Val → Tr :=
  Tr.rec (motive := fun _ => Nat → Val → Tr) (fun n x => Tr.one 16 n x)
    (fun v l r pl pr n x => Bool.rec (motive := fun _ => Tr) (Bool.rec (motive := fun _ => Tr) (.node v l (pr ((n - 1) / 2) x)) (.node v (pl ((n - 1) / 2) x) r) (Nat.beq (n % 2) 1)) (.node x l r) (Nat.beq n 0)) t

structure St where
  mem : List (Nat × List Val)
  next : Nat
  base : Nat
  rd : List Nat
  wr : List Nat

noncomputable def look (id : Nat) (m : List (Nat × List Val)) : Option (List Val) :=
  List.rec (motive := fun _ => Option (List Val)) none (fun p _ ih => Bool.rec (motive := fun _ => Option (List Val)) ih (some p.2) (Nat.beq p.1 id)) m
noncomputable def del (id : Nat) (m : List (Nat × List Val)) : List (Nat × List Val) :=
  List.rec (motive := fun _ => List (Nat × List Val)) [] (fun p _ ih => Bool.rec (motive := fun _ => List (Nat × List Val)) (p :: ih) ih (Nat.beq p.1 id)) m
noncomputable def upd (id : Nat) (c : List Val) (m : List (Nat × List Val)) : List (Nat × List Val) :=
  List.rec (motive := fun _ => List (Nat × List Val)) [] (fun p m ih => Bool.rec (motive := fun _ => List (Nat × List Val)) (p :: ih) ((p.1, c) :: m) (Nat.beq p.1 id)) m
/-- Without the blocks of a range. -/
noncomputable def shed (lo hi : Nat) (m : List (Nat × List Val)) : List (Nat × List Val) :=
  List.rec (motive := fun _ => List (Nat × List Val)) [] (fun p _ ih => Bool.rec (motive := fun _ => List (Nat × List Val)) (p :: ih) (Bool.rec (motive := fun _ => List (Nat × List Val)) (p :: ih) ih (Nat.ble (p.1 + 1) hi)) (Nat.ble lo p.1)) m
noncomputable def has (id : Nat) (l : List Nat) : Bool :=
  List.rec (motive := fun _ => Bool) false (fun k _ ih => Bool.rec (motive := fun _ => Bool) ih true (Nat.beq k id)) l
theorem look_nil (id : Nat) : look id [] = none := rfl
theorem look_c (id k : Nat) (c : List Val) (m : List (Nat × List Val)) : look id ((k, c) :: m) = match Nat.beq k id with
    | true => some c
    | false => look id m := by
  show Bool.rec (motive := fun _ => Option (List Val)) (look id m) (some c) (Nat.beq k id) = _
  cases Nat.beq k id <;> rfl
theorem del_nil (id : Nat) : del id [] = [] := rfl
theorem del_c (id k : Nat) (c : List Val) (m : List (Nat × List Val)) : del id ((k, c) :: m) = match Nat.beq k id with
    | true => del id m
    | false => (k, c) :: del id m := by
  show Bool.rec (motive := fun _ => List (Nat × List Val)) ((k, c) :: del id m) (del id m) (Nat.beq k id) = _
  cases Nat.beq k id <;> rfl
theorem upd_nil (id : Nat) (d : List Val) : upd id d [] = [] := rfl
theorem upd_c (id : Nat) (d : List Val) (k : Nat) (c : List Val) (m : List (Nat × List Val)) : upd id d ((k, c) :: m) = match Nat.beq k id with
    | true => (k, d) :: m
    | false => (k, c) :: upd id d m := by
  show Bool.rec (motive := fun _ => List (Nat × List Val)) ((k, c) :: upd id d m) ((k, d) :: m) (Nat.beq k id) = _
  cases Nat.beq k id <;> rfl
theorem shed_nil (lo hi : Nat) : shed lo hi [] = [] := rfl
theorem shed_c (lo hi k : Nat) (c : List Val) (m : List (Nat × List Val)) : shed lo hi ((k, c) :: m) = match Nat.ble lo k && Nat.ble (k + 1) hi with
    | true => shed lo hi m
    | false => (k, c) :: shed lo hi m := by
  show Bool.rec (motive := fun _ => List (Nat × List Val)) ((k, c) :: shed lo hi m) (Bool.rec (motive := fun _ => List (Nat × List Val)) ((k, c) :: shed lo hi m) (shed lo hi m) (Nat.ble (k + 1) hi)) (Nat.ble lo k) = _
  cases Nat.ble lo k <;> cases Nat.ble (k + 1) hi <;> rfl
theorem has_nil (id : Nat) : has id [] = false := rfl
theorem has_c (id k : Nat) (l : List Nat) : has id (k :: l) = match Nat.beq k id with
    | true => true
    | false => has id l := by
  show Bool.rec (motive := fun _ => Bool) (has id l) true (Nat.beq k id) = _
  cases Nat.beq k id <;> rfl
def note (base id : Nat) (l : List Nat) : List Nat :=
  match Nat.ble base id with
  | true => l
  | false => match has id l with
    | true => l
    | false => id :: l

abbrev M (α : Type) := St → Option (α × St)
@[inline] def M.pure {α : Type} (a : α) : M α := fun s => some (a, s)
@[inline] def M.bind {α β : Type} (p : M α) (f : α → M β) : M β := fun s => match p s with
  | some (a, s') => f a s'
  | none => none
instance : Monad M where
  pure := M.pure
  bind := M.bind
def fail {α : Type} : M α := fun _ => none
def ofOpt {α : Type} : Option α → M α
  | some a => M.pure a
  | none => fail
def must (b : Bool) : M Unit := match b with
  | true => M.pure ()
  | false => fail
def get (id : Nat) : M (List Val) := fun s => match look id s.mem with
  | some b => some (b, { s with rd := note s.base id s.rd })
  | none => none
def set (id : Nat) (c : List Val) : M Unit := fun s => match look id s.mem with
  | some _ => some ((), { s with mem := upd id c s.mem, wr := note s.base id s.wr })
  | none => none
def kill (id : Nat) : M Unit := fun s => match look id s.mem with
  | some _ => some ((), { s with mem := del id s.mem, wr := note s.base id s.wr })
  | none => none
def new (c : List Val) : M Nat := fun s => some (s.next, { s with mem := (s.next, c) :: s.mem, next := s.next + 1 })

noncomputable def joinN (base : Nat) (r : List Nat) : List Nat → List Nat :=
  List.rec (motive := fun _ => List Nat → List Nat) (fun l => l) (fun k _ ih l => ih (note base k l)) r

theorem joinN_nil (base : Nat) (l : List Nat) : joinN base [] l = l := rfl
theorem joinN_c (base k : Nat) (r l : List Nat) : joinN base (k :: r) l = joinN base r (note base k l) := rfl

structure Foot where
  at_ : Nat
  rd : List Nat
  wr : List Nat
  lo : Nat
  hi : Nat
/-- A part of its own: what it touches of the blocks that are there is told. -/
def fenced {α : Type} (i : Nat) (p : M α) : M (α × Foot) := fun s => match p { s with base := s.next, rd := [], wr := [] } with
  | some (a, s') => some ((a, ⟨i, s'.rd, s'.wr, s.next, s'.next⟩), ⟨s'.mem, s'.next, s.base, joinN s.base s'.rd s.rd, joinN s.base s'.wr s.wr⟩)
  | none => none

mutual
def Val.val? : Val → Option Value
  | .sc v => some v
  | .agg cs => (vals? cs).map fun l => .agg l.toArray
  | .tup cs => (vals? cs).map fun l => .tuple l.toArray
  | .fn f a b => match vals? a, vals? b with
    | some a, some b => some (.func f a.toArray b.toArray)
    | _, _ => none
  | .ifc t v => v.val?.map (.iface t)
  | _ => none
def vals? : List Val → Option (List Value)
  | [] => some []
  | v :: vs => match v.val?, vals? vs with
    | some x, some l => some (x :: l)
    | _, _ => none
end

def ofV0 : Value → Val
  | .agg cs => .agg (cs.toList.map .sc)
  | v => .sc v
def ofV : Value → Val
  | .agg cs => .agg (cs.toList.map .sc)
  | .tuple cs => .tup (cs.toList.map ofV0)
  | .iface t v => .ifc t (ofV0 v)
  | .func f a b => .fn f (a.toList.map .sc) (b.toList.map .sc)
  | v => .sc v

def Val.cells : Val → List Val
  | .agg cs => cs
  | v => [v]
def single : Value → Bool
  | .agg _ | .tuple _ => false
  | _ => true
def Val.one : Val → Bool
  | .sc v => single v
  | .agg _ | .tup _ => false
  | _ => true
def ones : List Val → Bool
  | [] => true
  | v :: l => match v.one with
    | true => ones l
    | false => false

def pureSem {α : Type} (P : Program) : Sem α → Option α
  | .pure a => some a
  | .program k => pureSem P (k P)
  | .mark _ k => pureSem P k
  | _ => none

section
variable (P : Program)

def aggD : TypeDesc → Bool
  | .struct _ | .array _ _ => true
  | _ => false
/-- How many cells a value of the type is read from; is it an aggregate? -/
def shape? (t : TypeId) : Option (Nat × Bool) := match P.underlying t, P.info? t with
  | some d, some i => some (match aggD d with | true => i.size | false => 1, aggD d)
  | _, _ => none
def shut (agg : Bool) (cs : List Val) : Option Val :=
  match agg with
  | true => some (.agg cs)
  | false => match cs with
    | [v] => some v
    | _ => none
/-- So many cells from a place on. -/
def cut (n off : Nat) (b : List Val) : Option (List Val) :=
  match Nat.ble (off + n) b.length with
  | true => some ((b.drop off).take n)
  | false => none
def lay (off : Nat) (cs b : List Val) : Option (List Val) :=
  match Nat.ble (off + cs.length) b.length with
  | true => some (b.take off ++ (cs ++ b.drop (off + cs.length)))
  | false => none

def knownSize (t : TypeId) : Option Nat := (P.info? t).map (·.size)

def evLoad (t : TypeId) (a : Val) : M Val := do
  let n ← ofOpt (shape? P t)
  match a with
  | .ref id off => do
    let b ← get id
    let cs ← ofOpt (cut n.1 off b)
    ofOpt (shut n.2 cs)
  | .fpt cs => do
    let cs ← ofOpt (cut n.1 0 cs)
    ofOpt (shut n.2 cs)
  | _ => fail

def evStore (t : TypeId) (a x : Val) : M Val := do
  let n ← ofOpt (knownSize P t)
  match a with
  | .ref id off => do
    must (Nat.beq x.cells.length n && ones x.cells)
    let b ← get id
    let b' ← ofOpt (lay off x.cells b)
    set id b'
    pure U
  | _ => fail

def zeroV (t : TypeId) : Option Val := match (P.info? t).bind (·.zero) with
  | some v => match ones (ofV v).cells with
    | true => some (ofV v)
    | false => none
  | none => none

def evNew (c : List Val) : M Val := do
  must (ones c)
  let id ← new c
  pure (.ref id 0)

def fillV (place : Nat → Option (Nat × Nat)) (cells : List Val) : List (Nat × Val) → Option (List Val)
  | [] => some cells
  | (i, v) :: rest => match place i with
    | none => none
    | some (off, size) => match Nat.beq v.cells.length size && ones v.cells with
      | true => match lay off v.cells cells with
        | some c => fillV place c rest
        | none => none
      | false => none

def fieldPlaces (fields : Array Field) (i : Nat) : Option (Nat × Nat) := match fields[i]? with
  | some f => match knownSize P f.type with
    | some n => some (f.offset, n)
    | none => none
  | none => none
def sizeIs (t : TypeId) (n : Nat) : Bool := match knownSize P t with
  | some m => Nat.beq m n
  | none => false

def evBuild (t : TypeId) (parts : List (Nat × Val)) : Option Val := do
  let z ← zeroV P t
  match P.underlying t with
  | some (.struct fields) => match fields.toList.all fun f => (P.info? f.type).isSome with
    | true => match fillV (fieldPlaces P fields) z.cells parts with
      | some cs => some (.agg cs)
      | none => none
    | false => none
  | some (.array _ elem) => do
    let n ← knownSize P elem
    match fillV (fun i => some (i * n, n)) z.cells parts with
    | some cs => some (.agg cs)
    | none => none
  | _ => none

def rep : Nat → List Val → List Val
  | 0, _ => []
  | n + 1, l => l ++ rep n l

def sliceOf (t : TypeId) : Option TypeId := match P.underlying t with
  | some (.slice e) => some e
  | _ => none

def evBuildSlice (t : TypeId) (len : Nat) (parts : List (Nat × Val)) : M Val := do
  let elem ← ofOpt (sliceOf P t)
  let n ← ofOpt (knownSize P elem)
  let z ← ofOpt (zeroV P elem)
  must (Nat.beq z.cells.length n && Nat.ble 1 n && Nat.ble (len * n) 16777216)
  let cs ← ofOpt (fillV (fun i => some (i * n, n)) (rep len z.cells) parts)
  let id ← new cs
  pure (.row id 0 len n (some len))

def natOf : Val → Option Nat
  | .sc (.int _ (.ofNat n)) => some n
  | _ => none

def evMakeSlice (t : TypeId) (len cap : Val) : M Val := do
  let elem ← ofOpt (sliceOf P t)
  let n ← ofOpt (knownSize P elem)
  let i ← ofOpt (P.info? elem)
  let z ← ofOpt (zeroV P elem)
  let l ← ofOpt (natOf len)
  let c ← ofOpt (natOf cap)
  must (Nat.beq z.cells.length n && Nat.ble 1 n && Nat.ble l c && Nat.ble (i.bytes * c) 281474976710656 && Nat.ble c 281474976710656)
  let id ← new (rep c z.cells)
  pure (.row id 0 l n (some c))

def evFieldAddr (s : TypeId) (x : Val) (f : Nat) : Option Val :=
  match P.underlying s with
  | some (.struct fields) => match fields[f]? with
    | some fd => match knownSize P fd.type with
      | some (_ + 1) => match x with
        | .ref id off => some (.ref id (off + fd.offset))
        | .fpt cs => some (.fpt (cs.drop fd.offset))
        | _ => none
      | _ => none
    | none => none
  | _ => none

def evIndexAddr (t : TypeId) (x i : Val) : Option Val :=
  match natOf i with
  | none => none
  | some i => match P.underlying t, x with
    | some (.slice elem), .row id off len sz _ => match Nat.ble (i + 1) len && sizeIs P elem sz with
      | true => some (.ref id (off + i * sz))
      | false => none
    | some (.slice elem), .fro es => (es[i]?).bind fun cs => match sizeIs P elem cs.length with
      | true => some (.fpt cs)
      | false => none
    | some (.array len elem), .ref id off => match Nat.ble (i + 1) len with
      | true => (knownSize P elem).map fun n => .ref id (off + i * n)
      | false => none
    | some (.array len elem), .fpt cs => match Nat.ble (i + 1) len with
      | true => (knownSize P elem).map fun n => .fpt (cs.drop (i * n))
      | false => none
    | _, _ => none

def evField (t : TypeId) (x : Val) (f : Nat) : Option Val :=
  match P.underlying t with
  | some (.struct fields) => match fields[f]?, x with
    | some fd, .agg cs => do
      let n ← shape? P fd.type
      let cs ← cut n.1 fd.offset cs
      shut n.2 cs
    | _, _ => none
  | _ => none

def evIndex (t : TypeId) (x i : Val) : Option Val :=
  match natOf i with
  | none => none
  | some i => match P.underlying t, x with
    | some (.array len elem), .agg cs => match Nat.ble (i + 1) len with
      | true => do
        let m ← knownSize P elem
        let n ← shape? P elem
        let cs ← cut n.1 (i * m) cs
        shut n.2 cs
      | false => none
    | _, _ => none

def optNat : Option Val → Option (Option Nat)
  | none => some none
  | some v => match natOf v with
    | some n => some (some n)
    | none => none

def capGe (cap : Option Nat) (h : Nat) : Bool := match cap with
  | some c => Nat.ble h c
  | none => false
def sizeAt (elem : TypeId) (e : Option (List Val)) : Bool := match e with
  | some e => sizeIs P elem e.length
  | none => true
def arrayOf (t : TypeId) : Option (Nat × TypeId) := match P.underlying t with
  | some (.array n e) => some (n, e)
  | _ => none
/-- xs[l:h:m] -/
def evSlice (t : TypeId) (x : Val) (lo hi mx : Option Val) : M Val := do
  let lo ← ofOpt (optNat lo)
  let hi ← ofOpt (optNat hi)
  let mx ← ofOpt (optNat mx)
  match x with
  | .row id off len sz cap => do
    let elem ← ofOpt (sliceOf P t)
    must (sizeIs P elem sz && Nat.ble (lo.getD 0) (hi.getD len) && (Nat.ble (hi.getD len) len || capGe cap (hi.getD len)))
    match mx with
    | none => match cap with
      | none => pure (.row id (off + lo.getD 0 * sz) (hi.getD len - lo.getD 0) sz none)
      | some c => pure (.row id (off + lo.getD 0 * sz) (hi.getD len - lo.getD 0) sz (some (c - lo.getD 0)))
    | some m => do
      must (hi.isSome && Nat.ble (hi.getD len) m && (Nat.ble m len || capGe cap m))
      pure (.row id (off + lo.getD 0 * sz) (hi.getD len - lo.getD 0) sz (some (m - lo.getD 0)))
  | .fro es => do
    let elem ← ofOpt (sliceOf P t)
    must ((knownSize P elem).isSome && sizeAt P elem (es[lo.getD 0]?) && Nat.ble (lo.getD 0) (hi.getD es.length) && Nat.ble (hi.getD es.length) es.length)
    match mx with
    | none => pure (.fro ((es.drop (lo.getD 0)).take (hi.getD es.length - lo.getD 0)))
    | some m => do
      must (hi.isSome && Nat.beq (hi.getD es.length) 0 && Nat.beq m 0)
      pure .emp
  | .ref id off => do
    let r ← ofOpt (arrayOf P t)
    let sz ← ofOpt (knownSize P r.2)
    let b ← get id
    must (Nat.ble (off + r.1 * sz) b.length && Nat.ble (lo.getD 0) (hi.getD r.1) && Nat.ble (hi.getD r.1) r.1 && mx.isNone)
    pure (.row id (off + lo.getD 0 * sz) (hi.getD r.1 - lo.getD 0) sz (some (r.1 - lo.getD 0)))
  | _ => fail

/-- The cells of what is appended. -/
def srcCells (sz : Nat) (x : Val) : M (List Val) :=
  match x with
  | .row id off len sz' _ => do
    must (Nat.beq sz' sz)
    let b ← get id
    ofOpt (cut (len * sz) off b)
  | .fro es => do
    must (es.all fun e => Nat.beq e.length sz)
    pure es.flatten
  | .emp => pure []
  | .sc (.slice none 0 0) => pure []
  | .sc (.string s) => do
    must (Nat.beq sz 1)
    pure (s.data.toList.map fun b => .sc (.int .u8 b.toNat))
  | _ => fail

def srcLen : Val → Option Nat
  | .row _ _ len _ _ => some len
  | .fro es => some es.length
  | .emp => some 0
  | .sc (.slice none 0 0) => some 0
  | .sc (.string s) => some s.size
  | _ => none

def isInt (t : TypeId) : Option Bool := match P.underlying t with
  | some (.int _) => some true
  | some _ => some false
  | none => none
def isRow : Val → Bool
  | .row .. | .emp | .fro _ | .sc (.slice none 0 0) => true
  | _ => false
/-- Cells behind a row's. -/
def evGrow (sz n : Nat) (new' : List Val) (s : Val) : M Val :=
  match s with
  | .row id off len sz' cap => do
    must (Nat.beq sz' sz && Nat.ble (len + n) 1073741824)
    let b ← get id
    match cap with
    | some c => match Nat.ble (len + n) c with
      | true => do
        let b' ← ofOpt (lay (off + len * sz) new' b)
        set id b'
        pure (.row id off (len + n) sz (some c))
      | false => do
        let old ← ofOpt (cut (len * sz) off b)
        let k ← new (old ++ new')
        pure (.row k 0 (len + n) sz none)
    | none => do
      must (Nat.beq (off + len * sz) b.length)
      let old ← ofOpt (cut (len * sz) off b)
      kill id
      let k ← new (old ++ new')
      pure (.row k 0 (len + n) sz none)
  | .emp | .sc (.slice none 0 0) => do
    must (Nat.ble n 1073741824)
    let k ← new new'
    pure (.row k 0 n sz none)
  | _ => fail
def evAppend (t u : TypeId) (s x : Val) : M Val := do
  let elem ← ofOpt (sliceOf P t)
  let int ← ofOpt (isInt P u)
  let sz ← ofOpt (knownSize P elem)
  let i ← ofOpt (P.info? elem)
  let z ← ofOpt (zeroV P elem)
  let n ← ofOpt (srcLen x)
  must (!int && Nat.ble 1 sz && Nat.ble i.bytes 65536 && isRow s)
  match n with
  | 0 => pure s
  | n + 1 => do
    let new' ← srcCells sz x
    must (Nat.beq z.cells.length sz && ones new')
    evGrow sz (n + 1) new' s

/-- One side is no nil, the other is. -/
def nilSide (d : TypeDesc) (x y : Val) : Bool :=
  match d with
  | .slice _ => match x, y with
    | .row .., .sc (.slice none _ _) | .emp, .sc (.slice none _ _) | .fro _, .sc (.slice none _ _) => true
    | _, _ => false
  | .pointer _ => match x, y with
    | .ref .., .sc (.pointer none) | .fpt _, .sc (.pointer none) => true
    | _, _ => false
  | .func .. => match x, y with
    | .fn .., .sc .nilFunc => true
    | _, _ => false
  | .interface _ => match x, y with
    | .ifc .., .sc .nilIface => true
    | _, _ => false
  | _ => false

def evEq (op : BinOp) (t : TypeId) (x y : Val) : Option Val :=
  match P.underlying t with
  | some d => match nilSide d x y || nilSide d y x with
    | true => match op with
      | .eql => some (.sc (.bool false))
      | .neq => some (.sc (.bool true))
      | _ => none
    | false => none
  | none => none

/-- What is known of comparisons and remainders of numbers that aren't known. -/
def bounds : Val → Option (IntKind × Int × Int)
  | .sc (.int k n) => some (k, n, n)
  | .ab k lo hi _ _ => some (k, lo, hi)
  | _ => none
def cmpAb (op : BinOp) (a b c d : Int) : Option Bool :=
  match op with
  | .lss => if b < c then some true else if d ≤ a then some false else none
  | .leq => if b ≤ c then some true else if d < a then some false else none
  | .gtr => if d < a then some true else if b ≤ c then some false else none
  | .geq => if d ≤ a then some true else if b < c then some false else none
  | .eql => if b < c then some false else if d < a then some false else none
  | .neq => if b < c then some true else if d < a then some true else none
  | _ => none
def evAb (op : BinOp) (x y : Val) : Option Val :=
  match op, x, y with
  | .rem, .ab k lo _ m r, .sc (.int k' n) => match decide (k = k') && decide (0 ≤ lo) && decide (n = (m : Int)) && Nat.ble 1 m with
    | true => some (.sc (.int k (r : Nat)))
    | false => none
  | op, x, y => match bounds x, bounds y with
    | some (k, a, b), some (k', c, d) => match decide (k = k') with
      | true => match cmpAb op a b c d with
        | some b => some (.sc (.bool b))
        | none => none
      | false => none
    | _, _ => none
def evAbConv (dst : TypeId) (x : Val) : Option Val :=
  match P.underlying dst, x with
  | some (.int k), .ab _ lo hi m r => match decide (k.min ≤ lo) && decide (hi ≤ k.max) with
    | true => some (.ab k lo hi m r)
    | false => none
  | _, _ => none

def bytesT (t : TypeId) : Bool := match sliceOf P t with
  | some e => match P.underlying e with
    | some (.int .u8) => true
    | _ => false
  | none => false
def stringT (t : TypeId) : Bool := match P.underlying t with
  | some .string => true
  | _ => false
def evBytes : List Val → Option (List Int)
  | [] => some []
  | .sc (.int .u8 n) :: l => match evBytes l with
    | some r => some (n :: r)
    | none => none
  | _ => none
/- Bytes of strings: lists that are walked by the recursor. -/
def lenL (l : List UInt8) : Nat := List.rec (motive := fun _ => Nat) 0 (fun _ _ ih => Nat.add ih 1) l
def dropL (n : Nat) : List UInt8 → List UInt8 :=
  Nat.rec (motive := fun _ => List UInt8 → List UInt8) (fun l => l) (fun _ ih l => List.rec (motive := fun _ => List UInt8) [] (fun _ t _ => ih t) l) n
def takeL (n : Nat) : List UInt8 → List UInt8 :=
  Nat.rec (motive := fun _ => List UInt8 → List UInt8) (fun _ => []) (fun _ ih l => List.rec (motive := fun _ => List UInt8) [] (fun b t _ => b :: ih t) l) n
def nthL (n : Nat) : List UInt8 → Option UInt8 :=
  Nat.rec (motive := fun _ => List UInt8 → Option UInt8) (fun l => List.rec (motive := fun _ => Option UInt8) none (fun b _ _ => some b) l) (fun _ ih l => List.rec (motive := fun _ => Option UInt8) none (fun _ t _ => ih t) l) n
def bytesL (l : List Int) : List UInt8 := List.rec (motive := fun _ => List UInt8) [] (fun n _ ih => UInt8.ofNat n.toNat :: ih) l
def packBytes (l : List Int) : ByteArray := ⟨⟨bytesL l⟩⟩
def strSlice (t : TypeId) (x : Value) (lo hi mx : Option Val) : Option Val := match x, mx with
  | .string s, none => match stringT P t, optNat lo, optNat hi with
    | true, some l, some h => match Nat.ble (l.getD 0) (h.getD (lenL s.data.toList)) && Nat.ble (h.getD (lenL s.data.toList)) (lenL s.data.toList) with
      | true => some (.sc (.string ⟨⟨match h with
        | none => dropL (l.getD 0) s.data.toList
        | some h => takeL (h - l.getD 0) (dropL (l.getD 0) s.data.toList)⟩⟩))
      | false => none
    | _, _, _ => none
  | _, _ => none
def strIndex (t : TypeId) (x : Value) (i : Val) : Option Val := match stringT P t, x, natOf i with
  | true, .string s, some n => match nthL n s.data.toList with
    | some b => some (.sc (.int .u8 b.toNat))
    | none => none
  | _, _, _ => none
def evConvert (src dst : TypeId) (x : Val) : M Val :=
  match x with
  | .row id off len sz _ => do
    must (bytesT P src && stringT P dst && Nat.beq sz 1)
    let b ← get id
    let cs ← ofOpt (cut len off b)
    let l ← ofOpt (evBytes cs)
    pure (.sc (.string (packBytes l)))
  | .sc (.string s) => do
    must (stringT P src && bytesT P dst)
    let k ← new (s.data.toList.map fun b => .sc (.int .u8 b.toNat))
    pure (.row k 0 s.size 1 none)
  | .ab k lo hi m r => ofOpt (match P.underlying src with
    | some _ => evAbConv P dst (.ab k lo hi m r)
    | none => none)
  | _ => fail

def evAssert (x : Val) (asserted : TypeId) (ok : Bool) : Option Val :=
  match P.underlying asserted, x with
  | some (.interface _), _ => none
  | some _, .ifc t v => match Nat.beq t asserted with
    | true => some (match ok with | true => .tup [v, .sc (.bool true)] | false => v)
    | false => match ok with
      | true => (zeroV P asserted).map fun z => .tup [z, .sc (.bool false)]
      | false => none
  | _, _ => none

def evScalar (ρ : Operand → Val) (o : Oper) : Option Val :=
  match o.op.operands.all (fun x => (ρ x).val?.isSome) with
  | true => match pureSem P (execOp (fun x => (ρ x).val?.getD undef) o) with
    | some (.value v) => some (ofV v)
    | _ => none
  | false => none

abbrev CallF := FuncId → List Val → M Val

def rowArg (c : Call) : Option TypeId := match c.argTypes[0]? with
  | some t => sliceOf P t
  | none => none

def evCall (call : CallF) (ρ : Operand → Val) (o : Oper) (c : Call) : M Val :=
  match c.callee with
  | .value f => match ρ f with
    | .fn (.func g) a b => call g (a ++ (c.args.toList.map ρ ++ b))
    | _ => fail
  | .builtin b => match b, c.args.toList.map ρ with
    | .len, [.row _ _ n _ _] => do
      let _ ← ofOpt (rowArg P c)
      pure (.sc (.int .i64 (n : Nat)))
    | .len, [.fro es] => do
      let _ ← ofOpt (rowArg P c)
      pure (.sc (.int .i64 (es.length : Nat)))
    | .len, [.sc (.string b)] => ofOpt (match c.argTypes[0]? with
      | some t => match stringT P t with
        | true => some (.sc (.int .i64 (lenL b.data.toList)))
        | false => none
      | none => none)
    | .len, [.emp] => do
      let _ ← ofOpt (rowArg P c)
      pure (.sc (.int .i64 0))
    | .cap, [.row _ _ _ _ (some n)] => do
      let _ ← ofOpt (rowArg P c)
      pure (.sc (.int .i64 (n : Nat)))
    | .append, [s, x] => do
      let t ← ofOpt (c.argTypes[0]?)
      let u ← ofOpt (c.argTypes[1]?)
      evAppend P t u s x
    | _, _ => ofOpt (evScalar P ρ o)
  | _ => fail

def evOp (call : CallF) (ρ : Operand → Val) (o : Oper) : M Val :=
  match o.op with
  | .move x | .assign x => pure (ρ x)
  | .pick c a b => match ρ c with
    | .sc (.bool true) => pure (ρ a)
    | .sc (.bool false) => pure (ρ b)
    | _ => fail
  | .alloc t => do
    let z ← ofOpt (zeroV P t)
    evNew z.cells
  | .box _ x => evNew (ρ x).cells
  | .build t parts => ofOpt (evBuild P t (parts.toList.map fun p => (p.1, ρ p.2)))
  | .buildSlice t len parts => evBuildSlice P t len (parts.toList.map fun p => (p.1, ρ p.2))
  | .load t a => evLoad P t (ρ a)
  | .store t a x => evStore P t (ρ a) (ρ x)
  | .nilCheck x => match ρ x with
    | .ref id off => pure (.ref id off)
    | .fpt cs => pure (.fpt cs)
    | .fn (.func f) a b => pure (.fn (.func f) a b)
    | .ifc t v => pure (.ifc t v)
    | _ => fail
  | .makeInterface t x => match P.underlying t with
    | some (.interface _) => fail
    | some _ => pure (.ifc t (ρ x))
    | none => fail
  | .makeFunc f first cap => pure (.fn f (first.toList.map ρ) (cap.toList.map ρ))
  | .makeSlice t l c => evMakeSlice P t (ρ l) (ρ c)
  | .slice t x lo hi mx => match ρ x with
    | .sc v => ofOpt (match strSlice P t v (lo.map ρ) (hi.map ρ) (mx.map ρ) with
      | some r => some r
      | none => evScalar P ρ o)
    | _ => evSlice P t (ρ x) (lo.map ρ) (hi.map ρ) (mx.map ρ)
  | .fieldAddr s x f => ofOpt (evFieldAddr P s (ρ x) f)
  | .field t x f => ofOpt (evField P t (ρ x) f)
  | .indexAddr t x i => ofOpt (evIndexAddr P t (ρ x) (ρ i))
  | .index t x i => match ρ x with
    | .agg _ => ofOpt (evIndex P t (ρ x) (ρ i))
    | .sc v => ofOpt (match strIndex P t v (ρ i) with
      | some r => some r
      | none => evScalar P ρ o)
    | _ => ofOpt (evScalar P ρ o)
  | .extract x i => match ρ x with
    | .tup vs => ofOpt (vs[i]?)
    | _ => fail
  | .typeAssert x _ t ok => match ρ x with
    | .ifc _ _ => ofOpt (match evAssert P (ρ x) t ok with
      | some v => some v
      | none => evScalar P ρ o)
    | _ => ofOpt (evScalar P ρ o)
  | .binOp op t x y _ => match evEq P op t (ρ x) (ρ y) with
    | some v => pure v
    | none => match evAb op (ρ x) (ρ y) with
      | some v => pure v
      | none => ofOpt (evScalar P ρ o)
  | .convert src dst x => match evScalar P ρ o with
    | some v => pure v
    | none => evConvert P src dst (ρ x)
  | .unOp .. => ofOpt (evScalar P ρ o)
  | .call c => evCall P call ρ o c
  | _ => fail
end

/- The same, by branches that are told apart by the recursor: what a branch does not need is not copied. -/
abbrev Br := Program → CallF → (Operand → Val) → Oper → M Val
def br_move (x : Operand) : Br := fun _ _ ρ _ => pure (ρ x)
def br_assign (x : Operand) : Br := fun _ _ ρ _ => pure (ρ x)
def br_pick (c : Operand) (a : Operand) (b : Operand) : Br := fun _ _ ρ _ => match ρ c with
    | .sc (.bool true) => pure (ρ a)
    | .sc (.bool false) => pure (ρ b)
    | _ => fail
def br_alloc (t : TypeId) : Br := fun P _ _ _ => do
    let z ← ofOpt (zeroV P t)
    evNew z.cells
def br_box (_a0 : TypeId) (x : Operand) : Br := fun _ _ ρ _ => evNew (ρ x).cells
def br_build (t : TypeId) (parts : Array (Nat × Operand)) : Br := fun P _ ρ _ => ofOpt (evBuild P t (parts.toList.map fun p => (p.1, ρ p.2)))
def br_buildSlice (t : TypeId) (len : Nat) (parts : Array (Nat × Operand)) : Br := fun P _ ρ _ => evBuildSlice P t len (parts.toList.map fun p => (p.1, ρ p.2))
def br_load (t : TypeId) (a : Operand) : Br := fun P _ ρ _ => evLoad P t (ρ a)
def br_store (t : TypeId) (a : Operand) (x : Operand) : Br := fun P _ ρ _ => evStore P t (ρ a) (ρ x)
def br_nilCheck (x : Operand) : Br := fun _ _ ρ _ => match ρ x with
    | .ref id off => pure (.ref id off)
    | .fpt cs => pure (.fpt cs)
    | .fn (.func f) a b => pure (.fn (.func f) a b)
    | .ifc t v => pure (.ifc t v)
    | _ => fail
def br_binOp (op : BinOp) (t : TypeId) (x : Operand) (y : Operand) (_a4 : TypeId) : Br := fun P _ ρ o => match evEq P op t (ρ x) (ρ y) with
    | some v => pure v
    | none => match evAb op (ρ x) (ρ y) with
      | some v => pure v
      | none => ofOpt (evScalar P ρ o)
def br_unOp (_a0 : UnOp) (_a1 : TypeId) (_a2 : Operand) : Br := fun P _ ρ o => ofOpt (evScalar P ρ o)
def br_convert (src : TypeId) (dst : TypeId) (x : Operand) : Br := fun P _ ρ o => match evScalar P ρ o with
    | some v => pure v
    | none => evConvert P src dst (ρ x)
def br_makeInterface (t : TypeId) (x : Operand) : Br := fun P _ ρ _ => match P.underlying t with
    | some (.interface _) => fail
    | some _ => pure (.ifc t (ρ x))
    | none => fail
def br_makeFunc (f : Fn) (first : Array Operand) (cap : Array Operand) : Br := fun _ _ ρ _ => pure (.fn f (first.toList.map ρ) (cap.toList.map ρ))
def br_makeSlice (t : TypeId) (l : Operand) (c : Operand) : Br := fun P _ ρ _ => evMakeSlice P t (ρ l) (ρ c)
def br_slice (t : TypeId) (x : Operand) (lo : Option Operand) (hi : Option Operand) (mx : Option Operand) : Br := fun P _ ρ o => match ρ x with
    | .sc v => ofOpt (match strSlice P t v (lo.map ρ) (hi.map ρ) (mx.map ρ) with
      | some r => some r
      | none => evScalar P ρ o)
    | _ => evSlice P t (ρ x) (lo.map ρ) (hi.map ρ) (mx.map ρ)
def br_fieldAddr (s : TypeId) (x : Operand) (f : Nat) : Br := fun P _ ρ _ => ofOpt (evFieldAddr P s (ρ x) f)
def br_field (t : TypeId) (x : Operand) (f : Nat) : Br := fun P _ ρ _ => ofOpt (evField P t (ρ x) f)
def br_indexAddr (t : TypeId) (x : Operand) (i : Operand) : Br := fun P _ ρ _ => ofOpt (evIndexAddr P t (ρ x) (ρ i))
def br_index (t : TypeId) (x : Operand) (i : Operand) : Br := fun P _ ρ o => match ρ x with
    | .agg _ => ofOpt (evIndex P t (ρ x) (ρ i))
    | .sc v => ofOpt (match strIndex P t v (ρ i) with
      | some r => some r
      | none => evScalar P ρ o)
    | _ => ofOpt (evScalar P ρ o)
def br_typeAssert (x : Operand) (_a1 : TypeId) (t : TypeId) (ok : Bool) : Br := fun P _ ρ o => match ρ x with
    | .ifc _ _ => ofOpt (match evAssert P (ρ x) t ok with
      | some v => some v
      | none => evScalar P ρ o)
    | _ => ofOpt (evScalar P ρ o)
def br_extract (x : Operand) (i : Nat) : Br := fun _ _ ρ _ => match ρ x with
    | .tup vs => ofOpt (vs[i]?)
    | _ => fail
def br_call (c : Call) : Br := fun P call ρ o => evCall P call ρ o c
def br_no : Br := fun _ _ _ _ => fail
def evTab (x : Op) : Br := Op.rec (motive := fun _ => Br) br_move br_assign br_pick br_alloc br_box br_build br_buildSlice (fun _ _ _ _ => br_no) br_load br_store (fun _ => br_no) (fun _ => br_no) br_nilCheck br_binOp br_unOp br_convert (fun _ _ => br_no) br_makeInterface br_makeFunc (fun _ _ => br_no) (fun _ _ => br_no) br_makeSlice br_slice br_fieldAddr br_field br_indexAddr br_index (fun _ _ _ _ => br_no) (fun _ _ _ _ => br_no) (fun _ _ _ => br_no) (fun _ _ _ _ => br_no) (fun _ _ => br_no) (fun _ _ => br_no) (fun _ => br_no) br_typeAssert br_extract br_call (fun _ => br_no) (fun _ => br_no) (fun _ => br_no) (fun _ _ => br_no) (fun _ _ _ => br_no) (fun _ _ => br_no) x
def evOpF (P : Program) (call : CallF) (ρ : Operand → Val) (o : Oper) : M Val := evTab o.op P call ρ o
theorem evOpF_eq (P : Program) (call : CallF) (ρ : Operand → Val) (o : Oper) : evOpF P call ρ o = evOp P call ρ o := by
  unfold evOpF evOp
  cases o.op <;> rfl

section
variable (P : Program)

def evOperand (a : Tr) : Operand → Val
  | .tmp t => a.get t
  | .const v => ofV v
  | .func f => .fn (.func f) [] []
  | .global g => .sc (.pointer (some ⟨g, 0, none⟩))

def evYield (ops : Array Oper) (a : Tr) (j : Nat) : Option Bool :=
  match (ops[j]?).bind (·.dst) with
  | some t => match a.get t with
    | .sc (.bool b) => some b
    | _ => none
  | none => none
def evWanted (ops : Array Oper) (a : Tr) (o : Oper) : Bool :=
  match o.guard with
  | none => true
  | some (j, w) => match evYield ops a j with
    | some b => b == w
    | none => false
def evPut (nt : Nat) (a : Tr) (d : Option Nat) (v : Val) : Option Tr := match d with
  | some d => match Nat.ble (d + 1) nt with
    | true => some (a.put d v)
    | false => none
  | none => some a

/-- An operation that may not be wanted. -/
def evGuarded (call : CallF) (ops : Array Oper) (a : Tr) (o : Oper) : M Val := match evWanted ops a o with
  | true => evOpF P call (evOperand a) o
  | false => pure U

def evOps (call : CallF) (nt : Nat) (ops : Array Oper) : List Oper → Tr → M Tr
  | [], a => pure a
  | o :: l, a => do
    let v ← evGuarded P call ops a o
    let a ← ofOpt (evPut nt a o.dst v)
    evOps call nt ops l a

def meets : List Nat → List Nat → Bool
  | [], _ => false
  | k :: l, r => match has k r with
    | true => true
    | false => meets l r
def within (lo hi : Nat) : List Nat → Bool
  | [] => false
  | k :: l => match Nat.ble lo k && Nat.ble (k + 1) hi with
    | true => true
    | false => within lo hi l
def apart (x y : Foot) : Bool :=
  !(meets x.wr y.rd || meets x.wr y.wr || meets y.wr x.rd || within x.lo x.hi y.rd || within x.lo x.hi y.wr)

/-- What must be ahead of an operation. -/
def maskOf (acc : List Nat) : List Edge → Nat
  | [] => 0
  | e :: es => match Region.binds .any e with
    | true => Nat.lor (Nat.lor (2 ^ e.on) (acc.getD e.on 0)) (maskOf acc es)
    | false => maskOf acc es
def masks : List Oper → List Nat → List Nat
  | [], acc => acc
  | o :: l, acc => masks l (acc ++ [maskOf acc o.after.toList])
def edgesOk : Nat → List Oper → Bool
  | _, [] => true
  | i, o :: l => (o.after.toList.all fun e => !Region.binds .any e || Nat.ble (e.on + 1) i) && edgesOk (i + 1) l
def noPick (o : Oper) : Bool := match o.op with
  | .select .. => false
  | _ => true
/-- Slots of two operations that may come in either order. -/
def slotsApart (ops : Array Oper) (x y : Oper) : Bool :=
  (match x.dst with
   | some d => !(y.looksAt ops).contains d && y.dst != some d
   | none => true) &&
  (match y.dst with
   | some d => !(x.looksAt ops).contains d
   | none => true)
def slotsOk (ops : Array Oper) (B : List Nat) : Nat → List Oper → Bool
  | _, [] => true
  | i, x :: l => (l.zipIdx (i + 1)).all (fun y => slotsApart ops x y.1 || (B.getD y.2 0).testBit i) && slotsOk ops B (i + 1) l
def regionOk (ops : Array Oper) : Bool :=
  edgesOk 0 ops.toList && ops.toList.all noPick && slotsOk ops (masks ops.toList []) 0 ops.toList

/-- Operations in the text's order, each as a part of its own; what each has touched. -/
def evDrawn (call : CallF) (nt : Nat) (ops : Array Oper) : Nat → List Oper → Tr → M (List Foot × Tr)
  | _, [], a => pure ([], a)
  | i, o :: l, a => do
    let r ← fenced i (evGuarded P call ops a o)
    let a' ← ofOpt (evPut nt a o.dst r.1)
    let t ← evDrawn call nt ops (i + 1) l a'
    pure (r.2 :: t.1, t.2)

def clashFree (B : List Nat) : List Foot → Bool
  | [] => true
  | x :: l => (l.all fun y => apart x y || (B.getD y.at_ 0).testBit x.at_) && clashFree B l

end

inductive Ex where
  | normal
  | exit (id : Nat)
  | goto (l : Nat)
  | ret

def hasLabel (l : Nat) : Code → Bool
  | .seq x y => hasLabel l x || hasLabel l y
  | .label k => Nat.beq k l
  | _ => false

/-- A loop, at most so many rounds. -/
def evLoop (body : Tr → M (Ex × Tr)) : Nat → Tr → M (Ex × Tr)
  | 0, _ => fail
  | n + 1, a => do
    let r ← body a
    match r with
    | (.normal, a) => evLoop body n a
    | (e, a) => pure (e, a)

/-- A scope: what jumps to a label of its own goes on from there. -/
def evScope (from_ : Option Nat → Tr → M (Ex × Tr)) (mine : Nat → Bool) : Nat → Option Nat → Tr → M (Ex × Tr)
  | 0, _, _ => fail
  | n + 1, l, a => do
    let r ← from_ l a
    match r with
    | (.goto k, a) => match mine k with
      | true => evScope from_ mine n (some k) a
      | false => pure (.goto k, a)
    | (e, a) => pure (e, a)

section
variable (P : Program) (call : CallF) (lf nt : Nat)

def evRegion (ops : Array Oper) (draw : Bool) (a : Tr) : M Tr :=
  match draw with
  | false => evOps P call nt ops ops.toList a
  | true => do
    let r ← evDrawn P call nt ops 0 ops.toList a
    must (regionOk ops && clashFree (masks ops.toList []) r.1)
    pure r.2

/-- The code from its beginning, or from a label on. -/
def evCode : Code → Option Nat → Tr → M (Ex × Tr)
  | .seq x y, some l, a => match hasLabel l x with
    | true => do
      let r ← evCode x (some l) a
      match r with
      | (.normal, a) => evCode y none a
      | (e, a) => pure (e, a)
    | false => evCode y (some l) a
  | .label _, some _, a => pure (.normal, a)
  | _, some _, _ => fail
  | .skip, none, a => pure (.normal, a)
  | .label _, none, a => pure (.normal, a)
  | .region _ ops draw, none, a => do
    let a ← evRegion P call nt ops draw a
    pure (.normal, a)
  | .seq x y, none, a => do
    let r ← evCode x none a
    match r with
    | (.normal, a) => evCode y none a
    | (e, a) => pure (e, a)
  | .cond c x y, none, a => match evOperand a c with
    | .sc (.bool true) => evCode x none a
    | .sc (.bool false) => evCode y none a
    | _ => fail
  | .block id c, none, a => do
    let r ← evCode c none a
    match r with
    | (.exit k, a) => match Nat.beq k id with
      | true => pure (.normal, a)
      | false => pure (.exit k, a)
    | (e, a) => pure (e, a)
  | .loop c, none, a => evLoop (evCode c none) lf a
  | .exit id, none, a => pure (.exit id, a)
  | .scope c, none, a => evScope (evCode c) (fun l => hasLabel l c) lf none a
  | .goto l, none, a => pure (.goto l, a)
  | .ret, none, a => pure (.ret, a)
  | _, none, _ => fail

/- The code, by the recursor. -/
abbrev CB := Program → CallF → Nat → Nat → Option Nat → Tr → M (Ex × Tr)
def cStay (e : Ex) : CB := fun _ _ _ _ l a => match l with
  | none => pure (e, a)
  | some _ => fail
def cLabel (_ : Nat) : CB := fun _ _ _ _ _ a => pure (.normal, a)
def cFail : CB := fun _ _ _ _ _ _ => fail
def cRegion (_ : Nat) (ops : Array Oper) (draw : Bool) : CB := fun P call _ nt l a => match l with
  | none => do
    let a ← evRegion P call nt ops draw a
    pure (.normal, a)
  | some _ => fail
def cThen (g : Tr → M (Ex × Tr)) (r : Ex × Tr) : M (Ex × Tr) := match r with
  | (.normal, a) => g a
  | (e, a) => pure (e, a)
def cSeq (x _ : Code) (f g : CB) : CB := fun P call lf nt l a => match l with
  | none => do
    let r ← f P call lf nt none a
    cThen (g P call lf nt none) r
  | some l => match hasLabel l x with
    | true => do
      let r ← f P call lf nt (some l) a
      cThen (g P call lf nt none) r
    | false => g P call lf nt (some l) a
def cCond (c : Operand) (_ _ : Code) (f g : CB) : CB := fun P call lf nt l a => match l with
  | none => match evOperand a c with
    | .sc (.bool true) => f P call lf nt none a
    | .sc (.bool false) => g P call lf nt none a
    | _ => fail
  | some _ => fail
def cBlock (id : Nat) (_ : Code) (f : CB) : CB := fun P call lf nt l a => match l with
  | none => do
    let r ← f P call lf nt none a
    match r with
    | (.exit k, a) => match Nat.beq k id with
      | true => pure (.normal, a)
      | false => pure (.exit k, a)
    | (e, a) => pure (e, a)
  | some _ => fail
def cLoop (_ : Code) (f : CB) : CB := fun P call lf nt l a => match l with
  | none => evLoop (f P call lf nt none) lf a
  | some _ => fail
def cScope (c : Code) (f : CB) : CB := fun P call lf nt l a => match l with
  | none => evScope (f P call lf nt) (fun l => hasLabel l c) lf none a
  | some _ => fail
def cTab (c : Code) : CB := Code.rec (motive := fun _ => CB) (cStay .normal) cRegion cSeq cCond cBlock cLoop (fun _ _ _ _ _ _ => cFail) (fun id => cStay (.exit id)) cScope cLabel (fun l => cStay (.goto l)) (cStay .ret) (fun _ => cFail) c
theorem cTab_eq (P : Program) (call : CallF) (lf nt : Nat) (c : Code) : ∀ (l : Option Nat) (a : Tr), cTab c P call lf nt l a = evCode P call lf nt c l a := by
  induction c with
  | seq x y ihx ihy =>
    intro l a
    show cSeq x y (cTab x) (cTab y) P call lf nt l a = _
    have e : cTab y P call lf nt none = evCode P call lf nt y none := funext fun a => ihy none a
    cases l with
    | none =>
      unfold cSeq evCode
      simp only [ihx, e]
      rfl
    | some l =>
      unfold cSeq evCode
      simp only [ihx, ihy, e]
      rfl
  | cond c x y ihx ihy =>
    intro l a
    show cCond c x y (cTab x) (cTab y) P call lf nt l a = _
    cases l with
    | none =>
      unfold cCond evCode
      simp only [ihx, ihy]
    | some l => rfl
  | block id x ih =>
    intro l a
    show cBlock id x (cTab x) P call lf nt l a = _
    cases l with
    | none =>
      unfold cBlock evCode
      simp only [ih]
    | some l => rfl
  | loop x ih =>
    intro l a
    show cLoop x (cTab x) P call lf nt l a = _
    cases l with
    | none =>
      unfold cLoop evCode
      rw [show cTab x P call lf nt none = evCode P call lf nt x none from funext fun a => ih none a]
    | some l => rfl
  | scope x ih =>
    intro l a
    show cScope x (cTab x) P call lf nt l a = _
    cases l with
    | none =>
      unfold cScope evCode
      rw [show cTab x P call lf nt = evCode P call lf nt x from funext fun l => funext fun a => ih l a]
    | some l => rfl
  | _ => intro l a; cases l <;> rfl

def evResults (P : Program) (a : Tr) : List ResultVar → M (List Val)
  | [] => pure []
  | .tmp t :: l => do
    let r ← evResults P a l
    pure (a.get t :: r)
  | .cell x t :: l => do
    let v ← evLoad P t (a.get x)
    let r ← evResults P a l
    pure (v :: r)

def putArgs (nt : Nat) : Nat → List Val → Tr → Option Tr
  | _, [], a => some a
  | n, v :: l, a => match evPut nt a (some n) v with
    | some a => putArgs nt (n + 1) l a
    | none => none

def evBody (P : Program) (call : CallF) (lf : Nat) (fn : Func) (c : Code) (args : List Val) : M Val := do
  must (Nat.ble fn.ntmps 65000)
  let a ← ofOpt (putArgs fn.ntmps 0 args .leaf)
  let r ← cTab c P call lf fn.ntmps none a
  match r with
  | (.normal, a) | (.ret, a) => do
    let vs ← evResults P a fn.results.toList
    match vs with
    | [v] => pure v
    | vs => pure (.tup vs)
  | _ => fail

/-- Nothing is handed back that lies in a block made by the call, and no older block was written: its blocks are let go. -/
def tidy (p : M Val) : M Val := fun s => match p { s with base := s.next, rd := [], wr := [] } with
  | some (v, s') => match v.val?.isSome && s'.wr.isEmpty with
    | true => some (v, ⟨shed s.next s'.next s'.mem, s'.next, s.base, joinN s.base s'.rd s.rd, joinN s.base s'.wr s.wr⟩)
    | false => some (v, ⟨s'.mem, s'.next, s.base, joinN s.base s'.rd s.rd, joinN s.base s'.wr s.wr⟩)
  | none => none
end

/-- Functions whose contracts are known: what they tell of their arguments. -/
abbrev Ext := FuncId → List Val → Option Val

def evFn (P : Program) (X : Ext) (F : FuncId → Option Func) (lf : Nat) : Nat → CallF
  | 0, _, _ => fail
  | n + 1, f, args => match X f args with
   | some v => pure v
   | none => match F f with
    | some fn => match fn.body with
      | some c => tidy (evBody P (evFn P X F lf n) lf fn c args)
      | none => fail
    | none => fail

def start : St := ⟨[], 0, 0, [], []⟩
def truthOf (P : Program) (X : Ext) (F : FuncId → Option Func) (lf n : Nat) (f : FuncId) (args : List Val) : Option Bool :=
  match evFn P X F lf n f args start with
  | some (.sc (.bool b), _) => some b
  | _ => none
def truth (P : Program) (X : Ext) (F : FuncId → Option Func) (lf n : Nat) (f : FuncId) (args : List Val) : Bool :=
  match truthOf P X F lf n f args with
  | some b => b
  | none => false
theorem truth_of {P : Program} {X : Ext} {F : FuncId → Option Func} {lf n : Nat} {f : FuncId} {args : List Val} (h : truth P X F lf n f args = true) : truthOf P X F lf n f args = some true := by
  unfold truth at h
  split at h
  · rename_i b hb; subst h; exact hb
  · cases h
end
end Go.Proofs.YtjgdcifbhmjinaaDoor.Ev
end
section
namespace Go.Proofs.YtjgdcifbhmjinaaDoor.Ev
open Go

inductive Own where
  | live (b o n : Nat)
  | dead
abbrev Rho := Nat → Option Own
/-- What stays as it is: blocks, the world's other parts; so many blocks are there at least. -/
structure Im where
  blk : Nat → Option Obj
  os : Os
  tape : Nat → Question → Nat
  output : Array (Nat × ByteArray)
  size : Nat
instance : CoeFun Im (fun _ => Nat → Option Obj) := ⟨Im.blk⟩

mutual
inductive VR (ρ : Rho) (I : Im) : Val → Value → Prop
  | sc {v : Value} : VR ρ I (.sc v) v
  | agg {cs : List Val} {l : List Value} : VRs ρ I cs l → VR ρ I (.agg cs) (.agg l.toArray)
  | tup {cs : List Val} {l : List Value} : VRs ρ I cs l → VR ρ I (.tup cs) (.tuple l.toArray)
  | ref {id off : Nat} {ow : Own} {a : Addr} : ρ id = some ow → (∀ b o n, ow = .live b o n → a = ⟨b, o + off, none⟩) → VR ρ I (.ref id off) (.pointer (some a))
  | row {id off len sz c : Nat} {cap : Option Nat} {ow : Own} {a : Addr} : ρ id = some ow → len ≤ c → (cap = none ∨ cap = some c) →
      (∀ b o n, ow = .live b o n → o + off + c * sz ≤ n ∧ (c = 0 ∨ a = ⟨b, o + off, none⟩)) → VR ρ I (.row id off len sz cap) (.slice (some a) len c)
  | emp {a : Addr} : VR ρ I .emp (.slice (some a) 0 0)
  | froNil {a : Addr} {c : Nat} : VR ρ I (.fro []) (.slice (some a) 0 c)
  | fro {es : List (List Val)} {b off c sz len : Nat} {cells : Array Value} {elem : TypeId} {fr : Nat × Nat} : I b = some (.cells cells elem fr) → ESR ρ I sz es (cells.toList.drop off) →
      es.length = len → len ≤ c → VR ρ I (.fro es) (.slice (some ⟨b, off, none⟩) len c)
  | fpt {cs : List Val} {b off : Nat} {cells : Array Value} {elem : TypeId} {fr : Nat × Nat} : I b = some (.cells cells elem fr) → VRs ρ I cs ((cells.toList.drop off).take cs.length) →
      VR ρ I (.fpt cs) (.pointer (some ⟨b, off, none⟩))
  | fn {f : Fn} {x y : List Val} {x' y' : List Value} : VRs ρ I x x' → VRs ρ I y y' → VR ρ I (.fn f x y) (.func f x'.toArray y'.toArray)
  | ifc {t : TypeId} {v : Val} {x : Value} : VR ρ I v x → VR ρ I (.ifc t v) (.iface t x)
  | ab {k : IntKind} {lo hi x : Int} {m r : Nat} : lo ≤ x → x ≤ hi → x % (m : Int) = r → VR ρ I (.ab k lo hi m r) (.int k x)
inductive VRs (ρ : Rho) (I : Im) : List Val → List Value → Prop
  | nil : VRs ρ I [] []
  | cons {v : Val} {x : Value} {vs : List Val} {xs : List Value} : VR ρ I v x → VRs ρ I vs xs → VRs ρ I (v :: vs) (x :: xs)
inductive ESR (ρ : Rho) (I : Im) : Nat → List (List Val) → List Value → Prop
  | enil {sz : Nat} {l : List Value} : ESR ρ I sz [] l
  | econs {sz : Nat} {e : List Val} {es : List (List Val)} {l : List Value} : e.length = sz → VRs ρ I e (l.take sz) → ESR ρ I sz es (l.drop sz) → ESR ρ I sz (e :: es) l
end

/-- What is known later: what lived may be gone. -/
def Le (ρ ρ' : Rho) : Prop := ∀ id ow, ρ id = some ow → ρ' id = some ow ∨ ρ' id = some .dead
structure Sub (I I' : Im) : Prop where
  blk : ∀ b x, I b = some x → I' b = some x
  os : I'.os = I.os
  tape : I'.tape = I.tape
  output : I'.output = I.output
  size : I'.size = I.size
/-- The world's other parts. -/
structure Env (I : Im) (w : World) : Prop where
  os : w.os = I.os
  tape : w.tape = I.tape
  output : w.output = I.output
  size : I.size ≤ w.heap.size
theorem Le.refl (ρ : Rho) : Le ρ ρ := fun _ _ h => .inl h
theorem Le.trans {ρ ρ' ρ'' : Rho} (h : Le ρ ρ') (h' : Le ρ' ρ'') : Le ρ ρ'' := fun id ow e => by
  rcases h id ow e with e' | e'
  · exact h' _ _ e'
  · rcases h' _ _ e' with e'' | e'' <;> exact .inr e''
theorem Sub.refl (I : Im) : Sub I I := ⟨fun _ _ h => h, rfl, rfl, rfl, rfl⟩
theorem Sub.trans {I I' I'' : Im} (h : Sub I I') (h' : Sub I' I'') : Sub I I'' := ⟨fun _ _ e => h'.blk _ _ (h.blk _ _ e), h'.os.trans h.os, h'.tape.trans h.tape, h'.output.trans h.output, h'.size.trans h.size⟩

section
variable {ρ ρ' : Rho} {I I' : Im}

theorem VR.mono (hl : Le ρ ρ') (hs : Sub I I') {v : Val} {x : Value} (h : VR ρ I v x) : VR ρ' I' v x := by
  induction h using VR.rec (motive_2 := fun v x _ => VRs ρ' I' v x) (motive_3 := fun n e l _ => ESR ρ' I' n e l) with
  | sc => exact .sc
  | agg _ ih => exact .agg ih
  | tup _ ih => exact .tup ih
  | ref h1 h2 =>
    rcases hl _ _ h1 with e | e
    · exact .ref e h2
    · exact .ref e (fun _ _ _ h => by cases h)
  | row h1 h2 h3 h4 =>
    rcases hl _ _ h1 with e | e
    · exact .row e h2 h3 h4
    · exact .row e h2 h3 (fun _ _ _ h => by cases h)
  | emp => exact .emp
  | froNil => exact .froNil
  | fro h1 _ h3 h4 ih => exact .fro (hs.blk _ _ h1) ih h3 h4
  | fpt h1 _ ih => exact .fpt (hs.blk _ _ h1) ih
  | fn _ _ ih1 ih2 => exact .fn ih1 ih2
  | ifc _ ih => exact .ifc ih
  | ab h1 h2 h3 => exact .ab h1 h2 h3
  | nil => exact .nil
  | cons _ _ ih1 ih2 => exact .cons ih1 ih2
  | enil => exact .enil
  | econs h1 _ _ ih1 ih2 => exact .econs h1 ih1 ih2

theorem VRs.mono (hl : Le ρ ρ') (hs : Sub I I') {v : List Val} {x : List Value} (h : VRs ρ I v x) : VRs ρ' I' v x := by
  induction v generalizing x with
  | nil => cases h; exact .nil
  | cons v vs ih => cases h with | cons h1 h2 => exact .cons (h1.mono hl hs) (ih h2)

theorem VRs.length {v : List Val} {x : List Value} (h : VRs ρ I v x) : v.length = x.length := by
  induction v generalizing x with
  | nil => cases h; rfl
  | cons v vs ih => cases h with | cons _ h2 => simp [ih h2]

theorem VRs.append {v v' : List Val} {x x' : List Value} (h : VRs ρ I v x) (h' : VRs ρ I v' x') : VRs ρ I (v ++ v') (x ++ x') := by
  induction v generalizing x with
  | nil => cases h; exact h'
  | cons v vs ih => cases h with | cons h1 h2 => exact .cons h1 (ih h2)

theorem VRs.take {v : List Val} {x : List Value} (h : VRs ρ I v x) (n : Nat) : VRs ρ I (v.take n) (x.take n) := by
  induction v generalizing x n with
  | nil => cases h; simpa using VRs.nil
  | cons v vs ih =>
    cases h with
    | cons h1 h2 =>
      cases n with
      | zero => exact .nil
      | succ n => exact .cons h1 (ih h2 n)

theorem VRs.drop {v : List Val} {x : List Value} (h : VRs ρ I v x) (n : Nat) : VRs ρ I (v.drop n) (x.drop n) := by
  induction v generalizing x n with
  | nil => cases h; simpa using VRs.nil
  | cons v vs ih =>
    cases h with
    | cons h1 h2 =>
      cases n with
      | zero => exact .cons h1 h2
      | succ n => exact ih h2 n

theorem VRs.get {v : List Val} {x : List Value} (h : VRs ρ I v x) {n : Nat} {u : Val} (hu : v[n]? = some u) : ∃ y, x[n]? = some y ∧ VR ρ I u y := by
  induction v generalizing x n with
  | nil => simp at hu
  | cons v vs ih =>
    cases h with
    | cons h1 h2 =>
      cases n with
      | zero => simp at hu; subst hu; exact ⟨_, rfl, h1⟩
      | succ n => simpa using ih h2 (by simpa using hu)

theorem VRs.of_get {v : List Val} {x : List Value} (hl : v.length = x.length) (h : ∀ (n : Nat) (u : Val) (y : Value), v[n]? = some u → x[n]? = some y → VR ρ I u y) : VRs ρ I v x := by
  induction v generalizing x with
  | nil => cases x with
    | nil => exact .nil
    | cons _ _ => simp at hl
  | cons v vs ih => cases x with
    | nil => simp at hl
    | cons y ys => exact .cons (h 0 v y rfl rfl) (ih (by simpa using hl) (fun n u z h1 h2 => h (n + 1) u z (by simpa using h1) (by simpa using h2)))

theorem VRs.map_sc (l : List Value) : VRs ρ I (l.map .sc) l := by
  induction l with
  | nil => exact .nil
  | cons x l ih => exact .cons .sc ih

theorem VRs.map {α : Type} (f : α → Val) (g : α → Value) (h : ∀ a, VR ρ I (f a) (g a)) (l : List α) : VRs ρ I (l.map f) (l.map g) := by
  induction l with
  | nil => exact .nil
  | cons x l ih => exact .cons (h x) ih

theorem VR.ofV0 (v : Value) : VR ρ I (ofV0 v) v := by
  unfold Ev.ofV0
  split
  · rename_i cs
    exact (VR.agg (VRs.map_sc cs.toList) : VR ρ I _ (.agg cs.toList.toArray))
  · exact .sc

theorem VR.ofV (v : Value) : VR ρ I (ofV v) v := by
  unfold Ev.ofV
  split
  · rename_i cs
    exact (VR.agg (VRs.map_sc cs.toList) : VR ρ I _ (.agg cs.toList.toArray))
  · rename_i cs
    have := VRs.map (ρ := ρ) (I := I) Ev.ofV0 id VR.ofV0 cs.toList
    rw [List.map_id] at this
    exact (VR.tup this : VR ρ I _ (.tuple cs.toList.toArray))
  · exact .ifc (VR.ofV0 _)
  · rename_i f a b
    exact (VR.fn (VRs.map_sc a.toList) (VRs.map_sc b.toList) : VR ρ I _ (.func f a.toList.toArray b.toList.toArray))
  · exact .sc

/-- What has no address stands for itself. -/
theorem VR.val {v : Val} {x : Value} (h : VR ρ I v x) : ∀ y, v.val? = some y → y = x := by
  induction h using VR.rec (motive_2 := fun v x _ => ∀ y, vals? v = some y → y = x) (motive_3 := fun _ _ _ _ => True) with
  | sc => intro y hy; simp [Val.val?] at hy; exact hy.symm
  | agg _ ih =>
    intro y hy
    simp only [Val.val?, Option.map_eq_some_iff] at hy
    obtain ⟨l, h1, rfl⟩ := hy
    rw [ih _ h1]
  | tup _ ih =>
    intro y hy
    simp only [Val.val?, Option.map_eq_some_iff] at hy
    obtain ⟨l, h1, rfl⟩ := hy
    rw [ih _ h1]
  | ref | row | emp | froNil | fro | fpt | ab => intro y hy; simp [Val.val?] at hy
  | fn _ _ ih1 ih2 =>
    intro y hy
    simp only [Val.val?] at hy
    split at hy
    · rename_i h1 h2
      simp at hy
      rw [← hy, ih1 _ h1, ih2 _ h2]
    · simp at hy
  | ifc _ ih =>
    intro y hy
    simp only [Val.val?, Option.map_eq_some_iff] at hy
    obtain ⟨l, h1, rfl⟩ := hy
    rw [ih _ h1]
  | nil => rename_i hy; simpa [vals?] using hy.symm
  | cons _ _ ih1 ih2 =>
    rename_i hy
    simp only [vals?] at hy
    split at hy
    · rename_i h1 h2
      simp at hy
      rw [← hy, ih1 _ h1, ih2 _ h2]
    · simp at hy
  | enil | econs => trivial

theorem VR.single {v : Val} {x : Value} (h : VR ρ I v x) (hv : v.one = true) : single x = true := by
  cases h <;> first | rfl | exact hv | (simp [Val.one] at hv)

theorem ones_one {u : Val} (hu : ones [u] = true) : u.one = true := by
  simp only [ones] at hu
  split at hu
  · assumption
  · cases hu

theorem VR.cells {v : Val} {x : Value} (h : VR ρ I v x) (hv : ones v.cells = true) : VRs ρ I v.cells x.cells.toList := by
  have h' := h
  cases h with
  | agg h => exact h
  | tup _ => simp [Val.cells, ones, Val.one] at hv
  | sc =>
    have := ones_one hv
    simp only [Val.one] at this
    cases x <;> simp [Ev.single] at this <;> exact .cons .sc .nil
  | ref _ _ => exact .cons h' .nil
  | row _ _ _ _ => exact .cons h' .nil
  | emp => exact .cons h' .nil
  | froNil => exact .cons h' .nil
  | fro _ _ _ _ => exact .cons h' .nil
  | fpt _ _ => exact .cons h' .nil
  | fn _ _ => exact .cons h' .nil
  | ifc _ => exact .cons h' .nil
  | ab _ _ _ => exact .cons h' .nil

theorem VRs.singles {v : List Val} {x : List Value} (h : VRs ρ I v x) (hv : ones v = true) : ∀ y ∈ x, single y = true := by
  induction v generalizing x with
  | nil => cases h; simp
  | cons v vs ih =>
    cases h with
    | cons h1 h2 =>
      simp only [ones] at hv
      split at hv
      · rename_i hv1
        intro y hy
        cases hy with
        | head => exact h1.single hv1
        | tail _ hy => exact ih h2 hv y hy
      · cases hv

/-- The cells of a row are each one cell's value; what is read out of a block stands for what lies there. -/
structure SR (ρ : Rho) (I : Im) (m : List (Nat × List Val)) (w : World) : Prop where
  live : ∀ id b o n, ρ id = some (.live b o n) → ∃ cs, look id m = some cs ∧ ∃ cells elem lo hi, w.heap[b]? = some (.cells cells elem (lo, hi)) ∧ cells.size = n ∧ (n ≤ lo ∨ hi ≤ lo) ∧
    o + cs.length ≤ n ∧ VRs ρ I cs ((cells.toList.drop o).take cs.length)
  mem : ∀ id cs, look id m = some cs → ∃ b o n, ρ id = some (.live b o n)
  inj : ∀ id id' b o n o' n', ρ id = some (.live b o n) → ρ id' = some (.live b o' n') → id = id'
  im : ∀ b x, I b = some x → w.heap[b]? = some x
  aside : ∀ id b o n, ρ id = some (.live b o n) → I b = none
  env : Env I w

theorem SR.drew {ρ : Rho} {I : Im} {m : List (Nat × List Val)} {w : World} (h : SR ρ I m w) : SR ρ I m w.drew :=
  ⟨fun id b o n e => h.live id b o n e, h.mem, h.inj, fun b x e => h.im b x e, h.aside, ⟨h.env.os, h.env.tape, h.env.output, h.env.size⟩⟩
end

section look
theorem look_cons (id k : Nat) (c : List Val) (m : List (Nat × List Val)) : look id ((k, c) :: m) = if k = id then some c else look id m := by
  rw [look_c]
  split
  · rename_i h; rw [if_pos (Nat.eq_of_beq_eq_true h)]
  · rename_i h; rw [if_neg (Nat.ne_of_beq_eq_false h)]
theorem look_del (id k : Nat) : ∀ m : List (Nat × List Val), look id (del k m) = if k = id then none else look id m
  | [] => by simp [look_nil, del_nil]
  | (j, c) :: m => by
    rw [del_c]
    split
    · rename_i h
      have := Nat.eq_of_beq_eq_true h
      rw [look_del id k m, look_cons]
      subst this
      split <;> simp_all
    · rename_i h
      have := Nat.ne_of_beq_eq_false h
      rw [look_cons, look_cons, look_del id k m]
      split <;> split <;> simp_all
theorem look_upd (id k : Nat) (c : List Val) : ∀ m : List (Nat × List Val), look id (upd k c m) = if k = id then (look id m).map (fun _ => c) else look id m
  | [] => by simp [look_nil, upd_nil]
  | (j, d) :: m => by
    rw [upd_c]
    split
    · rename_i h
      have := Nat.eq_of_beq_eq_true h
      subst this
      rw [look_cons, look_cons]
      split <;> simp_all
    · rename_i h
      have := Nat.ne_of_beq_eq_false h
      rw [look_cons, look_cons, look_upd id k c m]
      split <;> split <;> simp_all
theorem look_shed (id lo hi : Nat) : ∀ m : List (Nat × List Val), look id (shed lo hi m) = if lo ≤ id ∧ id < hi then none else look id m
  | [] => by simp [look_nil, shed_nil]
  | (j, d) :: m => by
    rw [shed_c]
    cases h : Nat.ble lo j && Nat.ble (j + 1) hi with
    | true =>
      simp only [Bool.and_eq_true] at h
      have h1 := Nat.le_of_ble_eq_true h.1
      have h2 := Nat.le_of_ble_eq_true h.2
      simp only
      rw [look_shed id lo hi m, look_cons]
      split
      · rfl
      · rw [if_neg (by omega)]
    | false =>
      simp only
      rw [look_cons, look_cons, look_shed id lo hi m]
      split
      · rename_i e
        subst e
        rw [if_neg]
        rintro ⟨h1, h2⟩
        rw [Nat.ble_eq_true_of_le h1, Nat.ble_eq_true_of_le h2] at h
        cases h
      · rfl
end look
end Go.Proofs.YtjgdcifbhmjinaaDoor.Ev
end
section
namespace Go.Proofs.YtjgdcifbhmjinaaDoor.Ev
open Go

section
variable {α β : Type} {s s' : St}
theorem bind_some {p : M α} {f : α → M β} {r : β × St} : (p >>= f) s = some r ↔ ∃ a s1, p s = some (a, s1) ∧ f a s1 = some r := by
  show M.bind p f s = some r ↔ _
  unfold M.bind
  cases h : p s with
  | none => simp
  | some x =>
    obtain ⟨a, s1⟩ := x
    exact ⟨fun e => ⟨a, s1, rfl, e⟩, fun ⟨a', s1', e, e'⟩ => by cases e; exact e'⟩
theorem pure_some {a : α} {r : α × St} : (pure a : M α) s = some r ↔ r = (a, s) := by
  show some (a, s) = some r ↔ _
  simp [eq_comm]
theorem pure_some' {a : α} {r : α × St} : (M.pure a : M α) s = some r ↔ r = (a, s) := pure_some
theorem fail_some {r : α × St} : (fail : M α) s = some r ↔ False := by simp [fail]
theorem must_some {b : Bool} {r : Unit × St} : must b s = some r ↔ b = true ∧ r.2 = s := by
  cases b with
  | false => simp [must, fail]
  | true => obtain ⟨x, y⟩ := r; simp only [must, pure_some']; simp [eq_comm]
theorem ofOpt_some {o : Option α} {r : α × St} : ofOpt o s = some r ↔ o = some r.1 ∧ r.2 = s := by
  cases o with
  | none => simp [ofOpt, fail]
  | some a => obtain ⟨x, y⟩ := r; simp only [ofOpt, pure_some']; simp [eq_comm]
theorem get_some {id : Nat} {r : List Val × St} : get id s = some r ↔ look id s.mem = some r.1 ∧ r.2 = { s with rd := note s.base id s.rd } := by
  unfold get
  cases h : look id s.mem with
  | none => simp
  | some b => obtain ⟨x, y⟩ := r; simp [eq_comm]
theorem set_some {id : Nat} {c : List Val} {r : Unit × St} : set id c s = some r ↔ (∃ b, look id s.mem = some b) ∧ r.2 = { s with mem := upd id c s.mem, wr := note s.base id s.wr } := by
  unfold set
  cases h : look id s.mem with
  | none => simp
  | some b => obtain ⟨x, y⟩ := r; simp [eq_comm]
theorem kill_some {id : Nat} {r : Unit × St} : kill id s = some r ↔ (∃ b, look id s.mem = some b) ∧ r.2 = { s with mem := del id s.mem, wr := note s.base id s.wr } := by
  unfold kill
  cases h : look id s.mem with
  | none => simp
  | some b => obtain ⟨x, y⟩ := r; simp [eq_comm]
theorem new_some {c : List Val} {r : Nat × St} : new c s = some r ↔ r = (s.next, { s with mem := (s.next, c) :: s.mem, next := s.next + 1 }) := by
  simp [new, eq_comm]
end

/-- What comes of a step: a value that stands for it, a memory that stands for what is there. -/
def Post (ρ : Rho) (I : Im) (s s' : St) (v : Val) (x : Value) (w' : World) : Prop :=
  ∃ ρ' I', Le ρ ρ' ∧ Sub I I' ∧ SR ρ' I' s'.mem w' ∧ VR ρ' I' v x ∧ (∀ id, ρ' id ≠ none → ρ id ≠ none ∨ s.next ≤ id ∧ id < s'.next)
def Free (ρ : Rho) (s s' : St) : Prop := ∀ id, s.next ≤ id → id < s'.next → ρ id = none

section
variable {P : Program} {ρ : Rho} {I : Im} {s s' : St} {w : World}

theorem Post.same {v : Val} {x : Value} (hsr : SR ρ I s.mem w) (hm : s'.mem = s.mem) (h : VR ρ I v x) : Post ρ I s s' v x w :=
  ⟨ρ, I, .refl _, .refl _, hm ▸ hsr, h, fun _ h => .inl h⟩

theorem cell?_of {b j : Nat} {cells : Array Value} {elem : TypeId} {fr : Nat × Nat} (h : w.heap[b]? = some (.cells cells elem fr)) : w.cell? ⟨b, j, none⟩ = cells[j]? := by
  simp [World.cell?, h]
theorem add_none (b k j : Nat) : (⟨b, k, none⟩ : Addr).add j = ⟨b, k + j, none⟩ := by
  unfold Addr.add
  split
  · rename_i h; subst h; rfl
  · rfl

theorem loadCells_ok {b k n : Nat} {cells : Array Value} {elem : TypeId} {fr : Nat × Nat} (h : w.heap[b]? = some (.cells cells elem fr)) (hn : k + n ≤ cells.size) :
    (loadCells ⟨b, k, none⟩ n).run P w = .ok (((cells.toList.drop k).take n).toArray) w := by
  have hl : ((cells.toList.drop k).take n).length = n := by simp; omega
  have := run_loadCells_list (P := P) w ⟨b, k, none⟩ ((cells.toList.drop k).take n) (fun j v hj => by
    rw [add_none, cell?_of h]
    have hj' : j < n := by
      have := (List.getElem?_eq_some_iff.1 hj).1
      omega
    rw [List.getElem?_take_of_lt hj', List.getElem?_drop] at hj
    simpa using hj)
  rwa [hl] at this

theorem isAgg_ok (t : TypeId) {d : TypeDesc} (h : P.underlying t = some d) : (isAgg t).run P w = .ok (aggD d) w := by
  unfold isAgg
  simp only [underlying, Sem.run_bind, run_program, Result.andThen, h, Sem.run_pure]
  cases d <;> rfl
theorem shape_some {t : TypeId} {r : Nat × Bool} (h : shape? P t = some r) : ∃ d i, P.underlying t = some d ∧ P.info? t = some i ∧ r.2 = aggD d ∧ r.1 = if aggD d = true then i.size else 1 := by
  unfold shape? at h
  split at h
  · rename_i d i h1 h2
    simp only [Option.some.injEq] at h
    subst h
    refine ⟨d, i, h1, h2, rfl, ?_⟩
    cases aggD d <;> rfl
  · cases h
theorem sizeOf_ok {t : TypeId} {i : TypeInfo} (h : P.info? t = some i) : (sizeOf t).run P w = .ok i.size w := by simp [sizeOf, typeInfo, h]
theorem underlying_ok {t : TypeId} {d : TypeDesc} (h : P.underlying t = some d) : (underlying t).run P w = .ok d w := by simp [underlying, h]

/-- Cells that are read, as a value of the type. -/
theorem loadVar_ok {t : TypeId} {b k : Nat} {cells : Array Value} {elem : TypeId} {fr : Nat × Nat} {cs : List Val} {v : Val} {r : Nat × Bool} (hd : shape? P t = some r)
    (h : w.heap[b]? = some (.cells cells elem fr)) (hv : shut r.2 cs = some v) (hl : cs.length = r.1)
    (hr : VRs ρ I cs ((cells.toList.drop k).take cs.length)) : ∃ y, (loadVar t ⟨b, k, none⟩).run P w = .ok y w ∧ VR ρ I v y := by
  obtain ⟨d, i, hd, hi, hr2, hr1⟩ := shape_some hd
  have hlen := hr.length
  simp only [List.length_take, List.length_drop, Array.length_toList] at hlen
  unfold loadVar
  simp only [Sem.run_bind, isAgg_ok t hd, Result.andThen]
  rw [hr2] at hv
  rw [hr1] at hl
  cases ha : aggD d with
  | true =>
    rw [ha] at hv hl
    simp only [shut, Option.some.injEq] at hv
    subst hv
    simp only [if_true] at hl
    refine ⟨_, ?_, .agg hr⟩
    by_cases h0 : i.size = 0
    · simp [sizeOf_ok hi, loadCells, loadCellsFrom, hl, h0]
    · simp [sizeOf_ok hi, loadCells_ok h (by omega : k + i.size ≤ cells.size), hl]
  | false =>
    rw [ha] at hv hl
    simp only [Bool.false_eq_true, if_false] at hl
    match cs, hl with
    | [u], _ =>
      simp only [shut, Option.some.injEq] at hv
      subst hv
      simp only [List.length_singleton] at hr hlen
      have hk : k < cells.size := by omega
      cases hr' : (cells.toList.drop k).take 1 with
      | nil => rw [hr'] at hr; cases hr
      | cons y ys =>
        rw [hr'] at hr
        cases hr with
        | cons h1 h2 =>
          refine ⟨y, ?_, h1⟩
          have hy : cells[k]? = some y := by
            have := congrArg (·[0]?) hr'
            simpa using this
          simp [load, Sem.run, cell?_of h, hy]

theorem cut_some {n off : Nat} {b cs : List Val} (h : cut n off b = some cs) : off + n ≤ b.length ∧ cs = (b.drop off).take n ∧ cs.length = n := by
  unfold cut at h
  split at h
  · rename_i h1
    have := Nat.le_of_ble_eq_true h1
    simp at h
    subst h
    exact ⟨this, rfl, by simp; omega⟩
  · cases h

/-- A part of a block that is known. -/
theorem VRs.part {cs : List Val} {l : List Value} {o off n : Nat} (h : VRs ρ I cs ((l.drop o).take cs.length)) (hn : off + n ≤ cs.length) :
    VRs ρ I ((cs.drop off).take n) ((l.drop (o + off)).take n) := by
  have := (h.drop off).take n
  rw [List.drop_take, List.drop_drop, List.take_take] at this
  rwa [Nat.min_eq_left (by omega)] at this

theorem known_some {t : TypeId} {n : Nat} (h : knownSize P t = some n) : ∃ i, P.info? t = some i ∧ i.size = n := by
  unfold knownSize at h
  cases hi : P.info? t with
  | none => simp [hi] at h
  | some i => simp [hi] at h; exact ⟨i, rfl, h⟩

theorem load_ok {t : TypeId} {a v : Val} {x : Value} (h : evLoad P t a s = some (v, s')) (hsr : SR ρ I s.mem w) (ha : VR ρ I a x) :
    ∃ y, (Instr.loadAt t x).run P w = .ok y w ∧ VR ρ I v y ∧ s'.mem = s.mem ∧ s'.next = s.next := by
  unfold evLoad at h
  simp only [bind_some, ofOpt_some] at h
  obtain ⟨r, s1, ⟨hr, rfl⟩, h⟩ := h
  cases ha with
  | ref h1 h2 =>
    simp only [bind_some, ofOpt_some, get_some] at h
    obtain ⟨b, s2, ⟨hb, hs2⟩, cs, s3, ⟨hc, hs3⟩, hv, hs'⟩ := h
    subst hs' hs3 hs2
    obtain ⟨hn, rfl, hl⟩ := cut_some hc
    obtain ⟨bb, o, n, ho⟩ := hsr.mem _ _ hb
    rw [h1] at ho
    obtain rfl := Option.some.inj ho
    obtain rfl := h2 _ _ _ rfl
    obtain ⟨cs, hcs, cells, elem, lo, hi, hw, _, _, hol, hrs⟩ := hsr.live _ _ _ _ h1
    rw [hb] at hcs
    obtain rfl := Option.some.inj hcs
    obtain ⟨y, hy, hvr⟩ := loadVar_ok (ρ := ρ) (I := I) hr hw hv hl (by rw [hl]; exact hrs.part hn)
    exact ⟨y, by simpa [Instr.loadAt, Instr.sureAddr] using hy, hvr, rfl, rfl⟩
  | fpt h1 h2 =>
    simp only [bind_some, ofOpt_some] at h
    obtain ⟨cs, s3, ⟨hc, hs3⟩, hv, hs'⟩ := h
    subst hs' hs3
    obtain ⟨hn, rfl, hl⟩ := cut_some hc
    obtain ⟨y, hy, hvr⟩ := loadVar_ok (ρ := ρ) (I := I) hr (hsr.im _ _ h1) hv hl (by rw [hl]; exact h2.part hn)
    exact ⟨y, by simpa [Instr.loadAt, Instr.sureAddr] using hy, hvr, rfl, rfl⟩
  | _ => simp only [fail_some] at h

/-- A block's content, another one. -/
def putRow (w : World) (b : Nat) (x : Obj) : World := { w with heap := w.heap.setIfInBounds b x }
theorem putRow_at {b : Nat} {x y : Obj} (h : w.heap[b]? = some y) : (putRow w b x).heap[b]? = some x := by
  have := (Array.getElem?_eq_some_iff.1 h).1
  simp [putRow, this]
theorem putRow_other {b c : Nat} {x : Obj} (h : b ≠ c) : (putRow w b x).heap[c]? = w.heap[c]? := by
  simp [putRow, Array.getElem?_setIfInBounds_ne h]
theorem putRow_putRow {b : Nat} {x y : Obj} : putRow (putRow w b x) b y = putRow w b y := by
  simp [putRow]
theorem putRow_self {b : Nat} {x : Obj} (h : w.heap[b]? = some x) : putRow w b x = w := by
  unfold putRow
  have : w.heap.setIfInBounds b x = w.heap := by
    apply Array.ext_getElem?
    intro j
    rw [Array.getElem?_setIfInBounds]
    split
    · rename_i hj
      subst hj
      have h1 := (Array.getElem?_eq_some_iff.1 h).1
      simp only [h1, if_true]
      exact h.symm
    · rfl
  rw [this]

/-- A list with a part laid over. -/
def spl (l : List Value) (k : Nat) (vs : List Value) : List Value := l.take k ++ (vs ++ l.drop (k + vs.length))
theorem spl_length {l : List Value} {k : Nat} {vs : List Value} (h : k + vs.length ≤ l.length) : (spl l k vs).length = l.length := by
  simp [spl]; omega
theorem spl_cons {l : List Value} {k : Nat} {v : Value} {vs : List Value} (h : k < l.length) : spl (l.set k v) (k + 1) vs = spl l k (v :: vs) := by
  unfold spl
  have h1 : (l.set k v).take (k + 1) = l.take k ++ [v] := by
    rw [List.take_succ_eq_append_getElem (by simpa using h), List.take_set, List.set_eq_of_length_le (by simp; omega)]
    simp
  have h2 : (l.set k v).drop (k + 1 + vs.length) = l.drop (k + 1 + vs.length) := by
    rw [List.drop_set_of_lt (by omega)]
  rw [h1, h2]
  simp [Nat.add_assoc, Nat.add_comm 1]
theorem spl_nil {l : List Value} {k : Nat} : spl l k [] = l := by simp [spl]
theorem spl_out {l : List Value} {k j : Nat} {vs : List Value} (hk : k + vs.length ≤ l.length) (h : j < k ∨ k + vs.length ≤ j) : (spl l k vs)[j]? = l[j]? := by
  unfold spl
  rcases h with h | h
  · rw [List.getElem?_append_left (by simp; omega), List.getElem?_take_of_lt h]
  · rw [List.getElem?_append_right (by simp; omega), List.getElem?_append_right (by simp; omega), List.getElem?_drop]
    congr 1
    simp
    omega
theorem spl_in {l : List Value} {k j : Nat} {vs : List Value} (hk : k + vs.length ≤ l.length) (h : j < vs.length) : (spl l k vs)[k + j]? = vs[j]? := by
  unfold spl
  rw [List.getElem?_append_right (by simp; omega), List.getElem?_append_left (by simp; omega)]
  congr 1
  simp
  omega

theorem single_oneCell {v : Value} (h : single v = true) : v.oneCell' = true := by
  cases v <;> first | rfl | (simp [single] at h)

theorem storeCells_ok {b k lo hi : Nat} {elem : TypeId} : ∀ (vs : List Value) (i : Nat) (w : World) (cells : Array Value), w.heap[b]? = some (.cells cells elem (lo, hi)) → (∀ y ∈ vs, single y = true) →
    k + i + vs.length ≤ cells.size → (cells.size ≤ lo ∨ hi ≤ lo) → (storeCells ⟨b, k, none⟩ vs i).run P w = .ok () (putRow w b (.cells (spl cells.toList (k + i) vs).toArray elem (lo, hi)))
  | [], i, w, cells, h, _, _, _ => by
    rw [spl_nil, Array.toArray_toList, putRow_self h]
    rfl
  | v :: vs, i, w, cells, h, h1, h2, h3 => by
    simp only [List.length_cons] at h2
    have hki : k + i < cells.size := by omega
    have hc : w.cell? ⟨b, k + i, none⟩ = some cells[k + i] := by rw [cell?_of h]; simp [hki]
    have hf : w.frozen? ⟨b, k + i, none⟩ = false := by
      simp only [World.frozen?, h]
      simp
      omega
    have hset : w.setCell ⟨b, k + i, none⟩ v = putRow w b (.cells (cells.setIfInBounds (k + i) v) elem (lo, hi)) := by
      unfold World.setCell putRow
      have hb := (Array.getElem?_eq_some_iff.1 h).1
      congr 1
      apply Array.ext_getElem?
      intro j
      rw [Array.getElem?_modify, Array.getElem?_setIfInBounds]
      split
      · rename_i hj
        subst hj
        simp only [h]
        rfl
      · rfl
    have ih := storeCells_ok (k := k) (b := b) (lo := lo) (hi := hi) (elem := elem) vs (i + 1) (putRow w b (.cells (cells.setIfInBounds (k + i) v) elem (lo, hi))) (cells.setIfInBounds (k + i) v) (putRow_at h)
      (fun y hy => h1 y (List.mem_cons_of_mem _ hy)) (by rw [Array.size_setIfInBounds]; omega) (by rw [Array.size_setIfInBounds]; exact h3)
    simp only [storeCells, Sem.run_bind, add_none, run_store P w _ v .plain (single_oneCell (h1 v List.mem_cons_self)), hc, hf, Bool.false_eq_true, if_false, Result.andThen, hset]
    rw [ih, putRow_putRow]
    congr 4
    rw [← spl_cons (by simpa using hki)]
    simp [Nat.add_assoc]

theorem lay_some {off : Nat} {cs b b' : List Val} (h : lay off cs b = some b') : off + cs.length ≤ b.length ∧ b' = b.take off ++ (cs ++ b.drop (off + cs.length)) ∧ b'.length = b.length := by
  unfold lay at h
  split at h
  · rename_i h1
    have := Nat.le_of_ble_eq_true h1
    simp only [Option.some.injEq] at h
    subst h
    exact ⟨this, rfl, by simp; omega⟩
  · cases h

/-- A part laid over, on both sides. -/
theorem VRs.lay {cs cs' c : List Val} {l vs : List Value} {o off : Nat} (h : VRs ρ I cs ((l.drop o).take cs.length)) (hv : VRs ρ I c vs) (hl : Ev.lay off c cs = some cs') (ho : o + cs.length ≤ l.length) :
    VRs ρ I cs' (((spl l (o + off) vs).drop o).take cs'.length) := by
  obtain ⟨h1, rfl, h2⟩ := lay_some hl
  have hvl := hv.length
  have e : ((spl l (o + off) vs).drop o).take (cs.take off ++ (c ++ cs.drop (off + c.length))).length = ((l.drop o).take cs.length).take off ++ (vs ++ ((l.drop o).take cs.length).drop (off + c.length)) := by
    rw [h2]
    apply List.ext_getElem?
    intro j
    by_cases hj : j < cs.length
    · rw [List.getElem?_take_of_lt hj, List.getElem?_drop]
      have e1 : (List.take off (List.take cs.length (List.drop o l))).length = off := by simp; omega
      by_cases hj1 : j < off
      · rw [spl_out (by omega) (by omega), List.getElem?_append_left (by omega), List.getElem?_take_of_lt hj1, List.getElem?_take_of_lt hj, List.getElem?_drop]
      · rw [List.getElem?_append_right (by omega), e1]
        by_cases hj2 : j < off + vs.length
        · rw [show o + j = o + off + (j - off) by omega, spl_in (by omega) (by omega), List.getElem?_append_left (by omega)]
        · rw [spl_out (by omega) (by omega), List.getElem?_append_right (by omega), List.getElem?_drop, List.getElem?_take_of_lt (by omega), List.getElem?_drop]
          congr 1; omega
    · rw [List.getElem?_eq_none (by simp; omega), List.getElem?_eq_none (by simp; omega)]
  rw [e]
  exact (h.take off).append (hv.append (h.drop (off + c.length)))

/-- A block is written. -/
theorem SR.set (hsr : SR ρ I s.mem w) {id b o n : Nat} {cs cs' : List Val} {cells : Array Value} {elem : TypeId} {lo hi : Nat} {l : List Value} (hid : ρ id = some (.live b o n)) (hc : look id s.mem = some cs)
    (hw : w.heap[b]? = some (.cells cells elem (lo, hi))) (hl : l.length = cells.size) (hlen : cs'.length = cs.length) (hv : VRs ρ I cs' ((l.drop o).take cs'.length)) :
    SR ρ I (upd id cs' s.mem) (putRow w b (.cells l.toArray elem (lo, hi))) := by
  obtain ⟨cs0, hcs0, cells0, elem0, lo0, hi0, hw0, hn, hfr, hol, _⟩ := hsr.live _ _ _ _ hid
  rw [hc] at hcs0
  obtain rfl := Option.some.inj hcs0
  rw [hw] at hw0
  simp only [Option.some.injEq, Obj.cells.injEq, Prod.mk.injEq] at hw0
  obtain ⟨rfl, rfl, rfl, rfl⟩ := hw0
  refine ⟨fun id' b' o' n' h' => ?_, fun id' c' h' => ?_, hsr.inj, fun b' x h' => ?_, hsr.aside, ⟨hsr.env.os, hsr.env.tape, hsr.env.output, by simp only [putRow, Array.size_setIfInBounds]; exact hsr.env.size⟩⟩
  · obtain ⟨c1, hc1, cells1, elem1, lo1, hi1, hw1, hn1, hfr1, hol1, hv1⟩ := hsr.live _ _ _ _ h'
    by_cases hb : b = b'
    · subst hb
      obtain rfl := hsr.inj _ _ _ _ _ _ _ hid h'
      rw [hid] at h'
      simp only [Option.some.injEq, Own.live.injEq, true_and] at h'
      obtain ⟨rfl, rfl⟩ := h'
      refine ⟨cs', by rw [look_upd, if_pos rfl, hc]; rfl, l.toArray, elem, lo, hi, putRow_at hw, by simp [hl, hn], by simpa using hfr, by omega, by simpa using hv⟩
    · have hne : id ≠ id' := fun e => by
        subst e
        rw [hid] at h'
        simp at h'
        exact hb h'.1
      exact ⟨c1, by rw [look_upd, if_neg hne]; exact hc1, cells1, elem1, lo1, hi1, by rw [putRow_other hb]; exact hw1, hn1, hfr1, hol1, hv1⟩
  · rw [look_upd] at h'
    split at h'
    · rename_i e
      subst e
      exact ⟨_, _, _, hid⟩
    · exact hsr.mem _ _ h'
  · have hb : b ≠ b' := fun e => by
      subst e
      rw [hsr.aside _ _ _ _ hid] at h'
      cases h'
    rw [putRow_other hb]
    exact hsr.im _ _ h'

/-- A new block. -/
def Rho.add (ρ : Rho) (k : Nat) (ow : Own) : Rho := fun id => if id = k then some ow else ρ id
theorem Le.add {ρ : Rho} {k : Nat} {ow : Own} (h : ρ k = none) : Le ρ (ρ.add k ow) := fun id o e => .inl (by
  unfold Rho.add
  rw [if_neg (fun e' => by subst e'; rw [h] at e; cases e)]
  exact e)
theorem Le.die {ρ : Rho} {k : Nat} : Le ρ (ρ.add k .dead) := fun id o e => by
  unfold Rho.add
  split
  · exact .inr rfl
  · exact .inl e
theorem SR.new (hsr : SR ρ I s.mem w) {k : Nat} {cs : List Val} {cells : Array Value} {elem : TypeId} {lo hi : Nat} (hk : ρ k = none) (hfr : cells.size ≤ lo ∨ hi ≤ lo) (hn : cs.length ≤ cells.size)
    (hv : VRs ρ I cs (cells.toList.take cs.length)) : SR (ρ.add k (.live w.heap.size 0 cells.size)) I ((k, cs) :: s.mem) (w.alloc (.cells cells elem (lo, hi))) := by
  have hle : Le ρ (ρ.add k (.live w.heap.size 0 cells.size)) := Le.add hk
  have hold : ∀ {b : Nat} {x : Obj}, w.heap[b]? = some x → (w.alloc (.cells cells elem (lo, hi))).heap[b]? = some x ∧ b ≠ w.heap.size := by
    intro b x hb
    have := (Array.getElem?_eq_some_iff.1 hb).1
    exact ⟨by simp only [World.alloc]; rw [Array.getElem?_push_lt this]; simpa [this] using hb, by omega⟩
  refine ⟨fun id b o n h' => ?_, fun id c h' => ?_, fun id id' b o n o' n' h1 h2 => ?_, fun b x h' => (hold (hsr.im _ _ h')).1, fun id b o n h' => ?_, ⟨hsr.env.os, hsr.env.tape, hsr.env.output, by rw [World.size_alloc]; exact Nat.le_succ_of_le hsr.env.size⟩⟩
  · unfold Rho.add at h'
    split at h'
    · rename_i e
      subst e
      simp only [Option.some.injEq, Own.live.injEq] at h'
      obtain ⟨rfl, rfl, rfl⟩ := h'
      exact ⟨cs, by rw [look_cons, if_pos rfl], cells, elem, lo, hi, by unfold World.alloc; simp only [Array.getElem?_push_size], rfl, hfr, by omega, (hv.mono hle (.refl _))⟩
    · rename_i e
      obtain ⟨c1, hc1, cells1, elem1, lo1, hi1, hw1, hn1, hfr1, hol1, hv1⟩ := hsr.live _ _ _ _ h'
      exact ⟨c1, by rw [look_cons, if_neg (fun h => e h.symm)]; exact hc1, cells1, elem1, lo1, hi1, (hold hw1).1, hn1, hfr1, hol1, hv1.mono hle (.refl _)⟩
  · rw [look_cons] at h'
    unfold Rho.add
    split at h'
    · rename_i e; subst e; exact ⟨_, _, _, if_pos rfl⟩
    · rename_i e
      obtain ⟨b, o, n, h⟩ := hsr.mem _ _ h'
      exact ⟨b, o, n, by rw [if_neg (fun h => e h.symm)]; exact h⟩
  · unfold Rho.add at h1 h2
    split at h1 <;> split at h2
    · simp_all
    · simp only [Option.some.injEq, Own.live.injEq] at h1
      obtain ⟨c1, hc1, cells1, elem1, lo1, hi1, hw1, _⟩ := hsr.live _ _ _ _ h2
      exact absurd h1.1.symm (hold hw1).2
    · simp only [Option.some.injEq, Own.live.injEq] at h2
      obtain ⟨c1, hc1, cells1, elem1, lo1, hi1, hw1, _⟩ := hsr.live _ _ _ _ h1
      exact absurd h2.1.symm (hold hw1).2
    · exact hsr.inj _ _ _ _ _ _ _ h1 h2
  · unfold Rho.add at h'
    split at h'
    · simp only [Option.some.injEq, Own.live.injEq] at h'
      obtain ⟨rfl, -, -⟩ := h'
      cases hI : I w.heap.size with
      | none => rfl
      | some x => exact absurd rfl (hold (hsr.im _ _ hI)).2
    · exact hsr.aside _ _ _ _ h'

theorem new_ok {cs : List Val} {cells : Array Value} {elem : TypeId} {lo hi : Nat} {k : Nat} {v : Val} {x : Value} (h : new cs s = some (k, s')) (hsr : SR ρ I s.mem w) (hf : Free ρ s s') (hfr : cells.size ≤ lo ∨ hi ≤ lo)
    (hn : cs.length ≤ cells.size) (hv : VRs ρ I cs (cells.toList.take cs.length)) (hx : ∀ ρ', ρ' k = some (.live w.heap.size 0 cells.size) → VR ρ' I v x) :
    Post ρ I s s' v x (w.alloc (.cells cells elem (lo, hi))) := by
  rw [new_some] at h
  simp only [Prod.mk.injEq] at h
  obtain ⟨rfl, rfl⟩ := h
  have hk := hf s.next (Nat.le_refl _) (Nat.lt_succ_self _)
  refine ⟨_, I, Le.add hk, .refl _, hsr.new hk hfr hn hv, hx _ (if_pos rfl), fun id h => ?_⟩
  unfold Rho.add at h
  split at h
  · rename_i e; subst e; exact .inr ⟨Nat.le_refl _, Nat.lt_succ_self _⟩
  · exact .inl h

/-- A block is let go. -/
theorem SR.kill (hsr : SR ρ I s.mem w) (k : Nat) : SR (ρ.add k .dead) I (del k s.mem) w := by
  refine ⟨fun id b o n h' => ?_, fun id c h' => ?_, fun id id' b o n o' n' h1 h2 => ?_, hsr.im, fun id b o n h' => ?_, hsr.env⟩
  · unfold Rho.add at h'
    split at h'
    · cases h'
    · rename_i e
      obtain ⟨c1, hc1, cells1, elem1, lo1, hi1, hw1, hn1, hfr1, hol1, hv1⟩ := hsr.live _ _ _ _ h'
      exact ⟨c1, by rw [look_del, if_neg (fun h => e h.symm)]; exact hc1, cells1, elem1, lo1, hi1, hw1, hn1, hfr1, hol1, hv1.mono Le.die (.refl _)⟩
  · rw [look_del] at h'
    split at h'
    · cases h'
    · rename_i e
      obtain ⟨b, o, n, h⟩ := hsr.mem _ _ h'
      exact ⟨b, o, n, by unfold Rho.add; rw [if_neg (fun h => e h.symm)]; exact h⟩
  · unfold Rho.add at h1 h2
    split at h1
    · cases h1
    · split at h2
      · cases h2
      · exact hsr.inj _ _ _ _ _ _ _ h1 h2
  · unfold Rho.add at h'
    split at h'
    · cases h'
    · exact hsr.aside _ _ _ _ h'

theorem set_ok {id b o n : Nat} {cs' : List Val} {u : Unit} {cells : Array Value} {elem : TypeId} {lo hi : Nat} {l : List Value} {v : Val} {x : Value} (h : Ev.set id cs' s = some (u, s')) (hsr : SR ρ I s.mem w) (hid : ρ id = some (.live b o n))
    {cs : List Val} (hc : look id s.mem = some cs) (hw : w.heap[b]? = some (.cells cells elem (lo, hi))) (hl : l.length = cells.size) (hlen : cs'.length = cs.length) (hv : VRs ρ I cs' ((l.drop o).take cs'.length)) (hx : VR ρ I v x) :
    Post ρ I s s' v x (putRow w b (.cells l.toArray elem (lo, hi))) := by
  rw [set_some] at h
  obtain ⟨_, rfl⟩ := h
  exact ⟨ρ, I, .refl _, .refl _, hsr.set hid hc hw hl hlen hv, hx, fun _ h => .inl h⟩

theorem store_ok {t : TypeId} {a v u : Val} {x y : Value} (h : evStore P t a v s = some (u, s')) (hsr : SR ρ I s.mem w) (ha : VR ρ I a x) (hv : VR ρ I v y) :
    ∃ w', (Instr.storeAt t x y).run P w = .ok () w' ∧ Post ρ I s s' u undef w' := by
  unfold evStore at h
  simp only [bind_some, ofOpt_some] at h
  obtain ⟨n, s1, ⟨hn, rfl⟩, h⟩ := h
  obtain ⟨i, hi, rfl⟩ := known_some hn
  cases ha with
  | @ref id off ow ad h1 h2 =>
    simp only [bind_some, ofOpt_some, get_some, must_some, pure_some] at h
    obtain ⟨_, s0, ⟨hck, rfl⟩, b, s2, ⟨hb, hs2⟩, b', s3, ⟨hlay, hs3⟩, u', s4, hset, hr⟩ := h
    simp only [Bool.and_eq_true] at hck
    have hsz := Nat.eq_of_beq_eq_true hck.1
    simp only [Prod.mk.injEq] at hr
    obtain ⟨rfl, rfl⟩ := hr
    subst hs3 hs2
    obtain ⟨bb, o, m, ho⟩ := hsr.mem _ _ hb
    rw [h1] at ho
    obtain rfl := Option.some.inj ho
    obtain rfl := h2 _ _ _ rfl
    obtain ⟨cs, hcs, cells, elem, lo, hi', hw, hm, hfr, hol, hrs⟩ := hsr.live _ _ _ _ h1
    rw [hb] at hcs
    obtain rfl := Option.some.inj hcs
    have hcell := hv.cells hck.2
    have hlen := hcell.length
    obtain ⟨hl1, hl2, hl3⟩ := lay_some hlay
    have hst := storeCells_ok (P := P) (k := o + off) y.cells.toList 0 w cells hw (hcell.singles hck.2) (by rw [← hlen]; omega) (by rw [hm]; exact hfr)
    have hp := set_ok (ρ := ρ) (I := I) (v := U) hset hsr h1 hb hw (l := spl cells.toList (o + off) y.cells.toList) (by rw [spl_length (by rw [← hlen]; simp; omega)]; simp) hl3 (hrs.lay hcell hlay (by simp; omega)) .sc
    refine ⟨_, ?_, hp⟩
    · simp only [Instr.storeAt, Instr.sureAddr, storeVar, Sem.run_bind, Sem.run_pure, Result.andThen, sizeOf_ok hi]
      rw [if_neg (by rw [← hsz, hlen]; simp)]
      exact hst
  | _ => simp only [fail_some] at h
end
end Go.Proofs.YtjgdcifbhmjinaaDoor.Ev
end
section
namespace Go.Proofs.YtjgdcifbhmjinaaDoor.Ev
open Go

section
variable {P : Program} {ρ : Rho} {I : Im} {s s' : St} {w : World}

theorem zero_some {t : TypeId} {z : Val} (h : zeroV P t = some z) : ∃ i zv, P.info? t = some i ∧ i.zero = some zv ∧ z = ofV zv ∧ ones z.cells = true := by
  unfold zeroV at h
  cases hi : P.info? t with
  | none => rw [hi] at h; simp at h
  | some i =>
    rw [hi] at h
    simp only [Option.bind_some] at h
    cases hz : i.zero with
    | none => rw [hz] at h; simp at h
    | some zv =>
      rw [hz] at h
      simp only at h
      split at h
      · rename_i h1
        simp only [Option.some.injEq] at h
        subst h
        exact ⟨i, zv, rfl, hz, rfl, h1⟩
      · cases h
theorem zero_cells {zv : Value} (h : ones (ofV zv).cells = true) : VRs ρ I (ofV zv).cells zv.cells.toList := (VR.ofV zv).cells h

theorem evNew_ok {c : List Val} {cells : Array Value} {elem : TypeId} {v : Val} (h : evNew c s = some (v, s')) (hsr : SR ρ I s.mem w) (hf : Free ρ s s') (hv : VRs ρ I c cells.toList) :
    Post ρ I s s' v (.pointer (some ⟨w.heap.size, 0, none⟩)) (w.alloc (.cells cells elem)) := by
  unfold evNew at h
  simp only [bind_some, must_some, pure_some] at h
  obtain ⟨_, s0, ⟨ho, rfl⟩, id, s1, hn, hr⟩ := h
  simp only [Prod.mk.injEq] at hr
  obtain ⟨rfl, rfl⟩ := hr
  have hl := hv.length
  refine new_ok (lo := 0) (hi := 0) hn hsr hf (.inr (Nat.le_refl _)) (by rw [hl]; simp) (by rw [List.take_of_length_le (by rw [hl]; exact Nat.le_refl _)]; exact hv) (fun ρ' h' => .ref h' (fun b o n e => ?_))
  cases e
  rfl

theorem alloc_ok {t : TypeId} {z v : Val} (hz : zeroV P t = some z) (h : evNew z.cells s = some (v, s')) (hsr : SR ρ I s.mem w) (hf : Free ρ s s') :
    ∃ x w', (Instr.alloc t true (.tuple #[])).run P w = .ok x w' ∧ Post ρ I s s' v x w' := by
  obtain ⟨i, zv, hi, hzv, rfl, h1⟩ := zero_some hz
  refine ⟨_, _, ?_, evNew_ok (elem := t) h hsr hf (zero_cells h1)⟩
  simp [Instr.alloc, zeroValue, typeInfo, hi, hzv, newVar, newRow]

theorem ones_of_new {c : List Val} {v : Val} (h : evNew c s = some (v, s')) : ones c = true := by
  unfold evNew at h
  simp only [bind_some, must_some, pure_some] at h
  obtain ⟨_, s0, ⟨ho, rfl⟩, _⟩ := h
  exact ho

theorem box_ok {t : TypeId} {x : Val} {y : Value} {v : Val} (h : evNew x.cells s = some (v, s')) (hx : VR ρ I x y) (hsr : SR ρ I s.mem w) (hf : Free ρ s s') :
    ∃ x' w', (Instr.box t y).run P w = .ok x' w' ∧ Post ρ I s s' v x' w' := by
  refine ⟨_, _, ?_, evNew_ok (elem := t) h hsr hf (hx.cells (ones_of_new h))⟩
  simp [Instr.box, newVar, newRow]

theorem foldl_spl (off : Nat) : ∀ (l : List Value) (n : Nat) (cells : Array Value), off + n + l.length ≤ cells.size →
    (l.zipIdx n).foldl (fun cs (p : Value × Nat) => cs.setIfInBounds (off + p.2) p.1) cells = (spl cells.toList (off + n) l).toArray
  | [], n, cells, _ => by simp [spl_nil]
  | v :: l, n, cells, h => by
    simp only [List.length_cons] at h
    simp only [List.zipIdx_cons, List.foldl_cons]
    rw [foldl_spl off l (n + 1) _ (by simp; omega), ← spl_cons (by simpa using (by omega : off + n < cells.size))]
    simp [Nat.add_assoc]

/-- Parts that are filled in, on both sides. -/
theorem fill_ok {place place' : Nat → Option (Nat × Nat)} (hp : ∀ i r, place i = some r → place' i = some r) : ∀ (ps : List (Nat × Val)) (ps' : List (Nat × Value)) (cs out : List Val) (cells : Array Value), fillV place cs ps = some out →
    VRs ρ I cs cells.toList → ps.map (·.1) = ps'.map (·.1) → VRs ρ I (ps.map (·.2)) (ps'.map (·.2)) → ∃ out', Instr.fill place' cells ps' = some out' ∧ VRs ρ I out out'.toList
  | [], [], cs, out, cells, h, hv, _, _ => by
    simp only [fillV, Option.some.injEq] at h
    subst h
    exact ⟨cells, rfl, hv⟩
  | (i, v) :: ps, (j, x) :: ps', cs, out, cells, h, hv, h1, h2 => by
    simp only [List.map_cons, List.cons.injEq] at h1 h2
    obtain ⟨rfl, h1⟩ := h1
    cases h2 with
    | cons h2 h3 =>
      simp only [fillV] at h
      cases hpl : place i with
      | none => rw [hpl] at h; cases h
      | some r =>
        obtain ⟨off, size⟩ := r
        rw [hpl] at h
        simp only at h
        cases hck : Nat.beq v.cells.length size && ones v.cells with
        | false => rw [hck] at h; cases h
        | true =>
          rw [hck] at h
          simp only [Bool.and_eq_true] at hck
          have hsz := Nat.eq_of_beq_eq_true hck.1
          cases hlay : lay off v.cells cs with
          | none => rw [hlay] at h; cases h
          | some c =>
            rw [hlay] at h
            simp only at h
            have hc := h2.cells hck.2
            have hcl := hc.length
            have hvl := hv.length
            obtain ⟨l1, l2, l3⟩ := lay_some hlay
            have hv' : VRs ρ I cs ((cells.toList.drop 0).take cs.length) := by
              rw [List.drop_zero, List.take_of_length_le (by omega)]; exact hv
            have hr := hv'.lay hc hlay (by omega)
            rw [List.drop_zero, Nat.zero_add, List.take_of_length_le (by rw [spl_length (by omega)]; omega)] at hr
            obtain ⟨out', ho, hvo⟩ := fill_ok hp ps ps' c out (spl cells.toList off x.cells.toList).toArray h (by simpa using hr) h1 h3
            refine ⟨out', ?_, hvo⟩
            have hsize : x.cells.size = size := by rw [← hsz, hcl]; simp
            have hxl : x.cells.toList.length = x.cells.size := by simp
            have hcells : cells.toList.length = cells.size := by simp
            simp only [Instr.fill, hp _ _ hpl]
            rw [if_neg (by simp only [hsize]; simp; omega)]
            rw [← ho]
            congr 1
            have := foldl_spl off x.cells.toList 0 cells (by omega)
            rw [Nat.add_zero] at this
            rw [← this, ← Array.foldl_toList, Array.toList_zipIdx]
  | [], _ :: _, _, _, _, _, _, h1, _ => by simp at h1
  | _ :: _, [], _, _, _, _, _, h1, _ => by simp at h1

theorem mapM_ok {α β : Type} (f : α → Sem β) (g : α → β) : ∀ (l : List α), (∀ x ∈ l, (f x).run P w = .ok (g x) w) → (l.mapM f).run P w = .ok (l.map g) w
  | [], _ => rfl
  | x :: l, h => by
    simp only [List.mapM_cons, Sem.run_bind, h x List.mem_cons_self, Result.andThen, mapM_ok f g l (fun y hy => h y (List.mem_cons_of_mem _ hy)), Sem.run_pure, List.map_cons]
theorem arrayMapM_ok {α β : Type} (f : α → Sem β) (g : α → β) (l : Array α) (h : ∀ x ∈ l, (f x).run P w = .ok (g x) w) : (l.mapM f).run P w = .ok (l.map g) w := by
  rw [Array.mapM_eq_mapM_toList, Sem.run_map, mapM_ok f g l.toList (fun x hx => h x (by simpa using hx))]
  simp only [Result.andThen]
  congr 1
  apply Array.ext'
  simp

theorem build_ok {t : TypeId} {ps : List (Nat × Val)} {ps' : Array (Nat × Value)} {v : Val} (h : evBuild P t ps = some v) (h1 : ps.map (·.1) = ps'.toList.map (·.1)) (h2 : VRs ρ I (ps.map (·.2)) (ps'.toList.map (·.2))) :
    ∃ x, (Instr.build t ps').run P w = .ok x w ∧ VR ρ I v x := by
  unfold evBuild at h
  cases hz : zeroV P t with
  | none => rw [hz] at h; cases h
  | some z =>
    rw [hz] at h
    obtain ⟨i, zv, hi, hzv, rfl, ho⟩ := zero_some hz
    simp only [Option.bind_eq_bind, Option.bind_some] at h
    have hzc := zero_cells (ρ := ρ) (I := I) ho
    have hrun : (zeroValue t).run P w = .ok zv w := by simp [zeroValue, typeInfo, hi, hzv]
    split at h
    · rename_i fields hd
      cases hall : fields.toList.all fun f => (P.info? f.type).isSome with
      | false => rw [hall] at h; cases h
      | true =>
        rw [hall] at h
        simp only at h
        cases hfl : fillV (fieldPlaces P fields) (ofV zv).cells ps with
        | none => rw [hfl] at h; cases h
        | some cs =>
          rw [hfl] at h
          simp only [Option.some.injEq] at h
          subst h
          let g : Field → Nat × Nat := fun f => (f.offset, ((P.info? f.type).map (·.size)).getD 0)
          obtain ⟨out', ho', hvo⟩ := fill_ok (place' := ((fields.map g)[·]?)) (fun i r hr => by
            rw [Array.getElem?_map]
            unfold fieldPlaces at hr
            split at hr
            · rename_i f hf
              split at hr
              · rename_i n hn
                obtain ⟨i, hif, rfl⟩ := known_some hn
                simp only [Option.some.injEq] at hr
                subst hr
                simp [g, hif, hf]
              · cases hr
            · cases hr) ps ps'.toList _ cs zv.cells hfl hzc h1 h2
          refine ⟨.agg out', ?_, (.agg hvo : VR ρ I _ (.agg out'.toList.toArray))⟩
          have hm := arrayMapM_ok (P := P) (w := w) (fun f : Field => do pure (f.offset, ← sizeOf f.type)) g fields (fun f hf => by
            have := List.all_eq_true.1 hall f (by simpa using hf)
            obtain ⟨i, hif⟩ := Option.isSome_iff_exists.1 this
            simp [sizeOf_ok hif, g, hif])
          simp only [Instr.build, Sem.run_bind, hrun, Result.andThen, underlying_ok hd]
          simp only [hm, ho']
          rfl
    · rename_i len elem hd
      cases hk : knownSize P elem with
      | none => rw [hk] at h; cases h
      | some n =>
        rw [hk] at h
        simp only [Option.bind_some] at h
        cases hfl : fillV (fun i => some (i * n, n)) (ofV zv).cells ps with
        | none => rw [hfl] at h; cases h
        | some cs =>
          rw [hfl] at h
          simp only [Option.some.injEq] at h
          subst h
          obtain ⟨i', hie, rfl⟩ := known_some hk
          obtain ⟨out', ho', hvo⟩ := fill_ok (place' := fun i => some (i * i'.size, i'.size)) (fun _ _ h => h) ps ps'.toList _ cs zv.cells hfl hzc h1 h2
          refine ⟨.agg out', ?_, (.agg hvo : VR ρ I _ (.agg out'.toList.toArray))⟩
          simp only [Instr.build, Sem.run_bind, hrun, Result.andThen, underlying_ok hd]
          simp only [sizeOf_ok hie, ho']
          rfl
    · cases h

theorem rep_length (n : Nat) (l : List Val) : (rep n l).length = n * l.length := by
  induction n with
  | zero => simp [rep]
  | succ n ih => simp [rep, ih, Nat.succ_mul]; omega
/-- Zeros, one after the other. -/
theorem rep_made {l : List Val} {z : Array Value} (h : VRs ρ I l z.toList) (n : Nat) (_ : 0 < z.size) : VRs ρ I (rep n l) (madeCells z (n * z.size)).toList := by
  have hl : l.length = z.size := by rw [h.length]; simp
  induction n with
  | zero => simp only [rep, Nat.zero_mul]; exact VRs.of_get (by simp [madeCells]) (fun n u y h => by simp at h)
  | succ n ih =>
    have e : (madeCells z ((n + 1) * z.size)).toList = z.toList ++ (madeCells z (n * z.size)).toList := by
      apply List.ext_getElem?
      intro j
      have hs : z.toList.length = z.size := by simp
      by_cases hj : j < z.size
      · rw [List.getElem?_append_left (by omega)]
        have : j < (n + 1) * z.size := by rw [Nat.succ_mul]; omega
        simp [madeCells, this, hj, Nat.mod_eq_of_lt hj]
      · rw [List.getElem?_append_right (by omega), hs]
        have e1 : j % z.size = (j - z.size) % z.size := by
          conv => lhs; rw [show j = j - z.size + z.size by omega, Nat.add_mod_right]
        by_cases hj2 : j < (n + 1) * z.size
        · have h3 : j - z.size < n * z.size := by rw [Nat.succ_mul] at hj2; omega
          simp [madeCells, hj2, h3, e1]
        · have h3 : ¬ j - z.size < n * z.size := by rw [Nat.succ_mul] at hj2; omega
          simp [madeCells, hj2, h3]
    rw [e]
    exact h.append ih

theorem slice_some {t e : TypeId} (h : sliceOf P t = some e) : P.underlying t = some (.slice e) := by
  unfold sliceOf at h
  split at h
  · rename_i h1
    simp only [Option.some.injEq] at h
    subst h
    exact h1
  · cases h

theorem fill_length : ∀ (ps : List (Nat × Val)) (c d : List Val) (pl : Nat → Option (Nat × Nat)), fillV pl c ps = some d → d.length = c.length := by
  intro ps
  induction ps with
  | nil => intro c d pl h; simp only [fillV, Option.some.injEq] at h; rw [h]
  | cons p ps ih =>
    intro c d pl h
    obtain ⟨j, u⟩ := p
    simp only [fillV] at h
    split at h
    · cases h
    · split at h
      · split at h
        · rename_i hlay
          rw [ih _ _ _ h]
          exact (lay_some hlay).2.2
        · cases h
      · cases h

theorem buildSlice_ok {t : TypeId} {len : Nat} {ps : List (Nat × Val)} {ps' : Array (Nat × Value)} {v : Val} (h : evBuildSlice P t len ps s = some (v, s')) (hsr : SR ρ I s.mem w) (hf : Free ρ s s')
    (h1 : ps.map (·.1) = ps'.toList.map (·.1)) (h2 : VRs ρ I (ps.map (·.2)) (ps'.toList.map (·.2))) : ∃ x w', (Instr.buildSlice t len ps').run P w = .ok x w' ∧ Post ρ I s s' v x w' := by
  unfold evBuildSlice at h
  simp only [bind_some, ofOpt_some, must_some, pure_some] at h
  obtain ⟨elem, s0, ⟨hd, rfl⟩, n, s1, ⟨hn, rfl⟩, z, s2, ⟨hz, rfl⟩, _, s5, ⟨hck, rfl⟩, cs, s3, ⟨hfl, rfl⟩, k, s4, hnew, hr⟩ := h
  have hd := slice_some hd
  obtain ⟨i, hi, rfl⟩ := known_some hn
  obtain ⟨i', zv, hi', hzv, rfl, ho⟩ := zero_some hz
  rw [hi] at hi'
  obtain rfl := Option.some.inj hi'
  simp only [Bool.and_eq_true] at hck
  obtain ⟨⟨c1, c2⟩, c3⟩ := hck
  have c1 := Nat.eq_of_beq_eq_true c1
  have c2 := Nat.le_of_ble_eq_true c2
  have c3 := Nat.le_of_ble_eq_true c3
  simp only [Prod.mk.injEq] at hr
  obtain ⟨rfl, rfl⟩ := hr
  have hzc := zero_cells (ρ := ρ) (I := I) ho
  have hzs : zv.cells.size = i.size := by rw [← c1, hzc.length]; simp
  have hmade := rep_made hzc len (by omega)
  rw [hzs] at hmade
  obtain ⟨out', ho', hvo⟩ := fill_ok (place' := fun j => some (j * i.size, i.size)) (fun _ _ h => h) ps ps'.toList _ cs _ hfl hmade h1 h2
  have hol := hvo.length
  have hosz : out'.size = len * i.size := by
    have := fill_length _ _ _ _ hfl
    rw [rep_length, c1] at this
    simp at hol
    omega
  refine ⟨_, _, ?_, new_ok (v := .row k 0 len i.size (some len)) (x := .slice (some ⟨w.heap.size, 0, none⟩) len len) (lo := 0) (hi := 0) (elem := elem) (cells := out') hnew hsr hf (.inr (Nat.le_refl _)) (by rw [hol]; simp)
    (by rw [List.take_of_length_le (by rw [hol]; exact Nat.le_refl _)]; exact hvo) (fun ρ' h' => .row h' (Nat.le_refl _) (.inr rfl) (fun b o n e => ?_))⟩
  · have e1 : (Array.range (len * i.size)).map (zv.cells[· % zv.cells.size]!) = madeCells zv.cells (len * i.size) := rfl
    have e2 : len * i.size = 0 → (Array.range (len * i.size)).map ((#[] : Array Value)[· % (#[] : Array Value).size]!) = madeCells zv.cells (len * i.size) := by intro h0; rw [h0]; simp [madeCells]
    simp only [Instr.buildSlice, Sem.run_bind, underlying_ok hd, Result.andThen]
    simp only [sizeOf_ok hi]
    rw [if_neg (by omega)]
    by_cases h0 : len * i.size = 0
    · simp only [h0, if_true, Sem.run_bind, Sem.run_pure, Result.andThen]
      rw [h0] at e2 ho'
      rw [e2 rfl, ho']
      rfl
    · simp only [h0, if_false, Sem.run_bind, Sem.run_pure, Result.andThen]
      have hrun : (zeroValue elem).run P w = .ok zv w := by simp [zeroValue, typeInfo, hi, hzv]
      simp only [hrun, e1, ho']
      rfl
  · cases e
    exact ⟨by omega, .inr rfl⟩

theorem natOf_some {v : Val} {n : Nat} (h : natOf v = some n) : ∃ k, v = .sc (.int k (n : Nat)) := by
  unfold natOf at h
  split at h
  · simp only [Option.some.injEq] at h; subst h; exact ⟨_, rfl⟩
  · cases h

theorem makeSlice_ok {t : TypeId} {l c v : Val} {xl xc : Value} (h : evMakeSlice P t l c s = some (v, s')) (hsr : SR ρ I s.mem w) (hf : Free ρ s s') (hl : VR ρ I l xl) (hc : VR ρ I c xc) :
    ∃ x w', (Instr.makeSlice t xl xc).run P w = .ok x w' ∧ Post ρ I s s' v x w' := by
  unfold evMakeSlice at h
  simp only [bind_some, ofOpt_some, must_some, pure_some] at h
  obtain ⟨elem, s0, ⟨hd, rfl⟩, n, s1, ⟨hn, rfl⟩, i, s2, ⟨hi, rfl⟩, z, s3, ⟨hz, rfl⟩, nl, s4, ⟨hnl, rfl⟩, nc, s5, ⟨hnc, rfl⟩, _, s6, ⟨hck, rfl⟩, k, s7, hnew, hr⟩ := h
  have hd := slice_some hd
  obtain ⟨i', hi', rfl⟩ := known_some hn
  rw [hi] at hi'
  obtain rfl := Option.some.inj hi'
  obtain ⟨i', zv, hi', hzv, rfl, ho⟩ := zero_some hz
  rw [hi] at hi'
  obtain rfl := Option.some.inj hi'
  obtain ⟨kl, rfl⟩ := natOf_some hnl
  obtain ⟨kc, rfl⟩ := natOf_some hnc
  cases hl
  cases hc
  simp only [Bool.and_eq_true] at hck
  obtain ⟨⟨⟨⟨c1, c2⟩, c3⟩, c4⟩, c5⟩ := hck
  have c1 := Nat.eq_of_beq_eq_true c1
  have c2 := Nat.le_of_ble_eq_true c2
  have c3 := Nat.le_of_ble_eq_true c3
  have c4 := Nat.le_of_ble_eq_true c4
  have c5 := Nat.le_of_ble_eq_true c5
  simp only [Prod.mk.injEq] at hr
  obtain ⟨rfl, rfl⟩ := hr
  have hzc := zero_cells (ρ := ρ) (I := I) ho
  have hzs : zv.cells.size = i.size := by rw [← c1, hzc.length]; simp
  have hmade := rep_made hzc nc (by omega)
  rw [hzs] at hmade
  have hol := hmade.length
  refine ⟨_, _, run_make w t elem i zv hd hi hzv kl kc nl nc (by omega) (by omega) (by rw [← Int.natCast_mul]; exact Int.ofNat_le.2 c4) (by omega), new_ok (lo := 0) (hi := 0) (elem := elem) (cells := madeCells zv.cells (nc * i.size)) hnew hsr hf (.inr (Nat.le_refl _)) (by rw [hol]; simp)
    (by rw [List.take_of_length_le (by rw [hol]; exact Nat.le_refl _)]; exact hmade) (fun ρ' h' => ?_)⟩
  simp only [Int.toNat_natCast]
  refine .row h' c3 (.inr rfl) (fun b o n e => ?_)
  cases e
  exact ⟨by rw [size_madeCells]; omega, .inr rfl⟩

theorem fieldAddr_ok {t : TypeId} {x v : Val} {y : Value} {f : Nat} (h : evFieldAddr P t x f = some v) (hx : VR ρ I x y) : ∃ z, (Instr.fieldAt t y f).run P w = .ok z w ∧ VR ρ I v z := by
  unfold evFieldAddr at h
  split at h
  · rename_i fields hd
    split at h
    · rename_i fd hf
      split at h
      · rename_i m hk
        obtain ⟨i, hi, hs⟩ := known_some hk
        have hrun : ∀ a : Addr, (Instr.fieldAt t (.pointer (some a)) f).run P w = .ok (.pointer (some (a.add fd.offset))) w := by
          intro a
          simp only [Instr.fieldAt, Sem.run_bind, underlying_ok hd, Result.andThen]
          simp only [hf, Instr.sureAddr, fieldPlace]
          simp [sizeOf_ok hi, hs]
        cases hx with
        | @ref id off ow ad h1 h2 =>
          simp only [Option.some.injEq] at h
          subst h
          refine ⟨_, hrun _, .ref h1 (fun b o n e => ?_)⟩
          rw [h2 b o n e, add_none, Nat.add_assoc]
        | @fpt cs b off cells elem fr h1 h2 =>
          simp only [Option.some.injEq] at h
          subst h
          refine ⟨_, hrun _, ?_⟩
          rw [add_none]
          refine .fpt h1 ?_
          have := h2.drop fd.offset
          rw [List.drop_take, List.drop_drop] at this
          simpa using this
        | _ => cases h
      · cases h
    · cases h
  · cases h

theorem ESR.get {sz : Nat} {es : List (List Val)} {l : List Value} (h : ESR ρ I sz es l) {n : Nat} {e : List Val} (he : es[n]? = some e) : e.length = sz ∧ VRs ρ I e ((l.drop (n * sz)).take sz) := by
  induction es generalizing l n with
  | nil => simp at he
  | cons e0 es ih =>
    cases h with
    | econs h1 h2 h3 =>
      cases n with
      | zero => simp at he; subst he; simpa using ⟨h1, h2⟩
      | succ n =>
        have := ih h3 (by simpa using he)
        rw [List.drop_drop, show sz + n * sz = (n + 1) * sz by rw [Nat.succ_mul]; omega] at this
        exact this

theorem sizeIs_true {t : TypeId} {n : Nat} (h : sizeIs P t n = true) : ∃ i, P.info? t = some i ∧ i.size = n := by
  unfold sizeIs at h
  split at h
  · rename_i m hm
    obtain rfl := Nat.eq_of_beq_eq_true h
    exact known_some hm
  · cases h

theorem indexAddr_ok {t : TypeId} {x i v : Val} {y j : Value} (h : evIndexAddr P t x i = some v) (hx : VR ρ I x y) (hi : VR ρ I i j) : ∃ z, (Instr.indexAt t y j).run P w = .ok z w ∧ VR ρ I v z := by
  unfold evIndexAddr at h
  split at h
  · cases h
  · rename_i n hn
    obtain ⟨k, rfl⟩ := natOf_some hn
    cases hi
    split at h
    · rename_i elem id off len sz cap hd
      cases hx with
      | @row _ _ _ _ c _ ow ad h1 h2 h3 h4 =>
        cases hck : Nat.ble (n + 1) len && sizeIs P elem sz with
        | false => rw [hck] at h; cases h
        | true =>
          rw [hck] at h
          simp only [Option.some.injEq] at h
          subst h
          simp only [Bool.and_eq_true] at hck
          have c1 := Nat.le_of_ble_eq_true hck.1
          obtain ⟨ie, hie, hs⟩ := sizeIs_true hck.2
          refine ⟨.pointer (some (ad.add (n * sz))), ?_, .ref h1 (fun b o m e => ?_)⟩
          · simp only [Instr.indexAt, asIntOf, Sem.run_bind, Sem.run_pure, Result.andThen, underlying_ok hd]
            rw [if_pos ⟨by omega, by omega⟩]
            simp [sizeOf_ok hie, hs]
          · obtain ⟨_, h6 | h6⟩ := h4 b o m e
            · omega
            · rw [h6, add_none, Nat.add_assoc]
    · rename_i elem es hd
      cases he : es[n]? with
      | none => rw [he] at h; cases h
      | some cs =>
        rw [he] at h
        simp only [Option.bind_some] at h
        cases hck : sizeIs P elem cs.length with
        | false => rw [hck] at h; cases h
        | true =>
          rw [hck] at h
          simp only [Option.some.injEq] at h
          subst h
          obtain ⟨ie, hie, hs⟩ := sizeIs_true hck
          have hlt := (List.getElem?_eq_some_iff.1 he).1
          cases hx with
          | froNil => simp at hlt
          | @fro es b off c sz len cells elem' fr h1 h2 h3 h4 =>
            obtain ⟨e1, e2⟩ := h2.get he
            refine ⟨.pointer (some ((⟨b, off, none⟩ : Addr).add (n * ie.size))), ?_, ?_⟩
            · simp only [Instr.indexAt, asIntOf, Sem.run_bind, Sem.run_pure, Result.andThen, underlying_ok hd]
              rw [if_pos ⟨by omega, by omega⟩]
              simp [sizeOf_ok hie]
            · rw [add_none]
              refine .fpt h1 ?_
              rw [List.drop_drop] at e2
              rw [e1, hs, e1]
              exact e2
    · rename_i len elem id off hd
      cases hck : Nat.ble (n + 1) len with
      | false => rw [hck] at h; cases h
      | true =>
        rw [hck] at h
        simp only [Option.map_eq_some_iff] at h
        obtain ⟨m, hm, rfl⟩ := h
        obtain ⟨ie, hie, hs⟩ := known_some hm
        have c1 := Nat.le_of_ble_eq_true hck
        cases hx with
        | @ref _ _ ow ad h1 h2 =>
          refine ⟨.pointer (some (ad.add (n * ie.size))), ?_, .ref h1 (fun b o q e => ?_)⟩
          · simp only [Instr.indexAt, asIntOf, Sem.run_bind, Sem.run_pure, Result.andThen, underlying_ok hd, Instr.sureAddr]
            rw [if_pos ⟨by omega, by omega⟩]
            simp [sizeOf_ok hie]
          · rw [h2 b o q e, add_none, Nat.add_assoc, hs]
    · rename_i len elem cs hd
      cases hck : Nat.ble (n + 1) len with
      | false => rw [hck] at h; cases h
      | true =>
        rw [hck] at h
        simp only [Option.map_eq_some_iff] at h
        obtain ⟨m, hm, rfl⟩ := h
        obtain ⟨ie, hie, hs⟩ := known_some hm
        have c1 := Nat.le_of_ble_eq_true hck
        cases hx with
        | @fpt _ b off cells elem' fr h1 h2 =>
          refine ⟨.pointer (some ((⟨b, off, none⟩ : Addr).add (n * ie.size))), ?_, ?_⟩
          · simp only [Instr.indexAt, asIntOf, Sem.run_bind, Sem.run_pure, Result.andThen, underlying_ok hd, Instr.sureAddr]
            rw [if_pos ⟨by omega, by omega⟩]
            simp [sizeOf_ok hie]
          · rw [add_none]
            refine .fpt h1 ?_
            have := h2.drop (n * m)
            rw [List.drop_take, List.drop_drop] at this
            rw [hs]
            simpa using this
    · cases h

theorem part_ok {t : TypeId} {cs : List Val} {l : List Value} {r : Nat × Bool} {off : Nat} {cs' : List Val} {v : Val} (hr : shape? P t = some r) (hc : cut r.1 off cs = some cs') (hv : shut r.2 cs' = some v) (h : VRs ρ I cs l) :
    ∃ z, (part t l.toArray off).run P w = .ok z w ∧ VR ρ I v z := by
  obtain ⟨d, i, hd, hi, hr2, hr1⟩ := shape_some hr
  obtain ⟨hn, rfl, hl⟩ := cut_some hc
  have hlen := h.length
  rw [hr2] at hv
  unfold part
  simp only [Sem.run_bind, isAgg_ok t hd, Result.andThen]
  cases ha : aggD d with
  | true =>
    rw [ha] at hv hr1
    simp only [shut, Option.some.injEq] at hv
    subst hv
    simp only [if_true] at hr1
    refine ⟨_, ?_, .agg ((h.drop off).take r.1)⟩
    simp only [if_true, Sem.run_bind, sizeOf_ok hi, Result.andThen, Sem.run_pure, ← hr1]
    congr 2
    apply Array.ext'
    simp
  | false =>
    rw [ha] at hv hr1
    simp only [Bool.false_eq_true, if_false] at hr1
    rw [hr1] at hv hl hn
    cases hd1 : cs.drop off with
    | nil => rw [hd1] at hl; simp at hl
    | cons u us =>
      rw [hd1] at hv
      simp only [shut, List.take_succ_cons, List.take_zero, Option.some.injEq] at hv
      subst hv
      have hu : cs[off]? = some u := by
        have := congrArg (·[0]?) hd1
        simpa using this
      obtain ⟨y, hy, hvr⟩ := h.get hu
      refine ⟨y, ?_, hvr⟩
      simp [hy]

theorem field_ok {t : TypeId} {x v : Val} {y : Value} {f : Nat} (h : evField P t x f = some v) (hx : VR ρ I x y) : ∃ z, (Instr.field t y f).run P w = .ok z w ∧ VR ρ I v z := by
  unfold evField at h
  split at h
  · rename_i fields hd
    split at h
    · rename_i fd cs hf
      cases hr : shape? P fd.type with
      | none => rw [hr] at h; cases h
      | some r =>
        rw [hr] at h
        simp only [Option.bind_eq_bind, Option.bind_some] at h
        cases hc : cut r.1 fd.offset cs with
        | none => rw [hc] at h; cases h
        | some cs' =>
          rw [hc] at h
          simp only [Option.bind_some] at h
          cases hx with
          | agg hx =>
            obtain ⟨z, hz, hvr⟩ := part_ok (P := P) (w := w) hr hc h hx
            refine ⟨z, ?_, hvr⟩
            simp only [Instr.field, Sem.run_bind, underlying_ok hd, Result.andThen, hf, asAgg, Sem.run_pure]
            exact hz
    · cases h
  · cases h

theorem index_ok {t : TypeId} {x i v : Val} {y j : Value} (h : evIndex P t x i = some v) (hx : VR ρ I x y) (hi : VR ρ I i j) : ∃ z, (Instr.index t y j).run P w = .ok z w ∧ VR ρ I v z := by
  unfold evIndex at h
  split at h
  · cases h
  · rename_i n hn
    obtain ⟨k, rfl⟩ := natOf_some hn
    cases hi
    split at h
    · rename_i len elem cs hd
      cases hck : Nat.ble (n + 1) len with
      | false => rw [hck] at h; cases h
      | true =>
        rw [hck] at h
        simp only at h
        have c1 := Nat.le_of_ble_eq_true hck
        cases hk : knownSize P elem with
        | none => rw [hk] at h; cases h
        | some m =>
          rw [hk] at h
          simp only [Option.bind_eq_bind, Option.bind_some] at h
          obtain ⟨ie, hie, hs⟩ := known_some hk
          cases hr : shape? P elem with
          | none => rw [hr] at h; cases h
          | some r =>
            rw [hr] at h
            simp only [Option.bind_some] at h
            cases hc : cut r.1 (n * m) cs with
            | none => rw [hc] at h; cases h
            | some cs' =>
              rw [hc] at h
              simp only [Option.bind_some] at h
              cases hx with
              | agg hx =>
                obtain ⟨z, hz, hvr⟩ := part_ok (P := P) (w := w) hr hc h hx
                refine ⟨z, ?_, hvr⟩
                simp only [Instr.index, asIntOf, Sem.run_bind, Sem.run_pure, Result.andThen, underlying_ok hd]
                rw [if_pos ⟨by omega, by omega⟩]
                simp only [Sem.run_bind, sizeOf_ok hie, Result.andThen, Int.toNat_natCast, hs]
                exact hz
    · cases h

/-- An operand that may not be there. -/
inductive OR (ρ : Rho) (I : Im) : Option Val → Option Value → Prop
  | none : OR ρ I none none
  | some {v : Val} {x : Value} : VR ρ I v x → OR ρ I (some v) (some x)
theorem optNat_some {v : Option Val} {x : Option Value} {n : Option Nat} (h : optNat v = some n) (hx : OR ρ I v x) : (n = none ∧ v = none ∧ x = none) ∨ ∃ m k, n = some m ∧ v.isSome = true ∧ x = some (.int k (m : Nat)) := by
  cases hx with
  | none => simp only [optNat, Option.some.injEq] at h; exact .inl ⟨h.symm, rfl, rfl⟩
  | some hx =>
    simp only [optNat] at h
    split at h
    · rename_i m hm
      obtain ⟨k, rfl⟩ := natOf_some hm
      cases hx
      simp only [Option.some.injEq] at h
      exact .inr ⟨m, k, h.symm, rfl, rfl⟩
    · cases h
end
end Go.Proofs.YtjgdcifbhmjinaaDoor.Ev
end
section
namespace Go.Proofs.YtjgdcifbhmjinaaDoor.Ev
open Go

section
variable {P : Program} {ρ : Rho} {I : Im} {s s' : St} {w : World}

theorem ESR.drop {sz : Nat} {es : List (List Val)} {l : List Value} (h : ESR ρ I sz es l) (n : Nat) : ESR ρ I sz (es.drop n) (l.drop (n * sz)) := by
  induction es generalizing l n with
  | nil => simpa using ESR.enil
  | cons e es ih =>
    cases h with
    | econs h1 h2 h3 =>
      cases n with
      | zero => simpa using ESR.econs h1 h2 h3
      | succ n =>
        have := ih h3 n
        rw [List.drop_drop, show sz + n * sz = (n + 1) * sz by rw [Nat.succ_mul]; omega] at this
        simpa using this
theorem ESR.take {sz : Nat} {es : List (List Val)} {l : List Value} (h : ESR ρ I sz es l) (n : Nat) : ESR ρ I sz (es.take n) l := by
  induction es generalizing l n with
  | nil => simpa using ESR.enil
  | cons e es ih =>
    cases h with
    | econs h1 h2 h3 =>
      cases n with
      | zero => simpa using ESR.enil
      | succ n => exact .econs h1 h2 (ih h3 n)
theorem ESR.flat {sz : Nat} {es : List (List Val)} {l : List Value} (h : ESR ρ I sz es l) : VRs ρ I es.flatten (l.take (es.length * sz)) := by
  induction es generalizing l with
  | nil => simpa using VRs.nil
  | cons e es ih =>
    cases h with
    | econs h1 h2 h3 =>
      have := h2.append (ih h3)
      rw [List.flatten_cons, List.length_cons, Nat.succ_mul, Nat.add_comm, List.take_add]
      exact this

theorem capGe_true {cap : Option Nat} {h c : Nat} (hc : capGe cap h = true) (hcap : cap = none ∨ cap = some c) : h ≤ c := by
  unfold capGe at hc
  rcases hcap with rfl | rfl
  · cases hc
  · exact Nat.le_of_ble_eq_true hc

/-- The bounds, out of the operands. -/
theorem bounds_ok {isS : Bool} {len c : Nat} {lo hi mx : Option Val} {lo' hi' mx' : Option Value} {l h m : Option Nat} (h1 : optNat lo = some l) (h2 : optNat hi = some h) (h3 : optNat mx = some m)
    (r1 : OR ρ I lo lo') (r2 : OR ρ I hi hi') (r3 : OR ρ I mx mx') (b1 : l.getD 0 ≤ h.getD len) (b2 : h.getD len ≤ m.getD c) (b3 : m.getD c ≤ c) (b4 : m.isSome = true → h.isSome = true) :
    (Instr.sliceBounds isS len c lo' hi' mx').run P w = .ok (l.getD 0, h.getD len, m.getD c) w := by
  have e1 := optNat_some h1 r1
  have e2 := optNat_some h2 r2
  have e3 := optNat_some h3 r3
  clear h1 h2 h3 r1 r2 r3
  have run : ∀ (k : IntKind) (i y : Nat) (code : BoundsCode), i ≤ y → (Instr.sliceBound (.int k (i : Nat)) y code).run P w = .ok i w := by
    intro k i y code hy
    rw [run_sliceBound w k i y code (by omega) (by omega)]
    simp
  rcases e1 with ⟨rfl, -, rfl⟩ | ⟨a, ka, rfl, -, rfl⟩ <;> rcases e2 with ⟨rfl, -, rfl⟩ | ⟨b, kb, rfl, -, rfl⟩ <;> rcases e3 with ⟨rfl, -, rfl⟩ | ⟨d, kd, rfl, -, rfl⟩ <;>
    simp only [Option.getD_some, Option.getD_none, Option.isSome_some, Option.isSome_none, Bool.false_eq_true, forall_const, imp_false] at b1 b2 b3 b4 <;>
    simp only [Instr.sliceBounds, Sem.run_bind, Sem.run_pure, Result.andThen, Option.getD_some, Option.getD_none]
  · rw [run kb b c _ b2]
  · rw [run kd d c _ b3]; simp only; rw [run kb b d _ b2]
  · rw [run ka a len _ b1]
  · rw [run kb b c _ b2]; simp only; rw [run ka a b _ b1]
  · rw [run kd d c _ b3]; simp only; rw [run kb b d _ b2]; simp only; rw [run ka a b _ b1]

theorem slice_row {t elem : TypeId} {i : TypeInfo} (hd : P.underlying t = some (.slice elem)) (hi : P.info? elem = some i) {a : Addr} {len c l h m : Nat} {lo hh mx : Option Value}
    (hb : (Instr.sliceBounds true len c lo hh mx).run P w = .ok (l, h, m) w) :
    (Instr.sliceAt t (.slice (some a) len c) lo hh mx).run P w = .ok (.slice (some (if m = l then a else a.add (l * i.size))) (h - l) (m - l)) w := by
  simp only [Instr.sliceAt, Sem.run_bind, underlying_ok hd, Result.andThen, Instr.slice]
  simp only [hb, sizeOf_ok hi, Sem.run_pure]
  split <;> rfl

theorem evSlice_ok {t : TypeId} {x v : Val} {y : Value} {lo hi mx : Option Val} {lo' hi' mx' : Option Value} (h : evSlice P t x lo hi mx s = some (v, s')) (hsr : SR ρ I s.mem w) (hx : VR ρ I x y)
    (r1 : OR ρ I lo lo') (r2 : OR ρ I hi hi') (r3 : OR ρ I mx mx') : ∃ z, (Instr.sliceAt t y lo' hi' mx').run P w = .ok z w ∧ VR ρ I v z ∧ s'.mem = s.mem ∧ s'.next = s.next := by
  unfold evSlice at h
  simp only [bind_some, ofOpt_some] at h
  obtain ⟨l, s0, ⟨h1, rfl⟩, hh, s1, ⟨h2, rfl⟩, m, s2, ⟨h3, rfl⟩, h⟩ := h
  cases hx with
  | @row id off len sz c cap ow ad g1 g2 g3 g4 =>
    simp only [bind_some, ofOpt_some, must_some] at h
    obtain ⟨elem, s3, ⟨hd, rfl⟩, _, s4, ⟨hck, rfl⟩, h⟩ := h
    have hd := slice_some hd
    simp only [Bool.and_eq_true, Bool.or_eq_true] at hck
    obtain ⟨⟨c1, c2⟩, c3⟩ := hck
    obtain ⟨i, hi, rfl⟩ := sizeIs_true c1
    have c2 := Nat.le_of_ble_eq_true c2
    have c5 : hh.getD len ≤ c := by
      rcases c3 with c3 | c3
      · exact Nat.le_trans (Nat.le_of_ble_eq_true c3) g2
      · exact capGe_true c3 g3
    have key : ∀ q, hh.getD len ≤ q → q ≤ c → ∀ cap', (cap' = none ∨ cap' = some (q - l.getD 0)) →
        VR ρ I (.row id (off + l.getD 0 * i.size) (hh.getD len - l.getD 0) i.size cap') (.slice (some (if q = l.getD 0 then ad else ad.add (l.getD 0 * i.size))) (hh.getD len - l.getD 0) (q - l.getD 0)) := by
      intro q q1 q2 cap' q3
      refine .row g1 (by omega) q3 (fun b o n e => ?_)
      obtain ⟨g5, g6⟩ := g4 b o n e
      have e1 : l.getD 0 * i.size + (q - l.getD 0) * i.size = q * i.size := by rw [← Nat.add_mul]; congr 1; omega
      have e2 : q * i.size ≤ c * i.size := Nat.mul_le_mul_right _ q2
      refine ⟨by omega, ?_⟩
      split
      · exact .inl (by omega)
      · rcases g6 with g6 | g6
        · exact .inl (by omega)
        · right
          rw [g6, add_none, Nat.add_assoc]
    cases m with
    | none =>
      have hb := bounds_ok (P := P) (w := w) (isS := true) (c := c) h1 h2 h3 r1 r2 r3 c2 (by simpa using c5) (by simp) (by simp)
      rw [Option.getD_none] at hb
      cases cap with
      | none =>
        simp only [pure_some, Prod.mk.injEq] at h
        obtain ⟨rfl, rfl⟩ := h
        exact ⟨_, slice_row hd hi hb, key c c5 (Nat.le_refl _) _ (.inl rfl), rfl, rfl⟩
      | some c' =>
        simp only [pure_some, Prod.mk.injEq] at h
        obtain ⟨rfl, rfl⟩ := h
        have : c' = c := by simpa using g3
        subst this
        exact ⟨_, slice_row hd hi hb, key c' c5 (Nat.le_refl _) _ (.inr rfl), rfl, rfl⟩
    | some m =>
      simp only [bind_some, must_some, pure_some, Prod.mk.injEq] at h
      obtain ⟨_, s5, ⟨hck, rfl⟩, rfl, rfl⟩ := h
      simp only [Bool.and_eq_true, Bool.or_eq_true] at hck
      obtain ⟨⟨d1, d2⟩, d3⟩ := hck
      have d2 := Nat.le_of_ble_eq_true d2
      have d3 : m ≤ c := by
        rcases d3 with d3 | d3
        · exact Nat.le_trans (Nat.le_of_ble_eq_true d3) g2
        · exact capGe_true d3 g3
      have hb := bounds_ok (P := P) (w := w) (isS := true) (c := c) h1 h2 h3 r1 r2 r3 c2 (by simpa using d2) (by simpa using d3) (fun _ => d1)
      rw [Option.getD_some] at hb
      exact ⟨_, slice_row hd hi hb, key m d2 d3 _ (.inr rfl), rfl, rfl⟩
  | @froNil ad c =>
    simp only [bind_some, ofOpt_some, must_some] at h
    obtain ⟨elem, s3, ⟨hd, rfl⟩, _, s4, ⟨hck, rfl⟩, h⟩ := h
    have hd := slice_some hd
    simp only [Bool.and_eq_true, List.length_nil] at hck
    obtain ⟨⟨⟨c0, c1⟩, c2⟩, c3⟩ := hck
    obtain ⟨sz, hk⟩ := Option.isSome_iff_exists.1 c0
    obtain ⟨i, hi, -⟩ := known_some hk
    have c2 := Nat.le_of_ble_eq_true c2
    have c3 := Nat.le_of_ble_eq_true c3
    cases m with
    | none =>
      simp only [pure_some, Prod.mk.injEq] at h
      obtain ⟨rfl, rfl⟩ := h
      have hb := bounds_ok (P := P) (w := w) (isS := true) (len := 0) (c := c) h1 h2 h3 r1 r2 r3 c2 (by simp; omega) (by simp) (by simp)
      refine ⟨_, slice_row hd hi hb, ?_, rfl, rfl⟩
      rw [show hh.getD 0 - l.getD 0 = 0 by omega]
      simpa using VR.froNil
    | some m =>
      simp only [bind_some, must_some, pure_some, Prod.mk.injEq] at h
      obtain ⟨_, s5, ⟨hck, rfl⟩, rfl, rfl⟩ := h
      simp only [Bool.and_eq_true] at hck
      obtain ⟨⟨d1, d2⟩, d3⟩ := hck
      have d3 := Nat.eq_of_beq_eq_true d3
      subst d3
      have hb := bounds_ok (P := P) (w := w) (isS := true) (len := 0) (c := c) h1 h2 h3 r1 r2 r3 c2 (by simp; omega) (by simp) (fun _ => d1)
      refine ⟨_, slice_row hd hi hb, ?_, rfl, rfl⟩
      rw [show hh.getD 0 - l.getD 0 = 0 by omega, Option.getD_some, Nat.zero_sub]
      exact .emp
  | @fro es b off c sz len cells elem' fr g1 g2 g3 g4 =>
    simp only [bind_some, ofOpt_some, must_some] at h
    obtain ⟨elem, s3, ⟨hd, rfl⟩, _, s4, ⟨hck, rfl⟩, h⟩ := h
    have hd := slice_some hd
    simp only [Bool.and_eq_true] at hck
    obtain ⟨⟨⟨c0, c1⟩, c2⟩, c3⟩ := hck
    obtain ⟨sz', hk⟩ := Option.isSome_iff_exists.1 c0
    obtain ⟨i, hi, -⟩ := known_some hk
    have c2 := Nat.le_of_ble_eq_true c2
    have c3 := Nat.le_of_ble_eq_true c3
    subst g3
    cases m with
    | none =>
      simp only [pure_some, Prod.mk.injEq] at h
      obtain ⟨rfl, rfl⟩ := h
      have hb := bounds_ok (P := P) (w := w) (isS := true) (len := es.length) (c := c) h1 h2 h3 r1 r2 r3 c2 (by simp; omega) (by simp) (by simp)
      refine ⟨_, slice_row hd hi hb, ?_, rfl, rfl⟩
      rw [Option.getD_none]
      by_cases he : hh.getD es.length - l.getD 0 = 0
      · rw [he, List.take_zero]
        exact .froNil
      · have hlt : l.getD 0 < es.length := by omega
        rw [List.getElem?_eq_getElem hlt] at c1
        simp only [sizeAt] at c1
        obtain ⟨i', hi', hs⟩ := sizeIs_true c1
        rw [hi] at hi'
        obtain rfl := Option.some.inj hi'
        have hsz : i.size = sz := by rw [hs]; exact (g2.get (List.getElem?_eq_getElem hlt)).1
        rw [if_neg (by omega), add_none, hsz]
        refine .fro (sz := sz) g1 ?_ (by simp; omega) (by omega)
        have := (g2.drop (l.getD 0)).take (hh.getD es.length - l.getD 0)
        rwa [List.drop_drop] at this
    | some m =>
      simp only [bind_some, must_some, pure_some, Prod.mk.injEq] at h
      obtain ⟨_, s5, ⟨hck, rfl⟩, rfl, rfl⟩ := h
      simp only [Bool.and_eq_true] at hck
      obtain ⟨⟨d1, d2⟩, d3⟩ := hck
      have d2 := Nat.eq_of_beq_eq_true d2
      have d3 := Nat.eq_of_beq_eq_true d3
      subst d3
      have hb := bounds_ok (P := P) (w := w) (isS := true) (len := es.length) (c := c) h1 h2 h3 r1 r2 r3 c2 (by simp; omega) (by simp) (fun _ => d1)
      refine ⟨_, slice_row hd hi hb, ?_, rfl, rfl⟩
      rw [show hh.getD es.length - l.getD 0 = 0 by omega, Option.getD_some, Nat.zero_sub]
      exact .emp
  | @ref id off ow ad g1 g2 =>
    simp only [bind_some, ofOpt_some, must_some, get_some, pure_some, Prod.mk.injEq] at h
    obtain ⟨r, s3, ⟨hd, rfl⟩, sz, s4, ⟨hk, rfl⟩, b, s5, ⟨hb, hs5⟩, _, s6, ⟨hck, hs6⟩, hv, hs'⟩ := h
    subst hs' hs6 hs5 hv
    obtain ⟨n, elem⟩ := r
    have hd : P.underlying t = some (.array n elem) := by
      unfold arrayOf at hd
      split at hd
      · rename_i h; simp only [Option.some.injEq, Prod.mk.injEq] at hd; obtain ⟨rfl, rfl⟩ := hd; exact h
      · cases hd
    dsimp only at hk hck ⊢
    obtain ⟨i, hi, rfl⟩ := known_some hk
    simp only [Bool.and_eq_true] at hck
    obtain ⟨⟨⟨c1, c2⟩, c3⟩, c4⟩ := hck
    have c1 := Nat.le_of_ble_eq_true c1
    have c2 := Nat.le_of_ble_eq_true c2
    have c3 := Nat.le_of_ble_eq_true c3
    cases m with
    | some m => simp at c4
    | none =>
      have hbd := bounds_ok (P := P) (w := w) (isS := false) (len := n) (c := n) h1 h2 h3 r1 r2 r3 c2 (by simpa using c3) (by simp) (by simp)
      rw [Option.getD_none] at hbd
      refine ⟨.slice (some (if n = l.getD 0 then ad else ad.add (l.getD 0 * i.size))) (hh.getD n - l.getD 0) (n - l.getD 0), ?_, .row g1 (by omega) (.inr rfl) (fun bb o q e => ?_), rfl, rfl⟩
      · simp only [Instr.sliceAt, Sem.run_bind, underlying_ok hd, Result.andThen, Instr.sureAddr, Sem.run_pure]
        simp only [hbd, sizeOf_ok hi]
      · have e0 := g2 bb o q e
        subst e
        obtain ⟨cs, hcs, cells, elem', lo, hi', hw, hm, hfr, hol, hrs⟩ := hsr.live _ _ _ _ g1
        rw [hb] at hcs
        obtain rfl := Option.some.inj hcs
        have e1 : l.getD 0 * i.size + (n - l.getD 0) * i.size = n * i.size := by rw [← Nat.add_mul]; congr 1; omega
        refine ⟨by omega, ?_⟩
        split
        · exact .inl (by omega)
        · right
          rw [e0, add_none, Nat.add_assoc]
  | _ => simp only [fail_some] at h

theorem srcLen_ok {x : Val} {y : Value} {n : Nat} (h : srcLen x = some n) (hx : VR ρ I x y) : (Builtin.lenOf y).run P w = .ok n w := by
  unfold srcLen at h
  split at h
  · cases hx; simp only [Option.some.injEq] at h; subst h; rfl
  · simp only [Option.some.injEq] at h
    subst h
    cases hx with
    | froNil => rfl
    | fro _ _ h3 _ => subst h3; rfl
  · cases hx; simp only [Option.some.injEq] at h; subst h; rfl
  · cases hx; simp only [Option.some.injEq] at h; subst h; rfl
  · cases hx; simp only [Option.some.injEq] at h; subst h; rfl
  · cases h

/-- A part of a block as cells to read. -/
theorem firstCells_ok {b k n sz len c : Nat} {cells : Array Value} {elem : TypeId} {fr : Nat × Nat} (h : w.heap[b]? = some (.cells cells elem fr)) (hn : k + n * sz ≤ cells.size) :
    (Builtin.firstCells sz n (.slice (some ⟨b, k, none⟩) len c)).run P w = .ok ((cells.toList.drop k).take (n * sz)).toArray w := by
  simp only [Builtin.firstCells]
  exact loadCells_ok h hn
theorem firstCells_zero {sz : Nat} {a : Addr} {len c : Nat} : (Builtin.firstCells sz 0 (.slice (some a) len c)).run P w = .ok #[] w := by
  simp [Builtin.firstCells, loadCells, loadCellsFrom]

theorem fro_all {es : List (List Val)} {sz sz' : Nat} {l : List Value} (h : (es.all fun e => Nat.beq e.length sz) = true) (hr : ESR ρ I sz' es l) (hne : es ≠ []) : sz' = sz := by
  cases hr with
  | enil => exact absurd rfl hne
  | econs h1 _ _ =>
    simp only [List.all_cons, Bool.and_eq_true] at h
    rw [← h1]
    exact Nat.eq_of_beq_eq_true h.1

theorem srcCells_ok {x : Val} {y : Value} {sz n : Nat} {cs : List Val} (h : srcCells sz x s = some (cs, s')) (hn : srcLen x = some n) (h1 : 1 ≤ sz) (hsr : SR ρ I s.mem w) (hx : VR ρ I x y) :
    ∃ l, (∀ w', w'.heap = w.heap → (Builtin.firstCells sz n y).run P w' = .ok (List.toArray l) w') ∧ VRs ρ I cs l ∧ l.length = n * sz ∧ s'.mem = s.mem ∧ s'.next = s.next := by
  unfold srcCells at h
  split at h
  · rename_i id off len sz' cap
    simp only [bind_some, must_some, get_some, ofOpt_some] at h
    obtain ⟨_, s0, ⟨hck, rfl⟩, b, s1, ⟨hb, hs1⟩, hc, hs'⟩ := h
    subst hs' hs1
    obtain rfl := Nat.eq_of_beq_eq_true hck
    simp only [srcLen, Option.some.injEq] at hn
    subst hn
    cases hx with
    | @row _ _ _ _ c _ ow ad g1 g2 g3 g4 =>
      obtain ⟨bb, o, m, ho⟩ := hsr.mem _ _ hb
      rw [g1] at ho
      obtain rfl := Option.some.inj ho
      obtain ⟨g5, g6⟩ := g4 _ _ _ rfl
      obtain ⟨b', hb', cells, elem, lo, hi, hw, hm, hfr, hol, hrs⟩ := hsr.live _ _ _ _ g1
      rw [hb] at hb'
      obtain rfl := Option.some.inj hb'
      obtain ⟨hn, rfl, hl⟩ := cut_some hc
      have hcl : cells.toList.length = cells.size := by simp
      refine ⟨(cells.toList.drop (o + off)).take (len * sz'), fun w' hw' => ?_, hrs.part hn, by simp; omega, rfl, rfl⟩
      rcases g6 with g6 | g6
      · have h0 : len = 0 := by omega
        subst h0
        rw [firstCells_zero]
        simp
      · subst g6
        exact firstCells_ok (by rw [hw']; exact hw) (by omega)
  · rename_i es
    simp only [bind_some, must_some, pure_some, Prod.mk.injEq] at h
    obtain ⟨_, s0, ⟨hck, rfl⟩, rfl, rfl⟩ := h
    simp only [srcLen, Option.some.injEq] at hn
    subst hn
    cases hx with
    | froNil => exact ⟨[], fun w' _ => by rw [List.length_nil, firstCells_zero], by simpa using VRs.nil, by simp, rfl, rfl⟩
    | @fro es b off c sz' len cells elem' fr g1 g2 g3 g4 =>
      by_cases hne : es = []
      · subst hne
        exact ⟨[], fun w' _ => by rw [List.length_nil, firstCells_zero], by simpa using VRs.nil, by simp, rfl, rfl⟩
      · obtain rfl := fro_all hck g2 hne
        have hf := g2.flat
        have hlen := hf.length
        have hfl : es.flatten.length = es.length * sz' := by
          clear g1 g2 g3 g4 hf hlen hne
          induction es with
          | nil => simp
          | cons e es ih =>
            simp only [List.all_cons, Bool.and_eq_true] at hck
            rw [List.flatten_cons, List.length_append, ih hck.2, Nat.eq_of_beq_eq_true hck.1, List.length_cons, Nat.succ_mul]
            omega
        refine ⟨_, fun w' hw' => firstCells_ok (by rw [hw']; exact hsr.im _ _ g1) ?_, hf, by rw [← hlen, hfl], rfl, rfl⟩
        rw [hfl] at hlen
        simp at hlen
        by_cases h0 : es.length * sz' = 0
        · have : es.length ≠ 0 := fun e => hne (List.eq_nil_of_length_eq_zero e)
          rcases Nat.mul_eq_zero.1 h0 with h | h
          · exact absurd h this
          · omega
        · omega
  · simp only [pure_some, Prod.mk.injEq] at h
    obtain ⟨rfl, rfl⟩ := h
    cases hx
    simp only [srcLen, Option.some.injEq] at hn
    subst hn
    exact ⟨[], fun w' _ => by rw [firstCells_zero], .nil, by simp, rfl, rfl⟩
  · simp only [pure_some, Prod.mk.injEq] at h
    obtain ⟨rfl, rfl⟩ := h
    cases hx
    simp only [srcLen, Option.some.injEq] at hn
    subst hn
    exact ⟨[], fun w' _ => by simp [Builtin.firstCells], .nil, by simp, rfl, rfl⟩
  · rename_i str
    simp only [bind_some, must_some, pure_some, Prod.mk.injEq] at h
    obtain ⟨_, s0, ⟨hck, rfl⟩, rfl, rfl⟩ := h
    cases hx
    simp only [srcLen, Option.some.injEq] at hn
    subst hn
    obtain rfl := Nat.eq_of_beq_eq_true hck
    refine ⟨str.data.toList.map fun b => .int .u8 b.toNat, fun w' _ => ?_, VRs.map _ _ (fun _ => .sc) _, ?_, rfl, rfl⟩
    · simp only [Builtin.firstCells, Sem.run_pure]
      congr 1
      apply Array.ext'
      have : (str.extract 0 str.size) = str := by simp
      rw [this]
      simp
    · simp
  · simp only [fail_some] at h

def noInt : TypeDesc → Bool
  | .int _ => false
  | _ => true
theorem isInt_ok {u : TypeId} (h : isInt P u = some false) : ∃ d, P.underlying u = some d ∧ noInt d = true := by
  unfold isInt at h
  cases hd : P.underlying u with
  | none => rw [hd] at h; cases h
  | some d =>
    rw [hd] at h
    refine ⟨d, rfl, ?_⟩
    cases d <;> first | rfl | (simp at h)

theorem andThen_bool {α : Type} {b : Bool} (f : Bool → World → Result α) (hb : b = false) : (Result.ok b w).andThen f = f false w := by subst hb; rfl

/-- An append behind the end, in its place. -/
theorem append_here {ts : Array TypeId} {ty t u e : TypeId} {i : TypeInfo} {a : Addr} {sLen sCap n : Nat} {y : Value} {news : List Value} {w1 : World} (h0 : ts[0]? = some t) (h1 : ts[1]? = some u) (ht : P.underlying t = some (.slice e))
    (hu : isInt P u = some false) (hi : P.info? e = some i) (hlen : (Builtin.lenOf y).run P w = .ok n w) (hsrc : (Builtin.firstCells i.size n y).run P w = .ok news.toArray w) (hc : sLen + n ≤ sCap)
    (hst : (storeCells (a.add (sLen * i.size)) news).run P w = .ok () w1) : (Builtin.append_ ts ty #[.slice (some a) sLen sCap, y]).run P w = .ok (.slice (some a) (sLen + n) sCap) w1 := by
  obtain ⟨d, hd, hd'⟩ := isInt_ok hu
  unfold Builtin.append_
  simp only [h0, h1, List.getElem?_toArray, List.getElem?_cons_zero, List.getElem?_cons_succ]
  rw [Sem.run_bind, underlying_ok ht]
  simp only [Result.andThen]
  rw [Sem.run_bind, sizeOf_ok hi]
  simp only [Result.andThen]
  rw [Sem.run_bind, underlying_ok hd]
  simp only [Result.andThen]
  rw [Sem.run_bind, Sem.run_pure, andThen_bool]
  · simp only [Result.andThen, Bool.false_eq_true, if_false, Sem.run_bind, hlen, hc, if_true, Bool.not_false, hsrc, hst, Sem.run_pure]
  · cases d <;> first | rfl | (simp [noInt] at hd')

/-- An append to a new place. -/
theorem append_there {ts : Array TypeId} {ty t u e : TypeId} {i : TypeInfo} {zv : Value} {a : Option Addr} {sLen sCap n : Nat} {y : Value} {news olds : List Value} (h0 : ts[0]? = some t) (h1 : ts[1]? = some u)
    (ht : P.underlying t = some (.slice e)) (hu : isInt P u = some false) (hi : P.info? e = some i) (hz : i.zero = some zv) (hlen : (Builtin.lenOf y).run P w = .ok n w)
    (hsrc : (Builtin.firstCells i.size n y).run P w.drew = .ok news.toArray w.drew) (hold : (Builtin.firstCells i.size sLen (.slice a sLen sCap)).run P w.drew = .ok olds.toArray w.drew) (hc : ¬ sLen + n ≤ sCap)
    (hb : i.bytes ≤ 65536) (hn : sLen + n ≤ 1073741824) : (Builtin.append_ ts ty #[.slice a sLen sCap, y]).run P w =
      .ok (.slice (some ⟨w.heap.size, 0, none⟩) (sLen + n) (grownCap w (sLen + n) sCap e)) (w.drew.alloc (.cells (olds ++ (news ++ (Builtin.zeroCells zv.cells (grownCap w (sLen + n) sCap e - (sLen + n))).toList)).toArray e)) := by
  obtain ⟨d, hd, hd'⟩ := isInt_ok hu
  have hfit := growslice_fits (need := sLen + n) (old := sCap) (bytes := i.bytes) (by omega) (by
    have := Nat.mul_le_mul hn hb
    omega)
  have c1 : ¬ (9223372036854775807 < ((sLen : Int) + (n : Int))) := by omega
  have c2 : ¬ (281474976710656 < Builtin.nextslicecap (sLen + n) sCap * i.bytes) := by omega
  unfold Builtin.append_
  simp only [h0, h1, List.getElem?_toArray, List.getElem?_cons_zero, List.getElem?_cons_succ]
  rw [Sem.run_bind, underlying_ok ht]
  simp only [Result.andThen]
  rw [Sem.run_bind, sizeOf_ok hi]
  simp only [Result.andThen]
  rw [Sem.run_bind, underlying_ok hd]
  simp only [Result.andThen]
  rw [Sem.run_bind, Sem.run_pure, andThen_bool]
  · simp [typeInfo, zeroValue, hi, hz, hlen, hc, hsrc, hold, c1, c2, Question.forced, newRow, grownCap]
    congr 2
    apply Array.ext'
    simp
  · cases d <;> first | rfl | (simp [noInt] at hd')

theorem grownCap_le (need old : Nat) (e : TypeId) : need ≤ grownCap w need old e := by
  unfold grownCap Question.cut
  exact Nat.le_add_right _ _
theorem zeroCells_size (z : Array Value) (n : Nat) : (Builtin.zeroCells z n).size = n * z.size := by simp [Builtin.zeroCells]

/-- A block's rest is handed on to a new name, at its place. -/
theorem SR.move (hsr : SR ρ I s.mem w) {id b o n k o' : Nat} {cs' : List Val} {cells : Array Value} {elem : TypeId} {lo hi : Nat} {l : List Value} (hid : ρ id = some (.live b o n)) (hk : ρ k = none)
    (hw : w.heap[b]? = some (.cells cells elem (lo, hi))) (hl : l.length = cells.size) (hlen : o' + cs'.length ≤ cells.size) (hv : VRs ρ I cs' ((l.drop o').take cs'.length)) :
    SR ((ρ.add id .dead).add k (.live b o' n)) I ((k, cs') :: del id s.mem) (putRow w b (.cells l.toArray elem (lo, hi))) := by
  obtain ⟨cs0, hcs0, cells0, elem0, lo0, hi0, hw0, hn, hfr, hol, _⟩ := hsr.live _ _ _ _ hid
  rw [hw] at hw0
  simp only [Option.some.injEq, Obj.cells.injEq, Prod.mk.injEq] at hw0
  obtain ⟨rfl, rfl, rfl, rfl⟩ := hw0
  have hki : k ≠ id := fun e => by subst e; rw [hk] at hid; cases hid
  have hk' : (ρ.add id .dead) k = none := by unfold Rho.add; rw [if_neg hki]; exact hk
  have hle : Le ρ ((ρ.add id .dead).add k (.live b o' n)) := Le.die.trans (Le.add hk')
  have val : ∀ j own, ((ρ.add id .dead).add k (.live b o' n)) j = some own → (j = k ∧ own = .live b o' n) ∨ (j ≠ k ∧ j = id ∧ own = .dead) ∨ (j ≠ k ∧ j ≠ id ∧ ρ j = some own) := by
    intro j own h
    unfold Rho.add at h
    split at h
    · rename_i e; simp only [Option.some.injEq] at h; exact .inl ⟨e, h.symm⟩
    · rename_i e
      split at h
      · rename_i e'; simp only [Option.some.injEq] at h; exact .inr (.inl ⟨e, e', h.symm⟩)
      · rename_i e'; exact .inr (.inr ⟨e, e', h⟩)
  have nb : ∀ j b' o1 n1, j ≠ id → ρ j = some (.live b' o1 n1) → b ≠ b' := fun j b' o1 n1 hj h e => by
    subst e
    exact hj (hsr.inj _ _ _ _ _ _ _ h hid)
  refine ⟨fun j b1 o1 n1 h => ?_, fun j c h => ?_, fun j j' b1 o1 n1 o2 n2 h h' => ?_, fun b1 x h => ?_, fun j b1 o1 n1 h => ?_, ⟨hsr.env.os, hsr.env.tape, hsr.env.output, by simp only [putRow, Array.size_setIfInBounds]; exact hsr.env.size⟩⟩
  · rcases val j _ h with ⟨e, q⟩ | ⟨_, _, q⟩ | ⟨h1, h2, q⟩
    · simp only [Own.live.injEq] at q
      obtain ⟨rfl, rfl, rfl⟩ := q
      exact ⟨cs', by rw [look_cons, if_pos e.symm], l.toArray, elem, lo, hi, putRow_at hw, by simp [hl, hn], by simpa using hfr, by omega, by simpa using hv.mono hle (.refl _)⟩
    · cases q
    · obtain ⟨c1, hc1, cells1, elem1, lo1, hi1, hw1, hn1, hfr1, hol1, hv1⟩ := hsr.live _ _ _ _ q
      exact ⟨c1, by rw [look_cons, if_neg (fun h => h1 h.symm), look_del, if_neg (fun h => h2 h.symm)]; exact hc1, cells1, elem1, lo1, hi1, by rw [putRow_other (nb _ _ _ _ h2 q)]; exact hw1, hn1, hfr1, hol1, hv1.mono hle (.refl _)⟩
  · rw [look_cons] at h
    unfold Rho.add
    split at h
    · rename_i e; subst e; exact ⟨_, _, _, if_pos rfl⟩
    · rename_i e
      rw [look_del] at h
      split at h
      · cases h
      · rename_i e'
        obtain ⟨b1, o1, n1, q⟩ := hsr.mem _ _ h
        exact ⟨b1, o1, n1, by rw [if_neg (fun h => e h.symm), if_neg (fun h => e' h.symm)]; exact q⟩
  · rcases val j _ h with ⟨e, q⟩ | ⟨_, _, q⟩ | ⟨h1, h2, q⟩ <;> rcases val j' _ h' with ⟨e', q'⟩ | ⟨_, _, q'⟩ | ⟨h3, h4, q'⟩
    · rw [e, e']
    · cases q'
    · simp only [Own.live.injEq] at q
      obtain ⟨rfl, rfl, rfl⟩ := q
      exact absurd rfl (nb _ _ _ _ h4 q')
    · cases q
    · cases q
    · cases q
    · simp only [Own.live.injEq] at q'
      obtain ⟨rfl, rfl, rfl⟩ := q'
      exact absurd rfl (nb _ _ _ _ h2 q)
    · cases q'
    · exact hsr.inj _ _ _ _ _ _ _ q q'
  · have hb : b ≠ b1 := fun e => by
      subst e
      rw [hsr.aside _ _ _ _ hid] at h
      cases h
    rw [putRow_other hb]
    exact hsr.im _ _ h
  · rcases val j _ h with ⟨e, q⟩ | ⟨_, _, q⟩ | ⟨h1, h2, q⟩
    · simp only [Own.live.injEq] at q
      obtain ⟨rfl, rfl, rfl⟩ := q
      exact hsr.aside _ _ _ _ hid
    · cases q
    · exact hsr.aside _ _ _ _ q

/-- A new row: what was there, what is appended, and room. -/
theorem grown_ok {k : Nat} {cs new' : List Val} {olds news : List Value} {sz need old : Nat} {zv : Value} {e : TypeId} {s1 : St} (h : Ev.new (cs ++ new') s1 = some (k, s')) (hsr : SR ρ I s1.mem w) (hf : Free ρ s1 s') (ho : VRs ρ I cs olds) (hn : VRs ρ I new' news)
    (hz : zv.cells.size = sz) (hl : olds.length + news.length = need * sz) :
    Post ρ I s1 s' (.row k 0 need sz none) (.slice (some ⟨w.heap.size, 0, none⟩) need (grownCap w need old e)) (w.drew.alloc (.cells (olds ++ (news ++ (Builtin.zeroCells zv.cells (grownCap w need old e - need)).toList)).toArray e)) := by
  have hg := grownCap_le (w := w) need old e
  have hall := ho.append hn
  have hlen := hall.length
  simp only [List.length_append] at hlen
  refine new_ok (w := w.drew) (lo := 0) (hi := 0) h hsr.drew hf (.inr (Nat.le_refl _)) (by simp; omega) ?_ (fun ρ' h' => .row h' hg (.inl rfl) (fun b o n e' => ?_))
  · simp only
    rw [← List.append_assoc, List.take_append_of_le_length (by simp; omega), List.take_of_length_le (by simp; omega)]
    exact hall
  · cases e'
    refine ⟨?_, .inr rfl⟩
    simp only [List.size_toArray, List.length_append, Array.length_toList, zeroCells_size, hz]
    have e1 : need * sz + (grownCap w need old e - need) * sz = grownCap w need old e * sz := by rw [← Nat.add_mul]; congr 1; omega
    omega

theorem append_ok {ts : Array TypeId} {ty t u : TypeId} {a x v : Val} {y z : Value} (h : evAppend P t u a x s = some (v, s')) (hsr : SR ρ I s.mem w) (hf : Free ρ s s') (h0 : ts[0]? = some t) (h1 : ts[1]? = some u)
    (ha : VR ρ I a z) (hx : VR ρ I x y) : ∃ r w', (Builtin.append_ ts ty #[z, y]).run P w = .ok r w' ∧ Post ρ I s s' v r w' := by
  unfold evAppend at h
  simp only [bind_some, ofOpt_some, must_some] at h
  obtain ⟨elem, s0, ⟨hd, rfl⟩, int, s1, ⟨hint, rfl⟩, sz, s2, ⟨hk, rfl⟩, i, s3, ⟨hi, rfl⟩, zz, s4, ⟨hz, rfl⟩, n, s5, ⟨hn, rfl⟩, _, s6, ⟨hck, rfl⟩, h⟩ := h
  have hd := slice_some hd
  obtain ⟨i', hi', rfl⟩ := known_some hk
  rw [hi] at hi'
  obtain rfl := Option.some.inj hi'
  obtain ⟨i', zv, hi', hzv, rfl, ho⟩ := zero_some hz
  rw [hi] at hi'
  obtain rfl := Option.some.inj hi'
  simp only [Bool.and_eq_true, Bool.not_eq_true'] at hck
  obtain ⟨⟨⟨c0, c1⟩, c2⟩, c3⟩ := hck
  subst c0
  have c1 := Nat.le_of_ble_eq_true c1
  have c2 := Nat.le_of_ble_eq_true c2
  have hlen := srcLen_ok (P := P) (w := w) hn hx
  cases n with
  | zero =>
    simp only [pure_some, Prod.mk.injEq] at h
    obtain ⟨rfl, rfl⟩ := h
    have hsrc : (Builtin.firstCells i.size 0 y).run P w = .ok ([] : List Value).toArray w := by
      unfold srcLen at hn
      split at hn
      · cases hx; rw [firstCells_zero]
      · cases hx <;> rw [firstCells_zero]
      · cases hx; rw [firstCells_zero]
      · cases hx; simp [Builtin.firstCells]
      · rename_i str
        cases hx
        simp only [Option.some.injEq] at hn
        simp only [Builtin.firstCells, Sem.run_pure]
        congr 1
        apply Array.ext'
        simp
      · cases hn
    have here : ∀ a' sLen sCap, z = .slice (some a') sLen sCap → sLen ≤ sCap → (Builtin.append_ ts ty #[z, y]).run P w = .ok z w := by
      intro a' sLen sCap e hle
      subst e
      exact append_here h0 h1 hd hint hi hlen hsrc (by omega) rfl
    cases ha with
    | row g1 g2 g3 g4 => exact ⟨_, _, here _ _ _ rfl g2, .same hsr rfl (.row g1 g2 g3 g4)⟩
    | emp => exact ⟨_, _, here _ _ _ rfl (Nat.le_refl _), .same hsr rfl .emp⟩
    | froNil => exact ⟨_, _, here _ _ _ rfl (Nat.zero_le _), .same hsr rfl .froNil⟩
    | fro g1 g2 g3 g4 => exact ⟨_, _, here _ _ _ rfl g4, .same hsr rfl (.fro g1 g2 g3 g4)⟩
    | sc =>
      unfold isRow at c3
      split at c3 <;> first
        | (rename_i e; cases e; done)
        | skip
      · rename_i e
        cases e
        obtain ⟨d, hdu, hd'⟩ := isInt_ok hint
        refine ⟨.slice none 0 0, w, ?_, .same hsr rfl .sc⟩
        unfold Builtin.append_
        simp only [h0, h1, List.getElem?_toArray, List.getElem?_cons_zero, List.getElem?_cons_succ]
        rw [Sem.run_bind, underlying_ok hd]
        simp only [Result.andThen]
        rw [Sem.run_bind, sizeOf_ok hi]
        simp only [Result.andThen]
        rw [Sem.run_bind, underlying_ok hdu]
        simp only [Result.andThen]
        rw [Sem.run_bind, Sem.run_pure, andThen_bool]
        · simp [hlen, hsrc]
        · cases d <;> first | rfl | (simp [noInt] at hd')
      · cases c3
    | _ => cases c3
  | succ n =>
    simp only [bind_some, must_some] at h
    obtain ⟨new', s7, hsc, _, s8, ⟨hzl, hs8⟩, h⟩ := h
    subst hs8
    obtain ⟨news, hsrc, hnv, hnl, hm7, hx7⟩ := srcCells_ok (P := P) hsc hn c1 hsr hx
    simp only [Bool.and_eq_true] at hzl
    obtain ⟨hzl, hones⟩ := hzl
    have hzl := Nat.eq_of_beq_eq_true hzl
    have hzs : zv.cells.size = i.size := by rw [← hzl, (zero_cells (ρ := ρ) (I := I) ho).length]; simp
    have hsr7 : SR ρ I s8.mem w := hm7 ▸ hsr
    have hf7 : Free ρ s8 s' := by unfold Free at *; rw [hx7]; exact hf
    have back : ∀ {v r w'}, Post ρ I s8 s' v r w' → Post ρ I s6 s' v r w' := by
      intro v r w' hp
      unfold Post at *
      rw [hx7] at hp
      exact hp
    have hnl2 := hnv.length
    have emptyCase : ∀ (a' : Option Addr) (c : Nat) k, z = .slice a' 0 0 → n + 1 ≤ 1073741824 → Ev.new new' s8 = some (k, s') → v = .row k 0 (n + 1) i.size none → ∃ r w', (Builtin.append_ ts ty #[z, y]).run P w = .ok r w' ∧ Post ρ I s6 s' v r w' := by
      intro a' c k e hle hnew hv
      subst e hv
      have hp := grown_ok (e := elem) (need := n + 1) (old := 0) (cs := []) (olds := []) (sz := i.size) hnew hsr7 hf7 .nil hnv hzs (by simp; omega)
      refine ⟨_, _, ?_, back hp⟩
      have := append_there (P := P) (w := w) (ty := ty) (a := a') (sLen := 0) (sCap := 0) (olds := []) h0 h1 hd hint hi hzv hlen (hsrc _ rfl) (by
        cases a' with
        | none => simp [Builtin.firstCells]
        | some a' => rw [firstCells_zero]) (by omega) c2 (by omega)
      rw [Nat.zero_add] at this
      exact this
    unfold evGrow at h
    split at h
    · rename_i id off len sz' cap
      simp only [bind_some, must_some, get_some] at h
      obtain ⟨_, s9, ⟨hck, hs9⟩, b, s10, ⟨hb, hs10⟩, h⟩ := h
      subst hs10 hs9
      simp only [Bool.and_eq_true] at hck
      obtain ⟨d1, d2⟩ := hck
      have d1 := Nat.eq_of_beq_eq_true d1
      have d2 := Nat.le_of_ble_eq_true d2
      subst d1
      cases ha with
      | @row _ _ _ _ c _ ow ad g1 g2 g3 g4 =>
        obtain ⟨bb, o, m, hlive⟩ := hsr7.mem _ _ hb
        rw [g1] at hlive
        obtain rfl := Option.some.inj hlive
        obtain ⟨g5, g6⟩ := g4 _ _ _ rfl
        obtain ⟨b', hb', cells, elem', lo, hi', hw, hm, hfr, hol, hrs⟩ := hsr7.live _ _ _ _ g1
        rw [hb] at hb'
        obtain rfl := Option.some.inj hb'
        have hcl : cells.toList.length = cells.size := by simp
        have hsmall : len * i.size ≤ c * i.size := Nat.mul_le_mul_right _ g2
        have hold : ∀ w', w'.heap = w.heap → (Builtin.firstCells i.size len (.slice (some ad) len c)).run P w' = .ok ((cells.toList.drop (o + off)).take (len * i.size)).toArray w' := by
          intro w' hw'
          rcases g6 with g6 | g6
          · have h0 : len = 0 := by omega
            subst h0
            rw [firstCells_zero]
            simp
          · subst g6
            exact firstCells_ok (by rw [hw']; exact hw) (by omega)
        have room : len + (n + 1) ≤ c → o + off + len * i.size + news.length ≤ cells.size := by
          intro q1
          have := Nat.mul_le_mul_right i.size q1
          rw [Nat.add_mul] at this
          omega
        have here : ∀ (q1 : len + (n + 1) ≤ c), (Builtin.append_ ts ty #[.slice (some ad) len c, y]).run P w = .ok (.slice (some ad) (len + (n + 1)) c) (putRow w bb (.cells (spl cells.toList (o + off + len * i.size) news).toArray elem' (lo, hi'))) := by
          intro q1
          rcases g6 with g6 | g6
          · omega
          · subst g6
            refine append_here h0 h1 hd hint hi hlen (hsrc _ rfl) q1 ?_
            rw [add_none]
            have := storeCells_ok (P := P) (k := o + off + len * i.size) news 0 w cells hw (hnv.singles hones) (by have := room q1; omega) (by rw [hm]; exact hfr)
            simpa using this
        have there : ∀ {k : Nat} {old : List Val}, ¬ len + (n + 1) ≤ c → cut (len * i.size) off b = some old → ∀ s1, Ev.new (old ++ new') s1 = some (k, s') → ∀ ρ1, SR ρ1 I s1.mem w → Free ρ1 s1 s' → Le ρ ρ1 →
            ∃ w', (Builtin.append_ ts ty #[.slice (some ad) len c, y]).run P w = .ok (.slice (some ⟨w.heap.size, 0, none⟩) (len + (n + 1)) (grownCap w (len + (n + 1)) c elem)) w' ∧
              Post ρ1 I s1 s' (.row k 0 (len + (n + 1)) i.size none) (.slice (some ⟨w.heap.size, 0, none⟩) (len + (n + 1)) (grownCap w (len + (n + 1)) c elem)) w' := by
          intro k old q1 hc s1 hnew ρ1 hsr1 hf1 hle
          obtain ⟨e1, rfl, e3⟩ := cut_some hc
          have hov := (hrs.part e1).mono hle (.refl _)
          have e4 := hov.length
          exact ⟨_, append_there h0 h1 hd hint hi hzv hlen (hsrc _ rfl) (hold _ rfl) q1 c2 d2,
            grown_ok (e := elem) (need := len + (n + 1)) (old := c) hnew hsr1 hf1 hov (hnv.mono hle (.refl _)) hzs (by rw [Nat.add_mul]; omega)⟩
        cases cap with
        | some c' =>
          have : c' = c := by simpa using g3
          subst this
          simp only at h
          cases hcmp : Nat.ble (len + (n + 1)) c' with
          | true =>
            rw [hcmp] at h
            have q1 := Nat.le_of_ble_eq_true hcmp
            simp only [bind_some, ofOpt_some, pure_some, Prod.mk.injEq] at h
            obtain ⟨b', s11, ⟨hlay, hs11⟩, u', s12, hset, hr1, hr2⟩ := h
            subst hr1 hr2 hs11
            have := room q1
            have hp := set_ok (ρ := ρ) (I := I) (v := .row id off (len + (n + 1)) i.size (some c')) (x := .slice (some ad) (len + (n + 1)) c') hset hsr7 g1 hb hw (l := spl cells.toList (o + (off + len * i.size)) news)
              (by rw [spl_length (by omega)]; simp) (lay_some hlay).2.2 (hrs.lay hnv hlay (by omega)) (.row g1 q1 (.inr rfl) g4)
            rw [show o + (off + len * i.size) = o + off + len * i.size by omega] at hp
            exact ⟨_, _, here q1, back hp⟩
          | false =>
            rw [hcmp] at h
            simp only [bind_some, ofOpt_some, pure_some, Prod.mk.injEq] at h
            obtain ⟨old, s11, ⟨hc, hs11⟩, k, s12, hnew, hr1, hr2⟩ := h
            subst hr1 hr2 hs11
            have q1 : ¬ len + (n + 1) ≤ c' := fun q => by rw [Nat.ble_eq_true_of_le q] at hcmp; cases hcmp
            obtain ⟨w', hw1, hw2⟩ := there q1 hc _ hnew ρ hsr7 hf7 (.refl _)
            exact ⟨_, _, hw1, back hw2⟩
        | none =>
          simp only [bind_some, ofOpt_some, pure_some, must_some, kill_some, Prod.mk.injEq] at h
          obtain ⟨_, s11, ⟨hend, hs11⟩, old, s12, ⟨hc, hs12⟩, u', s13, ⟨_, hs13⟩, k, s14, hnew, hr1, hr2⟩ := h
          subst hr1 hr2 hs11 hs12
          have hend := Nat.eq_of_beq_eq_true hend
          have hk := new_some.1 hnew
          simp only [Prod.mk.injEq] at hk
          obtain ⟨hk1, hk2⟩ := hk
          have hs13m : s13.mem = del id s9.mem := by rw [hs13]
          have hs13n : s13.next = s9.next := by rw [hs13]
          have hkn : k = s9.next := by rw [hk1, hs13n]
          have hs'n : s'.next = s9.next + 1 := by rw [hk2, hs13n]
          have hkfree : ρ k = none := hf7 k (by omega) (by omega)
          have hkid : k ≠ id := fun e => by subst e; rw [hkfree] at g1; cases g1
          by_cases q1 : len + (n + 1) ≤ c
          · refine ⟨_, _, here q1, back ?_⟩
            obtain ⟨e1, e2, e3⟩ := cut_some hc
            have hov := hrs.part e1
            have hroom := room q1
            have hspl : (spl cells.toList (o + off + len * i.size) news).length = cells.toList.length := spl_length (by omega)
            have hov4 := hov.length
            have hov5 : old.length = ((cells.toList.drop (o + off)).take (len * i.size)).length := by rw [e2]; exact hov4
            have hv2 : VRs ρ I (old ++ new') (((spl cells.toList (o + off + len * i.size) news).drop (o + off)).take (old ++ new').length) := by
              have e5 : ((spl cells.toList (o + off + len * i.size) news).drop (o + off)).take (old ++ new').length = (cells.toList.drop (o + off)).take (len * i.size) ++ news := by
                apply List.ext_getElem?
                intro j
                rw [List.length_append]
                by_cases hj : j < old.length + new'.length
                · rw [List.getElem?_take_of_lt hj, List.getElem?_drop]
                  by_cases hj1 : j < len * i.size
                  · rw [spl_out (by omega) (by omega), List.getElem?_append_left (by omega), List.getElem?_take_of_lt hj1, List.getElem?_drop]
                  · rw [List.getElem?_append_right (by omega), show o + off + j = o + off + len * i.size + (j - len * i.size) by omega, spl_in (by omega) (by omega)]
                    congr 1
                    omega
                · rw [List.getElem?_eq_none (by rw [List.length_take]; omega), List.getElem?_eq_none (by rw [List.length_append]; omega)]
              rw [e5, e2]
              exact hov.append hnv
            have hmv := hsr7.move (o' := o + off) (k := k) (cs' := old ++ new') (l := spl cells.toList (o + off + len * i.size) news) g1 hkfree hw (by rw [hspl]; simp) (by simp; omega) hv2
            have hle : Le ρ ((ρ.add id .dead).add k (.live bb (o + off) m)) := Le.die.trans (Le.add (by unfold Rho.add; rw [if_neg hkid]; exact hkfree))
            refine ⟨_, I, hle, .refl _, ?_, .row (ow := .live bb (o + off) m) (if_pos rfl) q1 (.inl rfl) (fun b2 o2 n2 e => ?_), fun j hj => ?_⟩
            · rw [hk2]
              simp only
              rw [← hk1, hs13m]
              exact hmv
            · cases e
              refine ⟨by omega, ?_⟩
              rcases g6 with g6 | g6
              · exact .inl g6
              · exact .inr (by rw [g6]; rfl)
            · unfold Rho.add at hj
              split at hj
              · rename_i e; subst e; exact .inr ⟨by omega, by omega⟩
              · split at hj
                · rename_i e; subst e; exact .inl (by rw [g1]; simp)
                · exact .inl hj
          · have hkill := hsr7.kill id
            rw [← hs13m] at hkill
            have hfk : Free (ρ.add id .dead) s13 s' := by
              intro j j1 j2
              rw [hs13n] at j1
              have := hf7 j j1 j2
              unfold Rho.add
              rw [if_neg (fun e => by subst e; rw [g1] at this; cases this)]
              exact this
            obtain ⟨w', hw1, hw2⟩ := there q1 hc _ hnew _ hkill hfk Le.die
            refine ⟨_, _, hw1, back ?_⟩
            obtain ⟨ρ2, I2, p1, p2, p3, p4, p5⟩ := hw2
            refine ⟨ρ2, I2, Le.die.trans p1, p2, p3, p4, fun j hj => ?_⟩
            rcases p5 j hj with h | h
            · unfold Rho.add at h
              split at h
              · rename_i e; subst e; exact .inl (by rw [g1]; simp)
              · exact .inl h
            · rw [hs13n] at h
              exact .inr h
    · simp only [bind_some, must_some, pure_some, Prod.mk.injEq] at h
      obtain ⟨_, s9, ⟨hck, hs9⟩, k, s10, hnew, hr1, hr2⟩ := h
      subst hr1 hr2 hs9
      cases ha
      exact emptyCase _ 0 k rfl (Nat.le_of_ble_eq_true hck) hnew rfl
    · simp only [bind_some, must_some, pure_some, Prod.mk.injEq] at h
      obtain ⟨_, s9, ⟨hck, hs9⟩, k, s10, hnew, hr1, hr2⟩ := h
      subst hr1 hr2 hs9
      cases ha
      exact emptyCase _ 0 k rfl (Nat.le_of_ble_eq_true hck) hnew rfl
    · simp only [fail_some] at h
end
end Go.Proofs.YtjgdcifbhmjinaaDoor.Ev
end
section
namespace Go.Proofs.YtjgdcifbhmjinaaDoor.Ev
open Go

/-- The blocks that a run may look at or change: those that it tells, and those made since the part began. -/
def Touch (s s' : St) (id : Nat) : Prop := id ∈ s'.rd ∨ id ∈ s'.wr ∨ (s.base ≤ id ∧ id < s'.next)
def Alter (s s' : St) (id : Nat) : Prop := id ∈ s'.wr ∨ (s.base ≤ id ∧ id < s'.next)
def Inv (s : St) : Prop := ∀ id c, look id s.mem = some c → id < s.next

structure Loc (s s' : St) : Prop where
  base : s'.base = s.base
  next : s.next ≤ s'.next
  inv : Inv s'
  rd : ∀ id ∈ s.rd, id ∈ s'.rd
  wr : ∀ id ∈ s.wr, id ∈ s'.wr
  rdOld : ∀ id ∈ s'.rd, id ∈ s.rd ∨ id < s.base
  wrOld : ∀ id ∈ s'.wr, id ∈ s.wr ∨ id < s.base
  same : ∀ id, id < s.base → id ∉ s'.wr → look id s'.mem = look id s.mem

def Local {α : Type} (p : M α) : Prop := ∀ s v s', p s = some (v, s') → s.base ≤ s.next → Inv s → Loc s s' ∧
  ∀ m, (∀ id, Touch s s' id → look id m = look id s.mem) → ∃ m', p { s with mem := m } = some (v, { s' with mem := m' }) ∧
    (∀ id, Touch s s' id → look id m' = look id s'.mem) ∧ (∀ id, ¬ Alter s s' id → look id m' = look id m)

theorem Loc.refl {s : St} (h : Inv s) : Loc s s := ⟨rfl, Nat.le_refl _, h, fun _ h => h, fun _ h => h, fun _ h => .inl h, fun _ h => .inl h, fun _ _ _ => rfl⟩
theorem Loc.trans {s s1 s2 : St} (h : Loc s s1) (h' : Loc s1 s2) : Loc s s2 :=
  ⟨h'.base.trans h.base, Nat.le_trans h.next h'.next, h'.inv, fun id e => h'.rd id (h.rd id e), fun id e => h'.wr id (h.wr id e),
   fun id e => by rcases h'.rdOld id e with e | e
                  · exact h.rdOld id e
                  · exact .inr (h.base ▸ e),
   fun id e => by rcases h'.wrOld id e with e | e
                  · exact h.wrOld id e
                  · exact .inr (h.base ▸ e),
   fun id e e' => (h'.same id (h.base.symm ▸ e) e').trans (h.same id e (fun h1 => e' (h'.wr id h1)))⟩

section
variable {α β : Type}
theorem Local.pure (a : α) : Local (Pure.pure a : M α) := by
  intro s v s' h hb hi
  rw [pure_some] at h
  simp only [Prod.mk.injEq] at h
  obtain ⟨rfl, rfl⟩ := h
  exact ⟨.refl hi, fun m hm => ⟨m, rfl, hm, fun _ _ => rfl⟩⟩
theorem Local.fail : Local (Ev.fail : M α) := by
  intro s v s' h
  rw [fail_some] at h
  exact h.elim
theorem Local.ofOpt (o : Option α) : Local (Ev.ofOpt o) := by
  cases o with
  | none => exact Local.fail
  | some a => exact Local.pure a
theorem Local.must (b : Bool) : Local (Ev.must b) := by
  cases b with
  | false => exact Local.fail
  | true => exact Local.pure ()
theorem Local.bind {p : M α} {f : α → M β} (hp : Local p) (hf : ∀ a, Local (f a)) : Local (p >>= f) := by
  intro s v s' h hb hi
  rw [bind_some] at h
  obtain ⟨a, s1, h1, h2⟩ := h
  obtain ⟨l1, k1⟩ := hp _ _ _ h1 hb hi
  obtain ⟨l2, k2⟩ := hf a _ _ _ h2 (by rw [l1.base]; exact Nat.le_trans hb l1.next) l1.inv
  refine ⟨l1.trans l2, fun m hm => ?_⟩
  have t1 : ∀ id, Touch s s1 id → Touch s s' id := fun id h => by
    rcases h with h | h | ⟨h, h'⟩
    · exact .inl (l2.rd id h)
    · exact .inr (.inl (l2.wr id h))
    · exact .inr (.inr ⟨h, Nat.lt_of_lt_of_le h' l2.next⟩)
  have t2 : ∀ id, Touch s1 s' id ↔ Touch s s' id := fun id => by unfold Touch; rw [l1.base]
  have a2 : ∀ id, Alter s1 s' id ↔ Alter s s' id := fun id => by unfold Alter; rw [l1.base]
  have a1 : ∀ id, Alter s s1 id → Alter s s' id := fun id h => by
    rcases h with h | ⟨h, h'⟩
    · exact .inl (l2.wr id h)
    · exact .inr ⟨h, Nat.lt_of_lt_of_le h' l2.next⟩
  obtain ⟨m1, e1, e2, e3⟩ := k1 m (fun id h => hm id (t1 id h))
  have agree : ∀ id, Touch s s' id → look id m1 = look id s1.mem := fun id h => by
    by_cases ht : Touch s s1 id
    · exact e2 id ht
    · have na : ¬ Alter s s1 id := fun h => ht (by
        rcases h with h | h
        · exact .inr (.inl h)
        · exact .inr (.inr h))
      rw [e3 id na, hm id h]
      by_cases hid : id < s.base
      · exact (l1.same id hid (fun h => na (.inl h))).symm
      · have : s1.next ≤ id := by
          rcases Nat.lt_or_ge id s1.next with h1 | h1
          · exact absurd (.inr ⟨by omega, h1⟩) na
          · exact h1
        have n1 : look id s1.mem = none := by
          cases hl : look id s1.mem with
          | none => rfl
          | some c => have := l1.inv id c hl; omega
        have n2 : look id s.mem = none := by
          cases hl : look id s.mem with
          | none => rfl
          | some c => have := hi id c hl; have := l1.next; omega
        rw [n1, n2]
  obtain ⟨m2, e4, e5, e6⟩ := k2 m1 (fun id h => agree id ((t2 id).1 h))
  refine ⟨m2, ?_, fun id h => e5 id ((t2 id).2 h), fun id h => (e6 id (fun h' => h ((a2 id).1 h'))).trans (e3 id (fun h' => h (a1 id h')))⟩
  rw [bind_some]
  exact ⟨a, _, e1, e4⟩

theorem mem_note {base id j : Nat} {l : List Nat} : j ∈ note base id l ↔ j ∈ l ∨ (j = id ∧ id < base) := by
  have hh : ∀ l : List Nat, has id l = true ↔ id ∈ l := by
    intro l
    induction l with
    | nil => simp [has_nil]
    | cons k l ih =>
      rw [has_c]
      split
      · rename_i h; have := Nat.eq_of_beq_eq_true h; subst this; simp
      · rename_i h
        have := Nat.ne_of_beq_eq_false h
        rw [ih, List.mem_cons]
        exact ⟨.inr, fun h => h.resolve_left (fun e => this e.symm)⟩
  unfold note
  split
  · rename_i h
    have := Nat.le_of_ble_eq_true h
    exact ⟨.inl, fun h => h.resolve_right (fun h => by omega)⟩
  · rename_i h
    have hlt : id < base := by
      rcases Nat.lt_or_ge id base with h1 | h1
      · exact h1
      · rw [Nat.ble_eq_true_of_le h1] at h; cases h
    split
    · rename_i h1
      have := (hh l).1 h1
      exact ⟨.inl, fun h => by rcases h with h | ⟨rfl, _⟩ <;> assumption⟩
    · rw [List.mem_cons]
      exact ⟨fun h => h.elim (fun h => .inr ⟨h, hlt⟩) .inl, fun h => h.elim .inr (fun h => .inl h.1)⟩

theorem mem_joinN {base j : Nat} : ∀ {r l : List Nat}, j ∈ joinN base r l ↔ j ∈ l ∨ (j ∈ r ∧ j < base)
  | [], l => by simp [joinN_nil]
  | k :: r, l => by
    rw [joinN_c]
    rw [mem_joinN (r := r), mem_note, List.mem_cons]
    constructor
    · rintro ((h | ⟨rfl, h⟩) | ⟨h, h'⟩)
      · exact .inl h
      · exact .inr ⟨.inl rfl, h⟩
      · exact .inr ⟨.inr h, h'⟩
    · rintro (h | ⟨rfl | h, h'⟩)
      · exact .inl (.inl h)
      · exact .inl (.inr ⟨rfl, h'⟩)
      · exact .inr ⟨h, h'⟩

theorem Local.get (id : Nat) : Local (Ev.get id) := by
  intro s v s' h hb hi
  rw [get_some] at h
  obtain ⟨h1, h2⟩ := h
  simp only at h1 h2
  subst h2
  have lt := hi id v h1
  refine ⟨⟨rfl, Nat.le_refl _, hi, fun j h => mem_note.2 (.inl h), fun _ h => h, fun j h => (mem_note.1 h).elim .inl (fun h => .inr (h.1 ▸ h.2)), fun _ h => .inl h, fun _ _ _ => rfl⟩, fun m hm => ?_⟩
  have ht : Touch s { s with rd := note s.base id s.rd } id := by
    rcases Nat.lt_or_ge id s.base with h | h
    · exact .inl (mem_note.2 (.inr ⟨rfl, h⟩))
    · exact .inr (.inr ⟨h, lt⟩)
  refine ⟨m, ?_, fun j h => hm j h, fun _ _ => rfl⟩
  rw [get_some]
  exact ⟨by simp only; rw [hm id ht, h1], rfl⟩

theorem Local.set (id : Nat) (c : List Val) : Local (Ev.set id c) := by
  intro s v s' h hb hi
  rw [set_some] at h
  obtain ⟨⟨b, h1⟩, h2⟩ := h
  simp only at h2
  subst h2
  have lt := hi id b h1
  have ht : Alter s { s with mem := upd id c s.mem, wr := note s.base id s.wr } id := by
    rcases Nat.lt_or_ge id s.base with h | h
    · exact .inl (mem_note.2 (.inr ⟨rfl, h⟩))
    · exact .inr ⟨h, lt⟩
  refine ⟨⟨rfl, Nat.le_refl _, fun j d h => ?_, fun _ h => h, fun j h => mem_note.2 (.inl h), fun _ h => .inl h, fun j h => (mem_note.1 h).elim .inl (fun h => .inr (h.1 ▸ h.2)), fun j hj hn => ?_⟩, fun m hm => ?_⟩
  · simp only [look_upd] at h
    split at h
    · rename_i e; subst e; exact lt
    · exact hi j d h
  · simp only [look_upd]
    split
    · rename_i e; subst e; exact absurd (mem_note.2 (.inr ⟨rfl, hj⟩)) hn
    · rfl
  · have hid := hm id (ht.elim (fun h => .inr (.inl h)) (fun h => .inr (.inr h)))
    refine ⟨upd id c m, ?_, fun j h => ?_, fun j h => ?_⟩
    · rw [set_some]
      exact ⟨⟨b, by simp only; rw [hid, h1]⟩, rfl⟩
    · simp only [look_upd]
      rw [hm j h]
    · rw [look_upd]
      split
      · rename_i e; subst e; exact absurd ht h
      · rfl

theorem Local.kill (id : Nat) : Local (Ev.kill id) := by
  intro s v s' h hb hi
  rw [kill_some] at h
  obtain ⟨⟨b, h1⟩, h2⟩ := h
  simp only at h2
  subst h2
  have lt := hi id b h1
  have ht : Alter s { s with mem := del id s.mem, wr := note s.base id s.wr } id := by
    rcases Nat.lt_or_ge id s.base with h | h
    · exact .inl (mem_note.2 (.inr ⟨rfl, h⟩))
    · exact .inr ⟨h, lt⟩
  refine ⟨⟨rfl, Nat.le_refl _, fun j d h => ?_, fun _ h => h, fun j h => mem_note.2 (.inl h), fun _ h => .inl h, fun j h => (mem_note.1 h).elim .inl (fun h => .inr (h.1 ▸ h.2)), fun j hj hn => ?_⟩, fun m hm => ?_⟩
  · simp only [look_del] at h
    split at h
    · cases h
    · exact hi j d h
  · simp only [look_del]
    split
    · rename_i e; subst e; exact absurd (mem_note.2 (.inr ⟨rfl, hj⟩)) hn
    · rfl
  · have hid := hm id (ht.elim (fun h => .inr (.inl h)) (fun h => .inr (.inr h)))
    refine ⟨del id m, ?_, fun j h => ?_, fun j h => ?_⟩
    · rw [kill_some]
      exact ⟨⟨b, by simp only; rw [hid, h1]⟩, rfl⟩
    · simp only [look_del]
      rw [hm j h]
    · rw [look_del]
      split
      · rename_i e; subst e; exact absurd ht h
      · rfl

theorem Local.new (c : List Val) : Local (Ev.new c) := by
  intro s v s' h hb hi
  rw [new_some] at h
  simp only [Prod.mk.injEq] at h
  obtain ⟨rfl, rfl⟩ := h
  refine ⟨⟨rfl, Nat.le_succ _, fun j d h => ?_, fun _ h => h, fun _ h => h, fun _ h => .inl h, fun _ h => .inl h, fun j hj hn => ?_⟩, fun m hm => ⟨(s.next, c) :: m, rfl, fun j h => ?_, fun j h => ?_⟩⟩
  · simp only [look_cons] at h
    split at h
    · rename_i e; subst e; exact Nat.lt_succ_self _
    · exact Nat.lt_succ_of_lt (hi j d h)
  · simp only [look_cons]
    rw [if_neg (by omega)]
  · simp only [look_cons]
    rw [hm j h]
  · rw [look_cons, if_neg (fun e => h (.inr ⟨by subst e; exact hb, by subst e; exact Nat.lt_succ_self _⟩))]

/-- A part of its own, as seen from outside. -/
theorem inner {s s1 : St} {b : List Nat × List Nat} (hb : s.base ≤ s.next) (hl : Loc { s with base := s.next, rd := [], wr := [] } s1) (k : b = (joinN s.base s1.rd s.rd, joinN s.base s1.wr s.wr)) :
    Loc s ⟨s1.mem, s1.next, s.base, b.1, b.2⟩ := by
  subst k
  refine ⟨rfl, hl.next, hl.inv, fun j h => mem_joinN.2 (.inl h), fun j h => mem_joinN.2 (.inl h), fun j h => ?_, fun j h => ?_, fun j hj hn => ?_⟩
  · exact (mem_joinN.1 h).elim .inl (fun h => .inr h.2)
  · exact (mem_joinN.1 h).elim .inl (fun h => .inr h.2)
  · exact hl.same j (by simp only; omega) (fun h => hn (mem_joinN.2 (.inr ⟨h, hj⟩)))

theorem Local.fenced (i : Nat) {p : M α} (hp : Local p) : Local (Ev.fenced i p) := by
  intro s v s' h hb hi
  unfold Ev.fenced at h
  cases hq : p { s with base := s.next, rd := [], wr := [] } with
  | none => rw [hq] at h; cases h
  | some r =>
    obtain ⟨a, s1⟩ := r
    rw [hq] at h
    simp only [Option.some.injEq, Prod.mk.injEq] at h
    obtain ⟨rfl, rfl⟩ := h
    obtain ⟨l, k⟩ := hp _ _ _ hq (Nat.le_refl _) hi
    refine ⟨inner hb l rfl, fun m hm => ?_⟩
    have ln := l.next
    simp only at ln
    obtain ⟨m', e1, e2, e3⟩ := k m (fun id h => hm id (by
      rcases h with h | h | ⟨h, h'⟩
      · rcases l.rdOld id h with h1 | h1
        · cases h1
        · simp only at h1
          rcases Nat.lt_or_ge id s.base with h2 | h2
          · exact .inl (mem_joinN.2 (.inr ⟨h, h2⟩))
          · exact .inr (.inr ⟨h2, by simp only; omega⟩)
      · rcases l.wrOld id h with h1 | h1
        · cases h1
        · simp only at h1
          rcases Nat.lt_or_ge id s.base with h2 | h2
          · exact .inr (.inl (mem_joinN.2 (.inr ⟨h, h2⟩)))
          · exact .inr (.inr ⟨h2, by simp only; omega⟩)
      · exact .inr (.inr ⟨by simp only at h; omega, h'⟩)))
    refine ⟨m', ?_, fun id h => ?_, fun id h => ?_⟩
    · unfold Ev.fenced
      simp only [e1]
    · by_cases ht : Touch { s with base := s.next, rd := [], wr := [] } s1 id
      · exact e2 id ht
      · have na : ¬ Alter { s with base := s.next, rd := [], wr := [] } s1 id := fun h => ht (by
          rcases h with h | h
          · exact .inr (.inl h)
          · exact .inr (.inr h))
        rw [e3 id na, hm id h]
        rcases Nat.lt_or_ge id s.next with h1 | h1
        · exact (l.same id h1 (fun h => na (.inl h))).symm
        · have h2 : s1.next ≤ id := by
            rcases Nat.lt_or_ge id s1.next with h2 | h2
            · exact absurd (.inr ⟨h1, h2⟩) na
            · exact h2
          have n1 : look id s1.mem = none := by
            cases hl : look id s1.mem with
            | none => rfl
            | some c => have := l.inv id c hl; omega
          have n2 : look id s.mem = none := by
            cases hl : look id s.mem with
            | none => rfl
            | some c => have := hi id c hl; omega
          rw [n1, n2]
    · refine e3 id (fun h' => h ?_)
      rcases h' with h' | ⟨h', h''⟩
      · rcases l.wrOld id h' with h1 | h1
        · cases h1
        · simp only at h1
          rcases Nat.lt_or_ge id s.base with h2 | h2
          · exact .inl (mem_joinN.2 (.inr ⟨h', h2⟩))
          · exact .inr ⟨h2, by simp only; omega⟩
      · exact .inr ⟨by simp only at h'; omega, h''⟩

theorem Local.tidy {p : M Val} (hp : Local p) : Local (Ev.tidy p) := by
  intro s v s' h hb hi
  unfold Ev.tidy at h
  cases hq : p { s with base := s.next, rd := [], wr := [] } with
  | none => rw [hq] at h; cases h
  | some r =>
    obtain ⟨a, s1⟩ := r
    rw [hq] at h
    simp only at h
    have hfe : Ev.fenced 0 p s = some ((a, ⟨0, s1.rd, s1.wr, s.next, s1.next⟩), ⟨s1.mem, s1.next, s.base, joinN s.base s1.rd s.rd, joinN s.base s1.wr s.wr⟩) := by
      unfold Ev.fenced
      rw [hq]
    obtain ⟨l, k⟩ := Local.fenced 0 hp _ _ _ hfe hb hi
    cases hc : a.val?.isSome && s1.wr.isEmpty with
    | true =>
      rw [hc] at h
      simp only [Option.some.injEq, Prod.mk.injEq] at h
      obtain ⟨rfl, rfl⟩ := h
      refine ⟨⟨rfl, l.next, fun id c h => ?_, l.rd, l.wr, l.rdOld, l.wrOld, fun id h1 h2 => ?_⟩, fun m hm => ?_⟩
      · simp only [look_shed] at h
        split at h
        · cases h
        · exact l.inv id c h
      · simp only [look_shed]
        rw [if_neg (by omega)]
        exact l.same id h1 h2
      · obtain ⟨m', e1, e5, e6⟩ := k m hm
        refine ⟨shed s.next s1.next m', ?_, fun id h => ?_, fun id h => ?_⟩
        · unfold Ev.fenced at e1
          unfold Ev.tidy
          cases hq2 : p { mem := m, next := s.next, base := s.next, rd := [], wr := [] } with
          | none => simp only [hq2] at e1; cases e1
          | some r =>
            obtain ⟨a2, s2⟩ := r
            simp only [hq2, Option.some.injEq, Prod.mk.injEq, Foot.mk.injEq, St.mk.injEq, true_and] at e1
            obtain ⟨⟨rfl, e2, e3, e4⟩, e7, -, -⟩ := e1
            simp only [e3, hc, e2, e4, e7]
        · simp only [look_shed]
          rw [e5 id h]
        · rw [look_shed, if_neg]
          · exact e6 id h
          · rintro ⟨h1, h2⟩
            exact h (.inr ⟨by omega, h2⟩)
    | false =>
      rw [hc] at h
      simp only [Option.some.injEq, Prod.mk.injEq] at h
      obtain ⟨rfl, rfl⟩ := h
      refine ⟨l, fun m hm => ?_⟩
      obtain ⟨m', e1, e5, e6⟩ := k m hm
      refine ⟨m', ?_, e5, e6⟩
      unfold Ev.fenced at e1
      unfold Ev.tidy
      cases hq2 : p { mem := m, next := s.next, base := s.next, rd := [], wr := [] } with
      | none => simp only [hq2] at e1; cases e1
      | some r =>
        obtain ⟨a2, s2⟩ := r
        simp only [hq2, Option.some.injEq, Prod.mk.injEq, Foot.mk.injEq, St.mk.injEq, true_and] at e1
        obtain ⟨⟨rfl, e2, e3, e4⟩, e7, -, -⟩ := e1
        simp only [e3, hc, e2, e4, e7]
end

/-- What is made of the memory's own steps. -/
inductive Made : {α : Type} → M α → Prop
  | pure {α : Type} (a : α) : Made (Pure.pure a : M α)
  | fail {α : Type} : Made (Ev.fail : M α)
  | ofOpt {α : Type} (o : Option α) : Made (Ev.ofOpt o)
  | must (b : Bool) : Made (Ev.must b)
  | bind {α β : Type} {p : M α} {f : α → M β} : Made p → (∀ a, Made (f a)) → Made (p >>= f)
  | get (id : Nat) : Made (Ev.get id)
  | set (id : Nat) (c : List Val) : Made (Ev.set id c)
  | kill (id : Nat) : Made (Ev.kill id)
  | new (c : List Val) : Made (Ev.new c)
  | fenced {α : Type} (i : Nat) {p : M α} : Made p → Made (Ev.fenced i p)
  | tidy {p : M Val} : Made p → Made (Ev.tidy p)

theorem Made.loc {α : Type} {p : M α} (h : Made p) : Local p := by
  induction h with
  | pure a => exact .pure a
  | fail => exact .fail
  | ofOpt o => exact .ofOpt o
  | must b => exact .must b
  | bind _ _ ih1 ih2 => exact .bind ih1 ih2
  | get id => exact .get id
  | set id c => exact .set id c
  | kill id => exact .kill id
  | new c => exact .new c
  | fenced i _ ih => exact .fenced i ih
  | tidy _ ih => exact .tidy ih

theorem Made.mono {α : Type} {p : M α} (h : Made p) : ∀ s v s', p s = some (v, s') → s.next ≤ s'.next := by
  induction h with
  | pure a => intro s v s' h; rw [pure_some] at h; simp only [Prod.mk.injEq] at h; rw [h.2]; exact Nat.le_refl _
  | fail => intro s v s' h; rw [fail_some] at h; exact h.elim
  | ofOpt o => intro s v s' h; rw [ofOpt_some] at h; rw [show s' = _ from h.2]; exact Nat.le_refl _
  | must b => intro s v s' h; rw [must_some] at h; rw [show s' = _ from h.2]; exact Nat.le_refl _
  | bind _ _ ih1 ih2 =>
    intro s v s' h
    rw [bind_some] at h
    obtain ⟨a, s1, h1, h2⟩ := h
    exact Nat.le_trans (ih1 _ _ _ h1) (ih2 _ _ _ _ h2)
  | get id => intro s v s' h; rw [get_some] at h; rw [show s' = _ from h.2]; exact Nat.le_refl _
  | set id c => intro s v s' h; rw [set_some] at h; rw [show s' = _ from h.2]; exact Nat.le_refl _
  | kill id => intro s v s' h; rw [kill_some] at h; rw [show s' = _ from h.2]; exact Nat.le_refl _
  | new c => intro s v s' h; rw [new_some] at h; simp only [Prod.mk.injEq] at h; rw [h.2]; exact Nat.le_succ _
  | fenced i _ ih =>
    intro s v s' h
    unfold Ev.fenced at h
    split at h
    · rename_i a s1 hq
      simp only [Option.some.injEq, Prod.mk.injEq] at h
      obtain ⟨_, rfl⟩ := h
      have := ih _ _ _ hq
      exact this
    · cases h
  | tidy _ ih =>
    intro s v s' h
    unfold Ev.tidy at h
    split at h
    · rename_i a s1 hq
      have := ih _ _ _ hq
      split at h
      · simp only [Option.some.injEq, Prod.mk.injEq] at h
        obtain ⟨_, rfl⟩ := h
        exact this
      · simp only [Option.some.injEq, Prod.mk.injEq] at h
        obtain ⟨_, rfl⟩ := h
        exact this
    · cases h

section
variable {P : Program} {call : CallF}
open Made (pure bind fail ofOpt must get set kill new)

theorem Made.evLoad (t : TypeId) (a : Val) : Made (Ev.evLoad P t a) := by
  unfold Ev.evLoad
  refine bind (ofOpt _) (fun n => ?_)
  split
  · exact bind (get _) (fun _ => bind (ofOpt _) (fun _ => ofOpt _))
  · exact bind (ofOpt _) (fun _ => ofOpt _)
  · exact fail
theorem Made.evStore (t : TypeId) (a x : Val) : Made (Ev.evStore P t a x) := by
  unfold Ev.evStore
  refine bind (ofOpt _) (fun n => ?_)
  split
  · exact bind (must _) (fun _ => bind (get _) (fun _ => bind (ofOpt _) (fun _ => bind (set _ _) (fun _ => pure _))))
  · exact fail
theorem Made.evNew (c : List Val) : Made (Ev.evNew c) := by
  unfold Ev.evNew
  exact bind (must _) (fun _ => bind (new _) (fun _ => pure _))
theorem Made.evBuildSlice (t : TypeId) (len : Nat) (ps : List (Nat × Val)) : Made (Ev.evBuildSlice P t len ps) := by
  unfold Ev.evBuildSlice
  exact bind (ofOpt _) (fun _ => bind (ofOpt _) (fun _ => bind (ofOpt _) (fun _ => bind (must _) (fun _ => bind (ofOpt _) (fun _ => bind (new _) (fun _ => pure _))))))
theorem Made.evMakeSlice (t : TypeId) (l c : Val) : Made (Ev.evMakeSlice P t l c) := by
  unfold Ev.evMakeSlice
  exact bind (ofOpt _) (fun _ => bind (ofOpt _) (fun _ => bind (ofOpt _) (fun _ => bind (ofOpt _) (fun _ => bind (ofOpt _) (fun _ => bind (ofOpt _) (fun _ => bind (must _) (fun _ => bind (new _) (fun _ => pure _))))))))
theorem Made.evSlice (t : TypeId) (x : Val) (lo hi mx : Option Val) : Made (Ev.evSlice P t x lo hi mx) := by
  unfold Ev.evSlice
  refine bind (ofOpt _) (fun _ => bind (ofOpt _) (fun _ => bind (ofOpt _) (fun m => ?_)))
  split
  · refine bind (ofOpt _) (fun _ => bind (must _) (fun _ => ?_))
    split
    · split <;> exact pure _
    · exact bind (must _) (fun _ => pure _)
  · refine bind (ofOpt _) (fun _ => bind (must _) (fun _ => ?_))
    split
    · exact pure _
    · exact bind (must _) (fun _ => pure _)
  · exact bind (ofOpt _) (fun _ => bind (ofOpt _) (fun _ => bind (get _) (fun _ => bind (must _) (fun _ => pure _))))
  · exact fail
theorem Made.srcCells (sz : Nat) (x : Val) : Made (Ev.srcCells sz x) := by
  unfold Ev.srcCells
  split
  · exact bind (must _) (fun _ => bind (get _) (fun _ => ofOpt _))
  · exact bind (must _) (fun _ => pure _)
  · exact pure _
  · exact pure _
  · exact bind (must _) (fun _ => pure _)
  · exact fail
theorem Made.evGrow (sz n : Nat) (c : List Val) (x : Val) : Made (Ev.evGrow sz n c x) := by
  unfold Ev.evGrow
  split
  · refine bind (must _) (fun _ => bind (get _) (fun _ => ?_))
    split
    · split
      · exact bind (ofOpt _) (fun _ => bind (set _ _) (fun _ => pure _))
      · exact bind (ofOpt _) (fun _ => bind (new _) (fun _ => pure _))
    · exact bind (must _) (fun _ => bind (ofOpt _) (fun _ => bind (kill _) (fun _ => bind (new _) (fun _ => pure _))))
  · exact bind (must _) (fun _ => bind (new _) (fun _ => pure _))
  · exact bind (must _) (fun _ => bind (new _) (fun _ => pure _))
  · exact fail
theorem Made.evAppend (t u : TypeId) (s x : Val) : Made (Ev.evAppend P t u s x) := by
  unfold Ev.evAppend
  refine bind (ofOpt _) (fun _ => bind (ofOpt _) (fun _ => bind (ofOpt _) (fun _ => bind (ofOpt _) (fun _ => bind (ofOpt _) (fun _ => bind (ofOpt _) (fun _ => bind (must _) (fun _ => ?_)))))))
  split
  · exact pure _
  · exact bind (srcCells _ _) (fun _ => bind (must _) (fun _ => evGrow _ _ _ _))
theorem Made.evConvert (src dst : TypeId) (x : Val) : Made (Ev.evConvert P src dst x) := by
  unfold Ev.evConvert
  split
  · exact bind (must _) (fun _ => bind (get _) (fun _ => bind (ofOpt _) (fun _ => bind (ofOpt _) (fun _ => pure _))))
  · exact bind (must _) (fun _ => bind (new _) (fun _ => pure _))
  · exact ofOpt _
  · exact fail
theorem Made.evCall (hc : ∀ f args, Made (call f args)) (r : Operand → Val) (o : Oper) (c : Call) : Made (Ev.evCall P call r o c) := by
  unfold Ev.evCall
  split
  · split
    · exact hc _ _
    · exact fail
  · split
    · exact bind (ofOpt _) (fun _ => pure _)
    · exact bind (ofOpt _) (fun _ => pure _)
    · exact ofOpt _
    · exact bind (ofOpt _) (fun _ => pure _)
    · exact bind (ofOpt _) (fun _ => pure _)
    · exact bind (ofOpt _) (fun _ => bind (ofOpt _) (fun _ => evAppend _ _ _ _))
    · exact ofOpt _
  · exact fail
theorem Made.evOp (hc : ∀ f args, Made (call f args)) (r : Operand → Val) (o : Oper) : Made (Ev.evOp P call r o) := by
  unfold Ev.evOp
  split
  · exact pure _
  · exact pure _
  · split
    · exact pure _
    · exact pure _
    · exact fail
  · exact bind (ofOpt _) (fun _ => evNew _)
  · exact evNew _
  · exact ofOpt _
  · exact evBuildSlice _ _ _
  · exact evLoad _ _
  · exact evStore _ _ _
  · split
    · exact pure _
    · exact pure _
    · exact pure _
    · exact pure _
    · exact fail
  · split
    · exact fail
    · exact pure _
    · exact fail
  · exact pure _
  · exact evMakeSlice _ _ _
  · split
    · exact ofOpt _
    · exact evSlice _ _ _ _ _
  · exact ofOpt _
  · exact ofOpt _
  · exact ofOpt _
  · split
    · exact ofOpt _
    · exact ofOpt _
    · exact ofOpt _
  · split
    · exact ofOpt _
    · exact fail
  · split
    · exact ofOpt _
    · exact ofOpt _
  · split
    · exact pure _
    · split
      · exact pure _
      · exact ofOpt _
  · split
    · exact pure _
    · exact evConvert _ _ _
  · exact ofOpt _
  · exact evCall hc _ _ _
  · exact fail
theorem Made.evGuarded (hc : ∀ f args, Made (call f args)) (ops : Array Oper) (a : Tr) (o : Oper) : Made (Ev.evGuarded P call ops a o) := by
  unfold Ev.evGuarded
  simp only [evOpF_eq]
  split
  · exact evOp hc _ _
  · exact pure _
theorem Made.evOps (hc : ∀ f args, Made (call f args)) (nt : Nat) (ops : Array Oper) : ∀ (l : List Oper) (a : Tr), Made (Ev.evOps P call nt ops l a)
  | [], a => by unfold Ev.evOps; exact pure _
  | o :: l, a => by
    unfold Ev.evOps
    exact bind (evGuarded hc _ _ _) (fun _ => bind (ofOpt _) (fun _ => evOps hc nt ops l _))
theorem Made.evDrawn (hc : ∀ f args, Made (call f args)) (nt : Nat) (ops : Array Oper) : ∀ (l : List Oper) (i : Nat) (a : Tr), Made (Ev.evDrawn P call nt ops i l a)
  | [], i, a => by unfold Ev.evDrawn; exact pure _
  | o :: l, i, a => by
    unfold Ev.evDrawn
    exact bind (fenced i (evGuarded hc _ _ _)) (fun _ => bind (ofOpt _) (fun _ => bind (evDrawn hc nt ops l (i + 1) _) (fun _ => pure _)))
theorem Made.evRegion (hc : ∀ f args, Made (call f args)) (nt : Nat) (ops : Array Oper) (draw : Bool) (a : Tr) : Made (Ev.evRegion P call nt ops draw a) := by
  unfold Ev.evRegion
  split
  · exact evOps hc nt ops _ _
  · exact bind (evDrawn hc nt ops _ _ _) (fun _ => bind (must _) (fun _ => pure _))
theorem Made.evLoop {body : Tr → M (Ex × Tr)} (hb : ∀ a, Made (body a)) : ∀ (n : Nat) (a : Tr), Made (Ev.evLoop body n a)
  | 0, a => by unfold Ev.evLoop; exact fail
  | n + 1, a => by
    unfold Ev.evLoop
    refine bind (hb a) (fun r => ?_)
    split
    · exact evLoop hb n _
    · exact pure _
theorem Made.evScope {f : Option Nat → Tr → M (Ex × Tr)} {mine : Nat → Bool} (hb : ∀ l a, Made (f l a)) : ∀ (n : Nat) (l : Option Nat) (a : Tr), Made (Ev.evScope f mine n l a)
  | 0, l, a => by unfold Ev.evScope; exact fail
  | n + 1, l, a => by
    unfold Ev.evScope
    refine bind (hb l a) (fun r => ?_)
    split
    · split
      · exact evScope hb n _ _
      · exact pure _
    · exact pure _
theorem Made.evCode (hc : ∀ f args, Made (call f args)) (lf nt : Nat) (c : Code) : ∀ (l : Option Nat) (a : Tr), Made (Ev.evCode P call lf nt c l a) := by
  induction c with
  | skip => intro l a; cases l <;> unfold Ev.evCode <;> first | exact pure _ | exact fail
  | label k => intro l a; cases l <;> unfold Ev.evCode <;> exact pure _
  | region id ops draw => intro l a; cases l <;> unfold Ev.evCode <;> first | exact fail | exact bind (evRegion hc nt ops draw _) (fun _ => pure _)
  | seq x y ihx ihy =>
    intro l a
    cases l with
    | none =>
      unfold Ev.evCode
      refine bind (ihx _ _) (fun r => ?_)
      split
      · exact ihy _ _
      · exact pure _
    | some l =>
      unfold Ev.evCode
      split
      · refine bind (ihx _ _) (fun r => ?_)
        split
        · exact ihy _ _
        · exact pure _
      · exact ihy _ _
  | cond c x y ihx ihy =>
    intro l a
    cases l with
    | some l => unfold Ev.evCode; exact fail
    | none =>
      unfold Ev.evCode
      split
      · exact ihx _ _
      · exact ihy _ _
      · exact fail
  | block id c ih =>
    intro l a
    cases l with
    | some l => unfold Ev.evCode; exact fail
    | none =>
      unfold Ev.evCode
      refine bind (ih _ _) (fun r => ?_)
      split
      · split <;> exact pure _
      · exact pure _
  | loop c ih =>
    intro l a
    cases l with
    | some l => unfold Ev.evCode; exact fail
    | none => unfold Ev.evCode; exact evLoop (fun a => ih _ a) _ _
  | rangeFunc f ps x y => intro l a; cases l <;> unfold Ev.evCode <;> exact fail
  | exit id => intro l a; cases l <;> unfold Ev.evCode <;> first | exact pure _ | exact fail
  | scope c ih =>
    intro l a
    cases l with
    | some l => unfold Ev.evCode; exact fail
    | none => unfold Ev.evCode; exact evScope (fun l a => ih l a) _ _ _
  | goto k => intro l a; cases l <;> unfold Ev.evCode <;> first | exact pure _ | exact fail
  | ret => intro l a; cases l <;> unfold Ev.evCode <;> first | exact pure _ | exact fail
  | refuse why => intro l a; cases l <;> unfold Ev.evCode <;> exact fail
theorem Made.evResults (a : Tr) : ∀ l : List ResultVar, Made (Ev.evResults P a l)
  | [] => by unfold Ev.evResults; exact pure _
  | .tmp t :: l => by unfold Ev.evResults; exact bind (evResults a l) (fun _ => pure _)
  | .cell x t :: l => by unfold Ev.evResults; exact bind (evLoad _ _) (fun _ => bind (evResults a l) (fun _ => pure _))
theorem Made.evBody (hc : ∀ f args, Made (call f args)) (lf : Nat) (fn : Func) (c : Code) (args : List Val) : Made (Ev.evBody P call lf fn c args) := by
  unfold Ev.evBody
  simp only [cTab_eq]
  refine bind (must _) (fun _ => bind (ofOpt _) (fun _ => bind (evCode hc lf _ c _ _) (fun r => ?_)))
  split
  · refine bind (evResults _ _) (fun _ => ?_)
    split <;> exact pure _
  · refine bind (evResults _ _) (fun _ => ?_)
    split <;> exact pure _
  · exact fail
theorem Made.evFn (X : Ext) (F : FuncId → Option Func) (lf : Nat) : ∀ (n : Nat) (f : FuncId) (args : List Val), Made (Ev.evFn P X F lf n f args)
  | 0, f, args => by unfold Ev.evFn; exact fail
  | n + 1, f, args => by
    unfold Ev.evFn
    split
    · exact pure _
    · split
      · split
        · exact tidy (evBody (fun f args => evFn X F lf n f args) _ _ _ _)
        · exact fail
      · exact fail
end

/-- The same run twice: once in a memory that holds no block but those made so far, once in one that holds others, too. -/
structure Pair (s0 s0' s s' : St) : Prop where
  base : s0.base ≤ s0.next
  inv : Inv s0
  left : s = { s0 with mem := s.mem }
  right : s' = { s0' with mem := s'.mem }
  agree : ∀ id, Touch s0 s0' id → look id s.mem = look id s0.mem

theorem Pair.next {s0 s0' s s' : St} (h : Pair s0 s0' s s') : s.next = s0.next ∧ s'.next = s0'.next := by
  have h1 := congrArg St.next h.left
  have h2 := congrArg St.next h.right
  exact ⟨h1, h2⟩
theorem Pair.same {s0 s0' : St} (hb : s0.base ≤ s0.next) (hi : Inv s0) : Pair s0 s0' s0 s0' := ⟨hb, hi, rfl, rfl, fun _ _ => rfl⟩

section
variable {α β : Type}
/-- Both runs come to the same, and what the second one's memory is like behind it. -/
theorem Local.pair {p : M α} (hp : Local p) {s0 s0' s s' : St} {v v' : α} (h0 : p s0 = some (v, s0')) (h : p s = some (v', s')) (hb : s0.base ≤ s0.next) (hi : Inv s0) (hl : s = { s0 with mem := s.mem })
    (ha : ∀ id, Touch s0 s0' id → look id s.mem = look id s0.mem) : v' = v ∧ Pair s0 s0' s s' ∧ Loc s0 s0' ∧ (∀ id, Touch s0 s0' id → look id s'.mem = look id s0'.mem) ∧ (∀ id, ¬ Alter s0 s0' id → look id s'.mem = look id s.mem) := by
  obtain ⟨l, k⟩ := hp _ _ _ h0 hb hi
  obtain ⟨m', e1, e2, e3⟩ := k s.mem ha
  rw [← hl, h] at e1
  simp only [Option.some.injEq, Prod.mk.injEq] at e1
  obtain ⟨rfl, e4⟩ := e1
  have e5 : s'.mem = m' := by rw [e4]
  refine ⟨rfl, ⟨hb, hi, hl, by rw [e5]; exact e4, ha⟩, l, fun id h => by rw [e5]; exact e2 id h, fun id h => by rw [e5]; exact e3 id h⟩

theorem pair_bind {p : M α} {f : α → M β} (hp : Made p) (hf : ∀ a, Made (f a)) {s0 s0' s s' : St} {v v' : β} (h0 : (p >>= f) s0 = some (v, s0')) (h : (p >>= f) s = some (v', s')) (hP : Pair s0 s0' s s') :
    ∃ a s01 s1, p s0 = some (a, s01) ∧ f a s01 = some (v, s0') ∧ p s = some (a, s1) ∧ f a s1 = some (v', s') ∧ Pair s0 s01 s s1 ∧ Pair s01 s0' s1 s' := by
  rw [bind_some] at h0 h
  obtain ⟨a0, s01, h1, h2⟩ := h0
  obtain ⟨a1, s1, h3, h4⟩ := h
  obtain ⟨l1, -⟩ := hp.loc _ _ _ h1 hP.base hP.inv
  obtain ⟨l2, -⟩ := (hf a0).loc _ _ _ h2 (by rw [l1.base]; exact Nat.le_trans hP.base l1.next) l1.inv
  have t1 : ∀ id, Touch s0 s01 id → Touch s0 s0' id := fun id h => by
    rcases h with h | h | ⟨h, h'⟩
    · exact .inl (l2.rd id h)
    · exact .inr (.inl (l2.wr id h))
    · exact .inr (.inr ⟨h, Nat.lt_of_lt_of_le h' l2.next⟩)
  obtain ⟨rfl, P1, _, e2, e3⟩ := hp.loc.pair h1 h3 hP.base hP.inv hP.left (fun id h => hP.agree id (t1 id h))
  refine ⟨a1, s01, s1, h1, h2, h3, h4, P1, ⟨by rw [l1.base]; exact Nat.le_trans hP.base l1.next, l1.inv, P1.right, hP.right, fun id h => ?_⟩⟩
  have h : Touch s0 s0' id := by unfold Touch at *; rw [l1.base] at h; exact h
  by_cases ht : Touch s0 s01 id
  · exact e2 id ht
  · have na : ¬ Alter s0 s01 id := fun h => ht (by
      rcases h with h | h
      · exact .inr (.inl h)
      · exact .inr (.inr h))
    rw [e3 id na, hP.agree id h]
    by_cases hid : id < s0.base
    · exact (l1.same id hid (fun h => na (.inl h))).symm
    · have : s01.next ≤ id := by
        rcases Nat.lt_or_ge id s01.next with h1 | h1
        · exact absurd (.inr ⟨by omega, h1⟩) na
        · exact h1
      have n1 : look id s01.mem = none := by
        cases hl : look id s01.mem with
        | none => rfl
        | some c => have := l1.inv id c hl; omega
      have n2 : look id s0.mem = none := by
        cases hl : look id s0.mem with
        | none => rfl
        | some c => have := hP.inv id c hl; have := l1.next; omega
      rw [n1, n2]
end
end Go.Proofs.YtjgdcifbhmjinaaDoor.Ev
end
