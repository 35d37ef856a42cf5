/-
  The abstract machine: values, operations, rules, what they stand for in memory. (No statement of the claim's own is proved here.)
-/
import Derived.Calls
import Derived.Orders
set_option linter.all false
namespace Go.Am

/-- Abstract values. -/
inductive AV where
  | val (v : Value)
  | top
  | nil
  | agg (cs : List AV)
  | tup (vs : List AV)
  | sl (k : Nat) (rows : List (List AV))
  | ref (cells : List AV)
  | osl (b i n : Nat)
  | optr (b i o : Nat)
  | fn (f : FuncId) (caps : List AV)
  | mv (f : FuncId) (first : List AV)
  | omap (b : Nat)
  deriving Inhabited

/-- Blocks that the computation owns. -/
inductive OB where
  | fresh
  | dead
  | cells (e : TypeId) (k : Nat) (rows : List (List AV))
  | siter (s : ByteArray) (pos : Nat)
  | map (es : List (Value × AV))
  deriving Inhabited

/-- What an operation does: the value that it yields, blocks that it changes, blocks that it makes, blocks that it reads. -/
structure Eff where
  v : AV
  w : List (Nat × OB) := []
  n : List OB := []
  r : List Nat := []

abbrev AV.int (k : IntKind) (n : Int) : AV := .val (.int k n)
abbrev AV.i (n : Int) : AV := .val (.int .i64 n)
abbrev AV.b (t : Bool) : AV := .val (.bool t)

/-- A string's bytes, and the string of bytes. -/
def bytes (s : ByteArray) : List UInt8 := s.data.toList
def S (l : List UInt8) : Value := .string ⟨l.toArray⟩
abbrev AV.s (l : List UInt8) : AV := .val (S l)
@[simp] theorem bytes_mk (l : List UInt8) : bytes ⟨l.toArray⟩ = l := rfl

/-- A value of one cell. -/
def AV.one : AV → Bool
  | .val (.agg _) | .val (.tuple _) | .top | .agg _ | .tup _ => false
  | _ => true

def AV.cells : AV → List AV
  | .agg cs => cs
  | v => [v]

/-- A constant as an abstract value. -/
def constAV : Value → AV
  | .slice none 0 0 => AV.nil
  | .agg cs => AV.agg (cs.toList.map fun | .slice none 0 0 => AV.nil | v => AV.val v)
  | v => AV.val v

def AV.toVal : AV → Option Value
  | .val v => some v
  | .agg cs => match cs.mapM (fun x => match x with | AV.val v => some v | _ => none) with | some (l : List Value) => some (Value.agg l.toArray) | none => none
  | _ => none

section types
variable (P : Program)
def szOf (t : TypeId) : Nat := ((P.info? t).map (·.size)).getD 0
def bytesOf (t : TypeId) : Nat := ((P.info? t).map (·.bytes)).getD 0
def aggT (t : TypeId) : Option Bool := match P.underlying t with | some (.struct _) | some (.array _ _) => some true | some _ => some false | none => none
/-- The offset and the type of a struct's field. -/
def fld (t : TypeId) (f : Nat) : Option (Nat × TypeId) := match P.underlying t with | some (.struct fs) => (fs[f]?).map fun x => (x.offset, x.type) | _ => none
def slElem (t : TypeId) : Option TypeId := match P.underlying t with | some (.slice e) => some e | _ => none
def arrElem (t : TypeId) : Option (Nat × TypeId) := match P.underlying t with | some (.array n e) => some (n, e) | _ => none
def isStr (t : TypeId) : Bool := match P.underlying t with | some .string => true | _ => false
def intKind (t : TypeId) : Option IntKind := match P.underlying t with | some (.int k) => some k | _ => none
def mapT (t : TypeId) : Option (TypeId × TypeId) := match P.underlying t with | some (.map k e) => some (k, e) | _ => none
/-- A struct type whose fields' types are known. -/
def fieldsOk (t : TypeId) : Bool := match P.underlying t with | some (.struct fs) => (fs.toList.mapM (fun f => (P.info? f.type).map fun i => (f.offset, i.size))).isSome | _ => false
def typed (t : TypeId) : Bool := (P.underlying t).isSome
def concrete (t : TypeId) : Bool := match P.underlying t with | some (.interface _) => false | some _ => true | none => false
/-- An append's second argument is no number (the form of 'append(x, make(..)...)'). -/
def notInt (ts : Array TypeId) : Bool := match ts[1]? with | some t => (match P.underlying t with | some (.int _) => false | some _ => true | none => false) | none => true
/-- The zero value. -/
def zeroAV (t : TypeId) : Option AV := ((P.info? t).bind (·.zero)).map constAV
end types

def setAll (hp : List OB) : List (Nat × OB) → List OB
  | [] => hp
  | (b, o) :: l => setAll (hp.set b o) l

/-- The abstract state: a frame's slots, and the owned blocks. -/
structure AState where
  fr : List AV
  hp : List OB

/-- A slot of a frame. -/
def slot : List AV → Nat → AV
  | [], _ => .top
  | a :: _, 0 => a
  | _ :: l, n + 1 => slot l n

def evalIn (fr : List AV) : Operand → AV
  | .tmp t => slot fr t
  | .const v => constAV v
  | .global g => .val (.pointer (some ⟨g, 0, none⟩))
  | .func f => .fn f []

def putDst (fr : List AV) (d : Option Nat) (v : AV) : List AV := match d with | some t => fr.set t v | none => fr

def AState.apply (σ : AState) (d : Option Nat) (e : Eff) : AState := { fr := putDst σ.fr d e.v, hp := setAll σ.hp e.w ++ e.n }

/-! ### Operations on scalars -/

def bit2 (k : IntKind) (op : BinOp) (a b : Int) : Option Int :=
  let x := BitVec.ofInt k.bits a
  let y := BitVec.ofInt k.bits b
  match op with
  | .and => some (k.wrap (x &&& y).toNat)
  | .or => some (k.wrap (x ||| y).toNat)
  | .xor => some (k.wrap (x ^^^ y).toNat)
  | .andNot => some (k.wrap (x &&& ~~~y).toNat)
  | _ => none

def abinInt (op : BinOp) (k : IntKind) (a b : Int) (K : Eff → Prop) : Prop :=
  match op with
  | .add => K { v := .int k (k.wrap (a + b)) }
  | .sub => K { v := .int k (k.wrap (a - b)) }
  | .mul => K { v := .int k (k.wrap (a * b)) }
  | .quo => b ≠ 0 ∧ K { v := .int k (k.wrap (a.tdiv b)) }
  | .rem => b ≠ 0 ∧ K { v := .int k (a.tmod b) }
  | .eql => K { v := .b (a == b) }
  | .neq => K { v := .b (a != b) }
  | .lss => K { v := .b (decide (a < b)) }
  | .leq => K { v := .b (decide (a ≤ b)) }
  | .gtr => K { v := .b (decide (a > b)) }
  | .geq => K { v := .b (decide (a ≥ b)) }
  | op => match bit2 k op a b with | some n => K { v := .int k n } | none => False

def abinStr (op : BinOp) (x y : List UInt8) (K : Eff → Prop) : Prop :=
  match op with
  | .add => x.length + y.length < 2 ^ 62 ∧ K { v := .s (x ++ y) }
  | .eql => K { v := .b (x == y) }
  | .neq => K { v := .b (!(x == y)) }
  | .lss => K { v := .b (Op.bytesLess x y) }
  | .leq => K { v := .b (Op.bytesLess x y || x == y) }
  | .gtr => K { v := .b (!(Op.bytesLess x y || x == y)) }
  | .geq => K { v := .b (!Op.bytesLess x y) }
  | _ => False

def seg (row : List AV) (o n : Nat) : List AV := (row.drop o).take n
def setSeg (row : List AV) (o : Nat) (cs : List AV) : List AV := row.take o ++ cs ++ row.drop (o + cs.length)

/-- Equality of plain data by its type: the cells of each. -/
def leafEq : Option TypeDesc → List AV → List AV → Option Bool
  | some .bool, [.val (.bool a)], [.val (.bool b)] => some (a == b)
  | some (.int _), [.val (.int k a)], [.val (.int k' b)] => if k = k' then some (a == b) else none
  | some .string, [.val (.string a)], [.val (.string b)] => some (bytes a == bytes b)
  | _, _, _ => none
def allEq {α : Type} (f : α → Option Bool) : List α → Option Bool
  | [] => some true
  | i :: l => match f i with | some true => allEq f l | r => r
def eqT (P : Program) : Nat → TypeId → List AV → List AV → Option Bool
  | 0, _, _, _ => none
  | d + 1, t, x, y => match P.underlying t with
    | some (.struct fs) => if P.stoodInHeld t = true then none else
      allEq (fun f : Field => if f.name = "_" then some true else if szOf P f.type = 0 ∨ x.length < f.offset + szOf P f.type ∨ y.length < f.offset + szOf P f.type then none else eqT P d f.type (seg x f.offset (szOf P f.type)) (seg y f.offset (szOf P f.type))) fs.toList
    | some (.array n e) => if szOf P e = 0 ∨ x.length < n * szOf P e ∨ y.length < n * szOf P e then none else allEq (fun i => eqT P d e (seg x (i * szOf P e) (szOf P e)) (seg y (i * szOf P e) (szOf P e))) (List.range n)
    | r => leafEq r x y

/-- Equality of values beyond ints and strings: bools, nil and what is not nil. 'lit': one of the operands is a constant. -/
def aeq (P : Program) (t : TypeId) (lit : Bool) (x y : AV) : Option Bool :=
  match P.underlying t, x, y with
  | some .bool, .val (.bool a), .val (.bool b) => some (a == b)
  | some (.pointer _), .val (.pointer none), .val (.pointer none) => some true
  | some (.pointer _), .val (.pointer none), .optr .. | some (.pointer _), .optr .., .val (.pointer none) => some false
  | some (.pointer _), .val (.pointer none), .ref _ | some (.pointer _), .ref _, .val (.pointer none) => some false
  | some (.pointer e), .optr b i o, .optr b' i' o' => if b = b' ∧ i = i' ∧ 0 < szOf P e then some (o == o') else none
  | some (.interface _), .val .nilIface, .val .nilIface => if lit then some true else none
  | some (.interface _), .val .nilIface, .val (.iface _ _) | some (.interface _), .val (.iface _ _), .val .nilIface => some false
  | some (.slice _), .nil, .nil => some true
  | some (.slice _), .osl .., .nil | some (.slice _), .nil, .osl .. => some false
  | some (.slice _), .sl _ (_ :: _), .nil | some (.slice _), .nil, .sl _ (_ :: _) => some false
  | _, _, _ => none

def isConst : Operand → Bool
  | .const _ => true
  | _ => false

def abin (P : Program) (u : TypeId) (lit : Bool) (op : BinOp) (x y : AV) (K : Eff → Prop) : Prop :=
  match x, y with
  | .val (.int k a), .val (.int k' b) =>
    match op with
    | .shl => 0 ≤ b ∧ K { v := .int k (k.wrap (a * 2 ^ (min b.toNat k.bits))) }
    | .shr => 0 ≤ b ∧ K { v := .int k (a.fdiv (2 ^ (min b.toNat k.bits))) }
    | op => k = k' ∧ abinInt op k a b K
  | .val (.string s), .val (.string s') => abinStr op (bytes s) (bytes s') K
  | .agg xs, .agg ys => match op with
    | .eql => match eqT P 100 u xs ys with | some t => (P.eqGuardType P.depth u = false ∧ aggT P u = some true) ∧ K { v := .b t } | none => False
    | .neq => match eqT P 100 u xs ys with | some t => (P.eqGuardType P.depth u = false ∧ aggT P u = some true) ∧ K { v := .b (!t) } | none => False
    | _ => False
  | x, y => match op with
    | .eql => match aeq P u lit x y with | some t => K { v := .b t } | none => False
    | .neq => match aeq P u lit x y with | some t => K { v := .b (!t) } | none => False
    | _ => False

/-! ### Names of owned blocks in a value -/
mutual
/-- No owned block is named. -/
def AV.closed : AV → Bool
  | .val _ | .top | .nil => true
  | .agg cs | .tup cs | .ref cs | .fn _ cs | .mv _ cs => closedL cs
  | .sl _ rows => closedR rows
  | .osl .. | .optr .. | .omap _ => false
def closedL : List AV → Bool
  | [] => true
  | x :: xs => x.closed && closedL xs
def closedR : List (List AV) → Bool
  | [] => true
  | r :: rs => closedL r && closedR rs
end
mutual
/-- No memory at all is named. -/
def AV.plain : AV → Bool
  | .val _ | .top | .nil => true
  | .agg cs | .tup cs => plainL cs
  | _ => false
def plainL : List AV → Bool
  | [] => true
  | x :: xs => x.plain && plainL xs
end
mutual
/-- Only blocks below 'n' are named. -/
def AV.under (n : Nat) : AV → Bool
  | .val _ | .top | .nil => true
  | .agg cs | .tup cs | .ref cs | .fn _ cs | .mv _ cs => underL n cs
  | .sl _ rows => underR n rows
  | .osl b _ _ | .optr b _ _ | .omap b => decide (b < n)
def underL (n : Nat) : List AV → Bool
  | [] => true
  | x :: xs => x.under n && underL n xs
def underR (n : Nat) : List (List AV) → Bool
  | [] => true
  | r :: rs => underL n r && underR n rs
end
mutual
/-- Blocks by other names: block j is called 'ids[j]'. -/
def AV.ren (ids : List Nat) : AV → AV
  | .val v => .val v
  | .top => .top
  | .nil => .nil
  | .agg cs => .agg (renL ids cs)
  | .tup cs => .tup (renL ids cs)
  | .ref cs => .ref (renL ids cs)
  | .fn f cs => .fn f (renL ids cs)
  | .mv f cs => .mv f (renL ids cs)
  | .sl k rows => .sl k (renR ids rows)
  | .osl b i n => .osl (ids.getD b 0) i n
  | .optr b i o => .optr (ids.getD b 0) i o
  | .omap b => .omap (ids.getD b 0)
def renL (ids : List Nat) : List AV → List AV
  | [] => []
  | x :: xs => x.ren ids :: renL ids xs
def renR (ids : List Nat) : List (List AV) → List (List AV)
  | [] => []
  | r :: rs => renL ids r :: renR ids rs
end
def OB.ren (ids : List Nat) : OB → OB
  | .cells e k rows => .cells e k (renR ids rows)
  | .map es => .map (es.map fun e => (e.1, e.2.ren ids))
  | o => o
def OB.under (n : Nat) : OB → Bool
  | .cells _ _ rows => underR n rows
  | .map es => es.all fun e => e.2.under n
  | _ => true
def OB.live : OB → Bool
  | .cells .. | .map _ | .siter .. => true
  | _ => false

/-- Owned blocks read as memory that nobody changes. -/
def res : Nat → List OB → AV → AV
  | 0, _, x => x
  | n + 1, hp, x => match x with
    | .osl b i l => match hp[b]? with
      | some (.cells _ k rows) => if i + l ≤ rows.length then .sl k (((rows.drop i).take l).map (·.map (res n hp))) else .osl b i l
      | _ => .osl b i l
    | .optr b i o => match hp[b]? with
      | some (.cells _ _ rows) => match rows[i]? with
        | some row => if o ≤ row.length then .ref ((row.drop o).map (res n hp)) else .optr b i o
        | none => .optr b i o
      | _ => .optr b i o
    | .agg cs => .agg (cs.map (res n hp))
    | .tup cs => .tup (cs.map (res n hp))
    | .fn f cs => .fn f (cs.map (res n hp))
    | .mv f cs => .mv f (cs.map (res n hp))
    | x => x

mutual
/-- 'y' says no more than 'x': a nil slice may be called an empty one. -/
def Sub : AV → AV → Prop
  | .nil, y => y = .nil ∨ ∃ k, y = .sl k []
  | .agg cs, y => ∃ ds, y = .agg ds ∧ SubL cs ds
  | .tup cs, y => ∃ ds, y = .tup ds ∧ SubL cs ds
  | .sl k rows, y => ∃ rows', y = .sl k rows' ∧ SubR rows rows'
  | .ref cs, y => ∃ ds, y = .ref ds ∧ SubL cs ds
  | .fn f cs, y => ∃ ds, y = .fn f ds ∧ SubL cs ds
  | .mv f cs, y => ∃ ds, y = .mv f ds ∧ SubL cs ds
  | x, y => x = y
def SubL : List AV → List AV → Prop
  | [], ys => ys = []
  | x :: xs, ys => ∃ y ys', ys = y :: ys' ∧ Sub x y ∧ SubL xs ys'
def SubR : List (List AV) → List (List AV) → Prop
  | [], ys => ys = []
  | x :: xs, ys => ∃ y ys', ys = y :: ys' ∧ SubL x y ∧ SubR xs ys'
end

/-- A call. The first form: a function that is handed, and hands back, immutable data: what is owned may be lent to it. The second form: it is handed blocks ('bl') of ours, and hands back blocks of its own. -/
def callK (C : FuncId → List AV → List OB → AV → List OB → Prop) (f : FuncId) (args : List AV) (hp : List OB) (K : Eff → Prop) : Prop :=
  (∃ n args' r, SubL (args.map (res n hp)) args' ∧ closedL args' = true ∧ C f args' [] r [] ∧ r.closed = true ∧ (closedL args = true ∨ r.plain = true) ∧
    K { v := r, r := if closedL args then [] else List.range hp.length }) ∨
  (∃ (bl : List Nat) (args' : List AV) (fp : List OB) (r : AV) (fp' : List OB) (wl : List (Nat × OB)), bl.Nodup ∧ bl.length = fp.length ∧
    (∀ j, j < bl.length → hp[bl.getD j 0]? = some ((fp.getD j .dead).ren bl)) ∧ (fp.all OB.live = true) ∧ (fp.all (OB.under fp.length) = true) ∧
    args = renL bl args' ∧ underL fp.length args' = true ∧ C f args' fp r fp' ∧ fp.length ≤ fp'.length ∧ r.under fp'.length = true ∧ (fp'.all (OB.under fp'.length) = true) ∧
    wl.Sublist (bl.zip ((fp'.take fp.length).map (OB.ren (bl ++ List.range' hp.length (fp'.length - fp.length))))) ∧
    (∀ p ∈ bl.zip ((fp'.take fp.length).map (OB.ren (bl ++ List.range' hp.length (fp'.length - fp.length)))), p ∈ wl ∨ hp[p.1]? = some p.2) ∧
    K { v := r.ren (bl ++ List.range' hp.length (fp'.length - fp.length)),
        w := wl,
        n := (fp'.drop fp.length).map (OB.ren (bl ++ List.range' hp.length (fp'.length - fp.length))), r := bl })

/-! ### Operations -/


/-- What a load yields of cells. -/
def loaded (P : Program) (t : TypeId) (cells : List AV) (r : List Nat) (K : Eff → Prop) : Prop :=
  match aggT P t with
  | some true => 0 < szOf P t ∧ szOf P t ≤ cells.length ∧ K { v := .agg (cells.take (szOf P t)), r }
  | some false => match cells with | c :: _ => K { v := c, r } | [] => False
  | none => False

/-- A bound of a slice expression. -/
def bound (ev : Operand → AV) (o : Option Operand) (d : Nat) : Option Int := match o with
  | none => some d
  | some y => match ev y with | .val (.int _ n) => some n | _ => none

def fillParts (P : Program) (t : TypeId) (ev : Operand → AV) : List (Nat × Operand) → List AV → Option (List AV)
  | [], cs => some cs
  | (i, x) :: l, cs => match fld P t i with
    | some (o, ft) => if (ev x).cells.length = szOf P ft ∧ (ev x).cells.all AV.one = true ∧ 0 < szOf P ft ∧ o + szOf P ft ≤ cs.length then fillParts P t ev l (setSeg cs o (ev x).cells) else none
    | none => none

def fillRows (k : Nat) (ev : Operand → AV) : List (Nat × Operand) → List (List AV) → Option (List (List AV))
  | [], rs => some rs
  | (i, x) :: l, rs => if (ev x).cells.length = k ∧ (ev x).cells.all AV.one = true ∧ i < rs.length then fillRows k ev l (rs.set i (ev x).cells) else none

def chunk (k : Nat) : Nat → List AV → List (List AV)
  | 0, _ => []
  | n + 1, cs => cs.take k :: chunk k n (cs.drop k)

/-- The slice of a block's, or of known, rows as a list of rows. -/
def rowsOf (hp : List OB) : AV → Option (List (List AV) × List Nat)
  | .nil => some ([], [])
  | .sl _ rows => some (rows, [])
  | .osl b i n => match hp[b]? with | some (.cells _ _ rows) => if i + n ≤ rows.length then some ((rows.drop i).take n, [b]) else none | _ => none
  | .val (.string s) => some ((bytes s).map fun c => [AV.int .u8 c.toNat], [])
  | _ => none

/-- A key's cells. -/
def vcells : Value → List AV
  | .agg cs => cs.toList.map AV.val
  | v => [AV.val v]
def shapeK (P : Program) (kt : TypeId) : Value → Bool
  | .agg _ => match aggT P kt with | some true => true | _ => false
  | _ => match aggT P kt with | some false => true | _ => false
/-- Equality of keys, where it can be told. -/
def keyEq (P : Program) (kt : TypeId) (k k' : Value) : Option Bool := match shapeK P kt k, shapeK P kt k' with
  | true, true => eqT P 100 kt (vcells k) (vcells k')
  | _, _ => none
def findK (P : Program) (kt : TypeId) (k : Value) : List (Value × AV) → Option (Option (Value × AV))
  | [] => some none
  | e :: l => match keyEq P kt k e.1 with
    | some true => some (some e)
    | some false => findK P kt k l
    | none => none
def setK (P : Program) (kt : TypeId) (k : Value) (x : AV) : List (Value × AV) → Option (List (Value × AV))
  | [] => some [(k, x)]
  | e :: l => match keyEq P kt k e.1 with
    | some true => match Instr.sameBits 10000 e.1 k with | true => some ((k, x) :: l) | false => none
    | some false => (setK P kt k x l).map (e :: ·)
    | none => none

/-- Rows of one byte each. -/
def bytesR : List (List AV) → Option (List UInt8)
  | [] => some []
  | [.val (.int .u8 n)] :: l => if 0 ≤ n ∧ n < 256 then (bytesR l).map (UInt8.ofNat n.toNat :: ·) else none
  | _ => none

/-- An array's type whose elements are a block's rows. -/
def rowArr (P : Program) (t : TypeId) (k : Nat) : Option Nat := match arrElem P t with
  | some (n, e) => if szOf P e = k ∧ 1 < n ∧ 0 < k ∧ szOf P t = n * k then some n else none
  | none => none

def fillElems (k : Nat) (ev : Operand → AV) : List (Nat × Operand) → List AV → Option (List AV)
  | [], cs => some cs
  | (i, x) :: l, cs => if (ev x).cells.length = k ∧ (ev x).cells.all AV.one = true ∧ 0 < k ∧ i * k + k ≤ cs.length then fillElems k ev l (setSeg cs (i * k) (ev x).cells) else none

/-- An element type of one byte. -/
def byteT (P : Program) (e : TypeId) : Bool := match intKind P e with | some .u8 => decide (szOf P e = 1) | _ => false
def ptrT (P : Program) (t : TypeId) : Option TypeId := match P.underlying t with | some (.pointer e) => some e | _ => none
def unsafeT (P : Program) (t : TypeId) : Bool := match P.underlying t with | some .unsafePointer => true | _ => false
/-- A variable of a type lies at a place of a block. -/
def liesT (P : Program) (e : TypeId) (cells o : Nat) (u : TypeId) (n : Nat) : Bool := liesAt P P.depth e (cells / P.cellsOf e) o u n

/-- A value's method, found without looking into memory. -/
def MethOK (P : Program) (t : TypeId) (v : Value) (name : String) (f : FuncId) : Prop := ∀ w, (method (P.types.size + Made.depth) t v name).run P w = .ok (f, v) w

def kind1 : AV → Option Nat
  | .val (.int ..) => some 0
  | _ => none

def aop (P : Program) (C : FuncId → List AV → List OB → AV → List OB → Prop) (o : Oper) (ev : Operand → AV) (hp : List OB) (K : Eff → Prop) : Prop :=
  match o.op with
  | .move x | .assign x => K { v := ev x }
  | .pick c a b => match ev c with
    | .val (.bool t) => (t = true → K { v := ev a }) ∧ (t = false → K { v := ev b })
    | _ => False
  | .alloc e => match arrElem P e with
    | some (n, el) => match zeroAV P e with
      | some z => 0 < szOf P el ∧ z.cells.length = n * szOf P el ∧ z.cells.all AV.one = true ∧ K { v := .optr hp.length 0 0, n := [.cells e (szOf P el) (chunk (szOf P el) n z.cells)] }
      | none => False
    | none => match zeroAV P e with
      | some z => 0 < szOf P e ∧ z.cells.length = szOf P e ∧ z.cells.all AV.one = true ∧ K { v := .optr hp.length 0 0, n := [.cells e (szOf P e) [z.cells]] }
      | none => False
  | .box e x => 0 < szOf P e ∧ (ev x).cells.length = szOf P e ∧ (ev x).cells.all AV.one = true ∧ K { v := .optr hp.length 0 0, n := [.cells e (szOf P e) [(ev x).cells]] }
  | .build t parts => match arrElem P t with
    | some (n, el) => match zeroAV P t with
      | some z => match fillElems (szOf P el) ev parts.toList z.cells with
        | some cs => ((match z with | .agg _ => true | _ => false) = true ∧ 0 < szOf P el) ∧ K { v := .agg cs }
        | none => False
      | none => False
    | none => match zeroAV P t with
      | some z => match fillParts P t ev parts.toList z.cells with
        | some cs => fieldsOk P t = true ∧ (match z with | .agg _ => true | _ => false) = true ∧ K { v := .agg cs }
        | none => False
      | none => False
  | .buildSlice t len parts => match slElem P t with
    | some e => match zeroAV P e with
      | some z => match fillRows (szOf P e) ev parts.toList (List.replicate len z.cells) with
        | some rs => 0 < szOf P e ∧ z.cells.length = szOf P e ∧ z.cells.all AV.one = true ∧ len * szOf P e ≤ 2 ^ 24 ∧ K { v := .osl hp.length 0 len, n := [.cells e (szOf P e) rs] }
        | none => False
      | none => False
    | none => False
  | .load t x => match ev x with
    | .ref cells => loaded P t cells [] K
    | .optr b i f => match hp[b]? with
      | some (.cells _ k rows) => match rowArr P t k with
        | some n => (f = 0 ∧ i + n ≤ rows.length) ∧ K { v := .agg ((rows.drop i).take n).flatten, r := [b] }
        | none => match rows[i]? with
          | some row => loaded P t (row.drop f) [b] K
          | none => False
      | _ => False
    | _ => False
  | .store t x y => match ev x with
    | .optr b i f => match hp[b]? with
      | some (.cells e k rows) => match rowArr P t k with
        | some n => (f = 0 ∧ i + n ≤ rows.length ∧ (ev y).cells.length = n * k ∧ (ev y).cells.all AV.one = true) ∧ K { v := .top, w := [(b, .cells e k (rows.take i ++ chunk k n (ev y).cells ++ rows.drop (i + n)))], r := [b] }
        | none => match rows[i]? with
          | some row => (ev y).cells.length = szOf P t ∧ (ev y).cells.all AV.one = true ∧ f + szOf P t ≤ k ∧ 0 < szOf P t ∧ K { v := .top, w := [(b, .cells e k (rows.set i (setSeg row f (ev y).cells)))], r := [b] }
          | none => False
      | _ => False
    | _ => False
  | .nilCheck x => match ev x with
    | .optr b i f => K { v := .optr b i f }
    | .ref cs => K { v := .ref cs }
    | .fn f cs => K { v := .fn f cs }
    | .mv f cs => K { v := .mv f cs }
    | _ => False
  | .binOp op u x y _ => abin P u (isConst x || isConst y) op (ev x) (ev y) K
  | .unOp op _ x => match op, ev x with
    | .not, .val (.bool t) => K { v := .b (!t) }
    | .neg, .val (.int k n) => K { v := .int k (k.wrap (0 - n)) }
    | .xor, .val (.int k n) => match bit2 k .xor (if k.signed then -1 else k.max) n with | some m => K { v := .int k m } | none => False
    | _, _ => False
  | .convert src dst x => match ev x with
    | .val (.int _ n) => match intKind P dst with | some k => typed P src = true ∧ K { v := .int k (k.wrap n) } | none => False
    | .val (.string s) => typed P src = true ∧ isStr P dst = true ∧ K { v := .val (.string s) }
    | .osl b i n => match slElem P src, rowsOf hp (.osl b i n) with
      | some e, some (rows, r) => match bytesR rows with
        | some l => (byteT P e = true ∧ isStr P dst = true) ∧ K { v := .s l, r }
        | none => False
      | _, _ => False
    | .sl k rows => match slElem P src with
      | some e => match bytesR rows with
        | some l => (byteT P e = true ∧ isStr P dst = true ∧ k = 1) ∧ K { v := .s l }
        | none => False
      | none => False
    | .nil => match slElem P src with
      | some e => (byteT P e = true ∧ isStr P dst = true) ∧ K { v := .s [] }
      | none => False
    | .optr b i o => match hp[b]? with
      | some (.cells e k rows) => match ptrT P src, ptrT P dst with
        | some u, none => (unsafeT P dst = true ∧ 0 < szOf P u ∧ i < rows.length ∧ o < k) ∧ K { v := .optr b i o, r := [b] }
        | none, some u => (unsafeT P src = true ∧ 0 < szOf P u ∧ i = 0 ∧ rows.length = 1 ∧ k = szOf P e ∧ liesT P e k o u 1 = true) ∧ K { v := .optr b i o, r := [b] }
        | _, _ => False
      | _ => False
    | _ => False
  | .makeInterface t x => match ev x with
    | .val v => concrete P t = true ∧ K { v := .val (.iface t v) }
    | _ => False
  | .makeFunc (.func f) first captured => (first = #[] → K { v := .fn f (captured.toList.map ev) }) ∧ (first ≠ #[] → captured = #[] ∧ K { v := .mv f (first.toList.map ev) })
  | .makeMap _ res => res = none ∧ K { v := .omap hp.length, n := [.map []] }
  | .makeSlice t l c => match slElem P t, ev l, ev c with
    | some e, .val (.int _ n), .val (.int _ m) => match zeroAV P e with
      | some z => 0 < szOf P e ∧ z.cells.length = szOf P e ∧ z.cells.all AV.one = true ∧ 0 ≤ n ∧ n ≤ m ∧ m * bytesOf P e ≤ 2 ^ 47 ∧ m < 2 ^ 62 ∧ K { v := .osl hp.length 0 n.toNat, n := [.cells e (szOf P e) (List.replicate m.toNat z.cells)] }
      | none => False
    | _, _, _ => False
  | .slice u x lo hi none => match ev x with
    | .val (.string s) => match bound ev lo 0, bound ev hi (bytes s).length with
      | some l, some h => isStr P u = true ∧ (0 ≤ l ∧ l ≤ h ∧ h ≤ (bytes s).length) ∧ K { v := .s (((bytes s).take h.toNat).drop l.toNat) }
      | _, _ => False
    | .sl k rows => match bound ev lo 0, bound ev hi rows.length with
      | some l, some h => (slElem P u).map (szOf P) = some k ∧ 0 < k ∧ (0 ≤ l ∧ l ≤ h ∧ h ≤ rows.length) ∧ K { v := .sl k ((rows.take h.toNat).drop l.toNat) }
      | _, _ => False
    | .osl b i n => match bound ev lo 0, bound ev hi n, hp[b]? with
      | some l, some h, some (.cells _ k _) => (slElem P u).map (szOf P) = some k ∧ (0 ≤ l ∧ l ≤ h ∧ h ≤ n) ∧ K { v := .osl b (i + l.toNat) (h.toNat - l.toNat), r := [b] }
      | _, _, _ => False
    | .nil => match bound ev lo 0, bound ev hi 0 with
      | some l, some h => ((slElem P u).map fun e => decide (0 < szOf P e)) = some true ∧ (l = 0 ∧ h = 0) ∧ K { v := .nil }
      | _, _ => False
    | .optr b 0 0 => match arrElem P u, lo, hi with
      | some (n, e), none, none => match hp[b]? with
        | some (.cells _ k rows) => szOf P e = k ∧ rows.length = n ∧ 0 < n ∧ K { v := .osl b 0 n, r := [b] }
        | _ => False
      | _, _, _ => False
    | _ => False
  | .fieldAddr t x f => match fld P t f with
    | some (off, ft) => match ev x with
      | .ref cells => szOf P ft ≠ 0 ∧ off ≤ cells.length ∧ K { v := .ref (cells.drop off) }
      | .optr b i c => szOf P ft ≠ 0 ∧ K { v := .optr b i (c + off) }
      | _ => False
    | none => False
  | .field t x f => match fld P t f with
    | some (off, ft) => match ev x with
      | .agg cells => loaded P ft (cells.drop off) [] K
      | _ => False
    | none => False
  | .indexAddr t x ix => match ev ix with
    | .val (.int _ n) => match ev x with
      | .sl k rows => 0 ≤ n ∧ match rows[n.toNat]? with | some row => (slElem P t).map (szOf P) = some k ∧ 0 < k ∧ K { v := .ref row } | none => False
      | .osl b i m => (0 ≤ n ∧ n < m) ∧ match hp[b]? with
        | some (.cells _ k _) => (slElem P t).map (szOf P) = some k ∧ K { v := .optr b (i + n.toNat) 0, r := [b] }
        | _ => False
      | .optr b 0 0 => match arrElem P t with
        | some (m, e) => (0 ≤ n ∧ n < m ∧ 1 < m) ∧ match hp[b]? with
          | some (.cells _ k rows) => szOf P e = k ∧ rows.length = m ∧ K { v := .optr b n.toNat 0, r := [b] }
          | _ => False
        | none => False
      | _ => False
    | _ => False
  | .index u x ix => match ev ix, ev x with
    | .val (.int _ n), .val (.string s) => isStr P u = true ∧ 0 ≤ n ∧ match (bytes s)[n.toNat]? with | some c => K { v := .int .u8 c.toNat } | none => False
    | _, _ => False
  | .lookup t x ix ok => match ev x, (ev ix).toVal with
    | .omap b, some k => match hp[b]?, mapT P t with
      | some (.map es), some (kt, e) => keyEq P kt k k = some true ∧ match findK P kt k es, ok with
        | some (some p), true => K { v := .tup [p.2, .b true], r := [b] }
        | some (some p), false => K { v := p.2, r := [b] }
        | some none, ok => match zeroAV P e with
          | some z => (ok = true → K { v := .tup [z, .b false], r := [b] }) ∧ (ok = false → K { v := z, r := [b] })
          | none => False
        | none, _ => False
      | _, _ => False
    | _, _ => False
  | .mapUpdate t m k x | .insert t m k x => match ev m, (ev k).toVal with
    | .omap b, some kv => match hp[b]?, mapT P t with
      | some (.map es), some (kt, _) => keyEq P kt kv kv = some true ∧ match setK P kt kv (ev x) es with
        | some es' => K { v := .top, r := [b], w := [(b, .map es')] }
        | none => False
      | _, _ => False
    | _, _ => False
  | .typeAssert x _ asserted ok => match ev x with
    | .val (.iface t v) => (ok = true ∧ concrete P asserted = true) ∧ (if t = asserted then K { v := .tup [.val v, .b true] } else match zeroAV P asserted with | some z => K { v := .tup [z, .b false] } | none => False)
    | .val .nilIface => (ok = true ∧ concrete P asserted = true) ∧ match zeroAV P asserted with | some z => K { v := .tup [z, .b false] } | none => False
    | _ => False
  | .extract t i => match ev t with
    | .tup vs => match vs[i]? with | some v => K { v } | none => False
    | _ => False
  | .call c => match c.callee, c.args.toList with
    | .builtin .len, [x] => match ev x with
      | .val (.string s) => (c.argTypes[0]?).any (isStr P) = true ∧ K { v := .i (bytes s).length }
      | .sl _ rows => ((c.argTypes[0]?).bind (slElem P)).isSome = true ∧ K { v := .i rows.length }
      | .osl _ _ n => ((c.argTypes[0]?).bind (slElem P)).isSome = true ∧ K { v := .i n }
      | .nil => ((c.argTypes[0]?).bind (slElem P)).isSome = true ∧ K { v := .i 0 }
      | .omap b => match hp[b]? with | some (.map es) => ((c.argTypes[0]?).bind (mapT P)).isSome = true ∧ K { v := .i es.length, r := [b] } | _ => False
      | _ => False
    | .builtin .append, [x, y] => match (c.argTypes[0]?).bind (slElem P), rowsOf hp (ev y) with
      | some e, some (more, r) => match zeroAV P e with
        | some z => (0 < szOf P e ∧ 0 < bytesOf P e ∧ z.cells.length = szOf P e ∧ notInt P c.argTypes = true) ∧ more.all (fun q => decide (q.length = szOf P e)) = true ∧ match ev x with
          | .nil => more.length * bytesOf P e ≤ 2 ^ 47 ∧ more ≠ [] ∧ K { v := .osl hp.length 0 more.length, r, n := [.cells e (szOf P e) more] }
          | .osl b 0 n => match hp[b]? with
            | some (.cells e' k rows) => (k = szOf P e ∧ e' = e) ∧ n ≤ rows.length ∧ (n + more.length) * bytesOf P e ≤ 2 ^ 47 ∧ K { v := .osl hp.length 0 (n + more.length), r := b :: r, w := [(b, .dead)], n := [.cells e k (rows.take n ++ more)] }
            | _ => False
          | _ => False
        | none => False
      | _, _ => False
    | .builtin .max, [x, y] => match ev x, ev y with
      | .val (.int k a), .val (.int _ b) => K { v := .int k (if b > a then b else a) }
      | _, _ => False
    | .builtin .min, [x, y] => match ev x, ev y with
      | .val (.int k a), .val (.int _ b) => K { v := .int k (if b < a then b else a) }
      | _, _ => False
    | .builtin .max, [x, y, z] => match ev x, ev y, ev z with
      | .val (.int k a), .val (.int _ b), .val (.int _ c) => K { v := .int k (if c > (if b > a then b else a) then c else (if b > a then b else a)) }
      | _, _, _ => False
    | .builtin .min, [x, y, z] => match ev x, ev y, ev z with
      | .val (.int k a), .val (.int _ b), .val (.int _ c) => K { v := .int k (if c < (if b < a then b else a) then c else (if b < a then b else a)) }
      | _, _, _ => False
    | .builtin .unsafeSliceData, [x] => match ev x with
      | .osl b i n => 0 < n ∧ K { v := .optr b i 0 }
      | .nil => K { v := .val (.pointer none) }
      | _ => False
    | .builtin .unsafeString, [x, y] => match ev x, ev y with
      | .optr b i 0, .val (.int .i64 n) => match hp[b]?, rowsOf hp (.osl b i n.toNat), (c.argTypes[0]?).bind (ptrT P) with
        | some (.cells e k rows), some (more, _), some u => match bytesR more with
          | some l => ((0 < n ∧ n < 9223372036854775808) ∧ i = 0 ∧ k = 1 ∧ e = u ∧ byteT P u = true ∧ P.cellsOf u = 1) ∧ K { v := .s l, r := [b], w := [(b, .dead)] }
          | none => False
        | _, _, _ => False
      | .val (.pointer none), .val (.int .i64 n) => (n = 0 ∧ (c.argTypes[0]?).isSome = true) ∧ K { v := .s [] }
      | _, _ => False
    | .value f, args => match ev f with
      | .fn g caps => callK C g (args.map ev ++ caps) hp K
      | .mv g fs => callK C g (fs ++ args.map ev) hp K
      | _ => False
    | .invoke x name, args => match ev x with
      | .val (.iface t v) => ∃ f, MethOK P t v name f ∧ callK C f (.val v :: args.map ev) hp K
      | _ => False
    | _, _ => False
  | .range t x => match ev x with
    | .val (.string s) => isStr P t = true ∧ K { v := .optr hp.length 0 0, n := [.siter s 0] }
    | _ => False
  | .next it true => match ev it with
    | .optr b 0 0 => match hp[b]? with
      | some (.siter s p) => (p < s.size → K { v := .tup [.b true, .i p, .val (.int .i32 (Utf8.decode s p).1)], w := [(b, .siter s (p + (Utf8.decode s p).2))], r := [b] }) ∧ (¬ p < s.size → K { v := .tup [.b false], r := [b] })
      | _ => False
    | _ => False
  | _ => False

inductive AExit where
  | normal
  | exit (id : Nat)
  | ret

/-- What an operation read and wrote. -/
abbrev Trace := List (List Nat × List Nat)
def foot (hp : List OB) (e : Eff) : List Nat × List Nat := (e.r, e.w.map (·.1) ++ List.range' hp.length e.n.length)

/-- Which operations must come before which: for each operation the list of those ahead of it. -/
def aheadGo : List Oper → List (List Nat) → List (List Nat)
  | [], acc => acc
  | o :: l, acc => aheadGo l (acc ++ [(o.after.toList.filter (Region.binds .any)).flatMap fun e => e.on :: acc.getD e.on []])

def disj (a b : List Nat) : Bool := a.all fun x => !b.contains x

/-- The slots that an operation reads. -/
def reads (all : Array Oper) (o : Oper) : List Nat :=
  (o.op.operands.toList.filterMap fun | .tmp t => some t | _ => none) ++
  (match o.guard with | some (g, _) => ((all[g]?).bind (·.dst)).toList | none => [])

/-- Two operations that may come in either order do not meet: neither in the frame nor in memory. -/
def apart (all : Array Oper) (x y : Oper) (fx fy : List Nat × List Nat) : Bool :=
  disj x.dst.toList (reads all y) && disj y.dst.toList (reads all x) && disj x.dst.toList y.dst.toList &&
  disj fx.2 fy.1 && disj fx.2 fy.2 && disj fy.2 fx.1

def drawOk (ops : Array Oper) (tr : Trace) : Bool :=
  let l := ops.toList
  let ah := aheadGo l []
  l.zipIdx.all fun (o, i) =>
    (o.after.all fun e => !Region.binds .any e || decide (e.on < i)) &&
    (l.zipIdx.all fun (p, j) => decide (i ≤ j) || (ah.getD i []).contains j || apart ops o p (tr.getD i ([], [])) (tr.getD j ([], [])))

/-- The operations of a region in the text's order. -/
def awpOps (P : Program) (C : FuncId → List AV → List OB → AV → List OB → Prop) (all : Array Oper) : List Oper → (AState → Trace → Prop) → AState → Trace → Prop
  | [], K, σ, tr => K σ tr.reverse
  | o :: rest, K, σ, tr =>
    match o.guard with
    | none => aop P C o (evalIn σ.fr) σ.hp fun e => awpOps P C all rest K (σ.apply o.dst e) (foot σ.hp e :: tr)
    | some (j, want) => match (all[j]?).bind (·.dst) with
      | none => False
      | some d => match slot σ.fr d with
        | .val (.bool t) =>
          (t = want → aop P C o (evalIn (σ.fr.set d (.b want))) σ.hp fun e => awpOps P C all rest K (({ σ with fr := σ.fr.set d (.b want) } : AState).apply o.dst e) (foot σ.hp e :: tr)) ∧
          (t = !want → awpOps P C all rest K { fr := putDst (σ.fr.set d (.b (!want))) o.dst (.val (.tuple #[])), hp := σ.hp } (([], []) :: tr))
        | .val (.tuple _) => awpOps P C all rest K { fr := putDst σ.fr o.dst (.val (.tuple #[])), hp := σ.hp } (([], []) :: tr)
        | _ => False

/-- Blocks out of a list alone; the others do not count. -/
def mask (F : List Nat) (hp : List OB) : List OB := hp.zipIdx.map fun p => if F.contains p.2 then p.1 else .dead
def OB.res (n : Nat) (hp : List OB) : OB → OB
  | .cells e k rows => .cells e k (rows.map (·.map (Am.res n hp)))
  | .map es => .map (es.map fun e => (e.1, Am.res n hp e.2))
  | o => o
def unmask (F : List Nat) (n : Nat) (hp : List OB) : List OB := hp.zipIdx.map fun p => if F.contains p.2 then .dead else p.1.res n (mask F hp)

/-- What may be forgotten on the way: blocks that are not written any more become immutable memory; blocks get other names, the first 'q' ones keep theirs; slots are forgotten. -/
inductive Weaker (q : Nat) : AState → AState → Prop
  | freeze (F : List Nat) (n : Nat) (fr : List AV) (hp : List OB) : Weaker q ⟨fr, hp⟩ ⟨fr.map (res n (mask F hp)), unmask F n hp⟩
  | ren (kp : List Nat) (fr fr' : List AV) (hp hp' : List OB) (nodup : kp.Nodup) (len : kp.length = hp'.length) (pin : ∀ j, j < q → kp[j]? = some j)
      (blk : ∀ j, j < hp'.length → hp[kp.getD j 0]? = some ((hp'.getD j .dead).ren kp)) (und : hp'.all (OB.under hp'.length) = true) (flen : fr'.length = fr.length)
      (slots : ∀ i, i < fr.length → slot fr' i = .top ∨ ((slot fr' i).under hp'.length = true ∧ Sub (slot fr i) ((slot fr' i).ren kp))) : Weaker q ⟨fr, hp⟩ ⟨fr', hp'⟩
  | forget (fr fr' : List AV) (hp : List OB) (flen : fr'.length = fr.length) (slots : ∀ i, i < fr.length → slot fr' i = .top ∨ Sub (slot fr i) (slot fr' i)) : Weaker q ⟨fr, hp⟩ ⟨fr', hp⟩

def thenQ (N : AState → Prop) (Q : AExit → AState → Prop) : AExit → AState → Prop
  | .normal, σ => N σ
  | e, σ => Q e σ

def inBlk (id : Nat) (Q : AExit → AState → Prop) : AExit → AState → Prop
  | .exit i, σ => if i = id then Q .normal σ else Q (.exit i) σ
  | e, σ => Q e σ

def endOps (ops : Array Oper) (draw : Bool) (N : AState → Prop) (σ : AState) (tr : Trace) : Prop := (draw = true → drawOk ops tr = true) ∧ N σ

def awp (P : Program) (C : FuncId → List AV → List OB → AV → List OB → Prop) (q : Nat) : Code → (AExit → AState → Prop) → AState → Prop
  | .skip, Q, σ => Q .normal σ
  | .region _ ops draw, Q, σ => awpOps P C ops ops.toList (endOps ops draw (Q .normal)) σ []
  | .seq x y, Q, σ => awp P C q x (thenQ (awp P C q y Q) Q) σ
  | .cond c x y, Q, σ => match evalIn σ.fr c with
    | .val (.bool t) => (t = true → awp P C q x Q σ) ∧ (t = false → awp P C q y Q σ)
    | _ => False
  | .block id c, Q, σ => awp P C q c (inBlk id Q) σ
  | .loop c, Q, σ => ∀ X : AState → Prop, (∀ σ, awp P C q c (thenQ X Q) σ → X σ) → (∀ σ σ', Weaker q σ σ' → X σ' → X σ) → X σ
  | .exit id, Q, σ => Q (.exit id) σ
  | .ret, Q, σ => Q .ret σ
  | .label _, Q, σ => Q .normal σ
  | _, _, _ => False

end Go.Am
namespace Go.Am
section
variable {P : Program} {C : FuncId → List AV → List OB → AV → List OB → Prop} {d : Option Tmp} {t : TypeId} {p : String} {af : Array Edge} {g : Option (Nat × Bool)} {ev : Operand → AV} {hp : List OB} {K : Eff → Prop}
theorem aop_move (x) : aop P C ⟨d, .move x, t, p, af, g⟩ ev hp K = (
    K { v := ev x }) := _root_.id rfl
theorem aop_assign (x) : aop P C ⟨d, .assign x, t, p, af, g⟩ ev hp K = (
    K { v := ev x }) := _root_.id rfl
theorem aop_pick (c a b) : aop P C ⟨d, .pick c a b, t, p, af, g⟩ ev hp K = (
    match ev c with
    | .val (.bool t) => (t = true → K { v := ev a }) ∧ (t = false → K { v := ev b })
    | _ => False) := _root_.id rfl
theorem aop_alloc (e) : aop P C ⟨d, .alloc e, t, p, af, g⟩ ev hp K = (
    match arrElem P e with
    | some (n, el) => match zeroAV P e with
      | some z => 0 < szOf P el ∧ z.cells.length = n * szOf P el ∧ z.cells.all AV.one = true ∧ K { v := .optr hp.length 0 0, n := [.cells e (szOf P el) (chunk (szOf P el) n z.cells)] }
      | none => False
    | none => match zeroAV P e with
      | some z => 0 < szOf P e ∧ z.cells.length = szOf P e ∧ z.cells.all AV.one = true ∧ K { v := .optr hp.length 0 0, n := [.cells e (szOf P e) [z.cells]] }
      | none => False) := _root_.id rfl
theorem aop_box (e x) : aop P C ⟨d, .box e x, t, p, af, g⟩ ev hp K = (
    0 < szOf P e ∧ (ev x).cells.length = szOf P e ∧ (ev x).cells.all AV.one = true ∧ K { v := .optr hp.length 0 0, n := [.cells e (szOf P e) [(ev x).cells]] }) := _root_.id rfl
theorem aop_build (y_t parts) : aop P C ⟨d, .build y_t parts, t, p, af, g⟩ ev hp K = (
    match arrElem P y_t with
    | some (n, el) => match zeroAV P y_t with
      | some z => match fillElems (szOf P el) ev parts.toList z.cells with
        | some cs => ((match z with | .agg _ => true | _ => false) = true ∧ 0 < szOf P el) ∧ K { v := .agg cs }
        | none => False
      | none => False
    | none => match zeroAV P y_t with
      | some z => match fillParts P y_t ev parts.toList z.cells with
        | some cs => fieldsOk P y_t = true ∧ (match z with | .agg _ => true | _ => false) = true ∧ K { v := .agg cs }
        | none => False
      | none => False) := _root_.id rfl
theorem aop_buildSlice (y_t len parts) : aop P C ⟨d, .buildSlice y_t len parts, t, p, af, g⟩ ev hp K = (
    match slElem P y_t with
    | some e => match zeroAV P e with
      | some z => match fillRows (szOf P e) ev parts.toList (List.replicate len z.cells) with
        | some rs => 0 < szOf P e ∧ z.cells.length = szOf P e ∧ z.cells.all AV.one = true ∧ len * szOf P e ≤ 2 ^ 24 ∧ K { v := .osl hp.length 0 len, n := [.cells e (szOf P e) rs] }
        | none => False
      | none => False
    | none => False) := _root_.id rfl
theorem aop_load (y_t x) : aop P C ⟨d, .load y_t x, t, p, af, g⟩ ev hp K = (
    match ev x with
    | .ref cells => loaded P y_t cells [] K
    | .optr b i f => match hp[b]? with
      | some (.cells _ k rows) => match rowArr P y_t k with
        | some n => (f = 0 ∧ i + n ≤ rows.length) ∧ K { v := .agg ((rows.drop i).take n).flatten, r := [b] }
        | none => match rows[i]? with
          | some row => loaded P y_t (row.drop f) [b] K
          | none => False
      | _ => False
    | _ => False) := _root_.id rfl
theorem aop_store (y_t x y) : aop P C ⟨d, .store y_t x y, t, p, af, g⟩ ev hp K = (
    match ev x with
    | .optr b i f => match hp[b]? with
      | some (.cells e k rows) => match rowArr P y_t k with
        | some n => (f = 0 ∧ i + n ≤ rows.length ∧ (ev y).cells.length = n * k ∧ (ev y).cells.all AV.one = true) ∧ K { v := .top, w := [(b, .cells e k (rows.take i ++ chunk k n (ev y).cells ++ rows.drop (i + n)))], r := [b] }
        | none => match rows[i]? with
          | some row => (ev y).cells.length = szOf P y_t ∧ (ev y).cells.all AV.one = true ∧ f + szOf P y_t ≤ k ∧ 0 < szOf P y_t ∧ K { v := .top, w := [(b, .cells e k (rows.set i (setSeg row f (ev y).cells)))], r := [b] }
          | none => False
      | _ => False
    | _ => False) := _root_.id rfl
theorem aop_nilCheck (x) : aop P C ⟨d, .nilCheck x, t, p, af, g⟩ ev hp K = (
    match ev x with
    | .optr b i f => K { v := .optr b i f }
    | .ref cs => K { v := .ref cs }
    | .fn f cs => K { v := .fn f cs }
    | .mv f cs => K { v := .mv f cs }
    | _ => False) := _root_.id rfl
theorem aop_binOp (op u x y u1) : aop P C ⟨d, .binOp op u x y u1, t, p, af, g⟩ ev hp K = (
    abin P u (isConst x || isConst y) op (ev x) (ev y) K) := _root_.id rfl
theorem aop_unOp (op u1 x) : aop P C ⟨d, .unOp op u1 x, t, p, af, g⟩ ev hp K = (
    match op, ev x with
    | .not, .val (.bool t) => K { v := .b (!t) }
    | .neg, .val (.int k n) => K { v := .int k (k.wrap (0 - n)) }
    | .xor, .val (.int k n) => match bit2 k .xor (if k.signed then -1 else k.max) n with | some m => K { v := .int k m } | none => False
    | _, _ => False) := _root_.id rfl
theorem aop_convert (src dst x) : aop P C ⟨d, .convert src dst x, t, p, af, g⟩ ev hp K = (
    match ev x with
    | .val (.int _ n) => match intKind P dst with | some k => typed P src = true ∧ K { v := .int k (k.wrap n) } | none => False
    | .val (.string s) => typed P src = true ∧ isStr P dst = true ∧ K { v := .val (.string s) }
    | .osl b i n => match slElem P src, rowsOf hp (.osl b i n) with
      | some e, some (rows, r) => match bytesR rows with
        | some l => (byteT P e = true ∧ isStr P dst = true) ∧ K { v := .s l, r }
        | none => False
      | _, _ => False
    | .sl k rows => match slElem P src with
      | some e => match bytesR rows with
        | some l => (byteT P e = true ∧ isStr P dst = true ∧ k = 1) ∧ K { v := .s l }
        | none => False
      | none => False
    | .nil => match slElem P src with
      | some e => (byteT P e = true ∧ isStr P dst = true) ∧ K { v := .s [] }
      | none => False
    | .optr b i o => match hp[b]? with
      | some (.cells e k rows) => match ptrT P src, ptrT P dst with
        | some u, none => (unsafeT P dst = true ∧ 0 < szOf P u ∧ i < rows.length ∧ o < k) ∧ K { v := .optr b i o, r := [b] }
        | none, some u => (unsafeT P src = true ∧ 0 < szOf P u ∧ i = 0 ∧ rows.length = 1 ∧ k = szOf P e ∧ liesT P e k o u 1 = true) ∧ K { v := .optr b i o, r := [b] }
        | _, _ => False
      | _ => False
    | _ => False) := _root_.id rfl
theorem aop_makeInterface (y_t x) : aop P C ⟨d, .makeInterface y_t x, t, p, af, g⟩ ev hp K = (
    match ev x with
    | .val v => concrete P y_t = true ∧ K { v := .val (.iface y_t v) }
    | _ => False) := _root_.id rfl
theorem aop_makeFunc (fnid first captured) : aop P C ⟨d, .makeFunc (.func fnid) first captured, t, p, af, g⟩ ev hp K = (
    (first = #[] → K { v := .fn fnid (captured.toList.map ev) }) ∧ (first ≠ #[] → captured = #[] ∧ K { v := .mv fnid (first.toList.map ev) })) := _root_.id rfl
theorem aop_makeMap (u1 res) : aop P C ⟨d, .makeMap u1 res, t, p, af, g⟩ ev hp K = (
    res = none ∧ K { v := .omap hp.length, n := [.map []] }) := _root_.id rfl
theorem aop_makeSlice (y_t l c) : aop P C ⟨d, .makeSlice y_t l c, t, p, af, g⟩ ev hp K = (
    match slElem P y_t, ev l, ev c with
    | some e, .val (.int _ n), .val (.int _ m) => match zeroAV P e with
      | some z => 0 < szOf P e ∧ z.cells.length = szOf P e ∧ z.cells.all AV.one = true ∧ 0 ≤ n ∧ n ≤ m ∧ m * bytesOf P e ≤ 2 ^ 47 ∧ m < 2 ^ 62 ∧ K { v := .osl hp.length 0 n.toNat, n := [.cells e (szOf P e) (List.replicate m.toNat z.cells)] }
      | none => False
    | _, _, _ => False) := _root_.id rfl
theorem aop_slice (u x lo hi) : aop P C ⟨d, .slice u x lo hi none, t, p, af, g⟩ ev hp K = (
    match ev x with
    | .val (.string s) => match bound ev lo 0, bound ev hi (bytes s).length with
      | some l, some h => isStr P u = true ∧ (0 ≤ l ∧ l ≤ h ∧ h ≤ (bytes s).length) ∧ K { v := .s (((bytes s).take h.toNat).drop l.toNat) }
      | _, _ => False
    | .sl k rows => match bound ev lo 0, bound ev hi rows.length with
      | some l, some h => (slElem P u).map (szOf P) = some k ∧ 0 < k ∧ (0 ≤ l ∧ l ≤ h ∧ h ≤ rows.length) ∧ K { v := .sl k ((rows.take h.toNat).drop l.toNat) }
      | _, _ => False
    | .osl b i n => match bound ev lo 0, bound ev hi n, hp[b]? with
      | some l, some h, some (.cells _ k _) => (slElem P u).map (szOf P) = some k ∧ (0 ≤ l ∧ l ≤ h ∧ h ≤ n) ∧ K { v := .osl b (i + l.toNat) (h.toNat - l.toNat), r := [b] }
      | _, _, _ => False
    | .nil => match bound ev lo 0, bound ev hi 0 with
      | some l, some h => ((slElem P u).map fun e => decide (0 < szOf P e)) = some true ∧ (l = 0 ∧ h = 0) ∧ K { v := .nil }
      | _, _ => False
    | .optr b 0 0 => match arrElem P u, lo, hi with
      | some (n, e), none, none => match hp[b]? with
        | some (.cells _ k rows) => szOf P e = k ∧ rows.length = n ∧ 0 < n ∧ K { v := .osl b 0 n, r := [b] }
        | _ => False
      | _, _, _ => False
    | _ => False) := _root_.id rfl
theorem aop_fieldAddr (y_t x f) : aop P C ⟨d, .fieldAddr y_t x f, t, p, af, g⟩ ev hp K = (
    match fld P y_t f with
    | some (off, ft) => match ev x with
      | .ref cells => szOf P ft ≠ 0 ∧ off ≤ cells.length ∧ K { v := .ref (cells.drop off) }
      | .optr b i c => szOf P ft ≠ 0 ∧ K { v := .optr b i (c + off) }
      | _ => False
    | none => False) := _root_.id rfl
theorem aop_field (y_t x f) : aop P C ⟨d, .field y_t x f, t, p, af, g⟩ ev hp K = (
    match fld P y_t f with
    | some (off, ft) => match ev x with
      | .agg cells => loaded P ft (cells.drop off) [] K
      | _ => False
    | none => False) := _root_.id rfl
theorem aop_indexAddr (y_t x ix) : aop P C ⟨d, .indexAddr y_t x ix, t, p, af, g⟩ ev hp K = (
    match ev ix with
    | .val (.int _ n) => match ev x with
      | .sl k rows => 0 ≤ n ∧ match rows[n.toNat]? with | some row => (slElem P y_t).map (szOf P) = some k ∧ 0 < k ∧ K { v := .ref row } | none => False
      | .osl b i m => (0 ≤ n ∧ n < m) ∧ match hp[b]? with
        | some (.cells _ k _) => (slElem P y_t).map (szOf P) = some k ∧ K { v := .optr b (i + n.toNat) 0, r := [b] }
        | _ => False
      | .optr b 0 0 => match arrElem P y_t with
        | some (m, e) => (0 ≤ n ∧ n < m ∧ 1 < m) ∧ match hp[b]? with
          | some (.cells _ k rows) => szOf P e = k ∧ rows.length = m ∧ K { v := .optr b n.toNat 0, r := [b] }
          | _ => False
        | none => False
      | _ => False
    | _ => False) := _root_.id rfl
theorem aop_index (u x ix) : aop P C ⟨d, .index u x ix, t, p, af, g⟩ ev hp K = (
    match ev ix, ev x with
    | .val (.int _ n), .val (.string s) => isStr P u = true ∧ 0 ≤ n ∧ match (bytes s)[n.toNat]? with | some c => K { v := .int .u8 c.toNat } | none => False
    | _, _ => False) := _root_.id rfl
theorem aop_lookup (y_t x ix ok) : aop P C ⟨d, .lookup y_t x ix ok, t, p, af, g⟩ ev hp K = (
    match ev x, (ev ix).toVal with
    | .omap b, some k => match hp[b]?, mapT P y_t with
      | some (.map es), some (kt, e) => keyEq P kt k k = some true ∧ match findK P kt k es, ok with
        | some (some p), true => K { v := .tup [p.2, .b true], r := [b] }
        | some (some p), false => K { v := p.2, r := [b] }
        | some none, ok => match zeroAV P e with
          | some z => (ok = true → K { v := .tup [z, .b false], r := [b] }) ∧ (ok = false → K { v := z, r := [b] })
          | none => False
        | none, _ => False
      | _, _ => False
    | _, _ => False) := _root_.id rfl
theorem aop_mapUpdate (y_t m k x) : aop P C ⟨d, .mapUpdate y_t m k x, t, p, af, g⟩ ev hp K = (
    match ev m, (ev k).toVal with
    | .omap b, some kv => match hp[b]?, mapT P y_t with
      | some (.map es), some (kt, _) => keyEq P kt kv kv = some true ∧ match setK P kt kv (ev x) es with
        | some es' => K { v := .top, r := [b], w := [(b, .map es')] }
        | none => False
      | _, _ => False
    | _, _ => False) := _root_.id rfl
theorem aop_insert (y_t m k x) : aop P C ⟨d, .insert y_t m k x, t, p, af, g⟩ ev hp K = (
    match ev m, (ev k).toVal with
    | .omap b, some kv => match hp[b]?, mapT P y_t with
      | some (.map es), some (kt, _) => keyEq P kt kv kv = some true ∧ match setK P kt kv (ev x) es with
        | some es' => K { v := .top, r := [b], w := [(b, .map es')] }
        | none => False
      | _, _ => False
    | _, _ => False) := _root_.id rfl
theorem aop_typeAssert (x u1 asserted ok) : aop P C ⟨d, .typeAssert x u1 asserted ok, t, p, af, g⟩ ev hp K = (
    match ev x with
    | .val (.iface t v) => (ok = true ∧ concrete P asserted = true) ∧ (if t = asserted then K { v := .tup [.val v, .b true] } else match zeroAV P asserted with | some z => K { v := .tup [z, .b false] } | none => False)
    | .val .nilIface => (ok = true ∧ concrete P asserted = true) ∧ match zeroAV P asserted with | some z => K { v := .tup [z, .b false] } | none => False
    | _ => False) := _root_.id rfl
theorem aop_extract (y_t i) : aop P C ⟨d, .extract y_t i, t, p, af, g⟩ ev hp K = (
    match ev y_t with
    | .tup vs => match vs[i]? with | some v => K { v } | none => False
    | _ => False) := _root_.id rfl
theorem aop_range (y_t x) : aop P C ⟨d, .range y_t x, t, p, af, g⟩ ev hp K = (
    match ev x with
    | .val (.string s) => isStr P y_t = true ∧ K { v := .optr hp.length 0 0, n := [.siter s 0] }
    | _ => False) := _root_.id rfl
theorem aop_next (it) : aop P C ⟨d, .next it true, t, p, af, g⟩ ev hp K = (
    match ev it with
    | .optr b 0 0 => match hp[b]? with
      | some (.siter s p) => (p < s.size → K { v := .tup [.b true, .i p, .val (.int .i32 (Utf8.decode s p).1)], w := [(b, .siter s (p + (Utf8.decode s p).2))], r := [b] }) ∧ (¬ p < s.size → K { v := .tup [.b false], r := [b] })
      | _ => False
    | _ => False) := _root_.id rfl
theorem aop_len (x ty) : aop P C ⟨d, .call ⟨.builtin .len, #[x], ty⟩, t, p, af, g⟩ ev hp K = (
    match ev x with
      | .val (.string s) => (ty[0]?).any (isStr P) = true ∧ K { v := .i (bytes s).length }
      | .sl _ rows => ((ty[0]?).bind (slElem P)).isSome = true ∧ K { v := .i rows.length }
      | .osl _ _ n => ((ty[0]?).bind (slElem P)).isSome = true ∧ K { v := .i n }
      | .nil => ((ty[0]?).bind (slElem P)).isSome = true ∧ K { v := .i 0 }
      | .omap b => match hp[b]? with | some (.map es) => ((ty[0]?).bind (mapT P)).isSome = true ∧ K { v := .i es.length, r := [b] } | _ => False
      | _ => False) := _root_.id rfl
theorem aop_append (x y ty) : aop P C ⟨d, .call ⟨.builtin .append, #[x, y], ty⟩, t, p, af, g⟩ ev hp K = (
    match (ty[0]?).bind (slElem P), rowsOf hp (ev y) with
      | some e, some (more, r) => match zeroAV P e with
        | some z => (0 < szOf P e ∧ 0 < bytesOf P e ∧ z.cells.length = szOf P e ∧ notInt P ty = true) ∧ more.all (fun q => decide (q.length = szOf P e)) = true ∧ match ev x with
          | .nil => more.length * bytesOf P e ≤ 2 ^ 47 ∧ more ≠ [] ∧ K { v := .osl hp.length 0 more.length, r, n := [.cells e (szOf P e) more] }
          | .osl b 0 n => match hp[b]? with
            | some (.cells e' k rows) => (k = szOf P e ∧ e' = e) ∧ n ≤ rows.length ∧ (n + more.length) * bytesOf P e ≤ 2 ^ 47 ∧ K { v := .osl hp.length 0 (n + more.length), r := b :: r, w := [(b, .dead)], n := [.cells e k (rows.take n ++ more)] }
            | _ => False
          | _ => False
        | none => False
      | _, _ => False) := _root_.id rfl
theorem aop_max (x y ty) : aop P C ⟨d, .call ⟨.builtin .max, #[x, y], ty⟩, t, p, af, g⟩ ev hp K = (
    match ev x, ev y with
      | .val (.int k a), .val (.int _ b) => K { v := .int k (if b > a then b else a) }
      | _, _ => False) := _root_.id rfl
theorem aop_min (x y ty) : aop P C ⟨d, .call ⟨.builtin .min, #[x, y], ty⟩, t, p, af, g⟩ ev hp K = (
    match ev x, ev y with
      | .val (.int k a), .val (.int _ b) => K { v := .int k (if b < a then b else a) }
      | _, _ => False) := _root_.id rfl
theorem aop_max3 (x y z ty) : aop P C ⟨d, .call ⟨.builtin .max, #[x, y, z], ty⟩, t, p, af, g⟩ ev hp K = (
    match ev x, ev y, ev z with
      | .val (.int k a), .val (.int _ b), .val (.int _ c) => K { v := .int k (if c > (if b > a then b else a) then c else (if b > a then b else a)) }
      | _, _, _ => False) := _root_.id rfl
theorem aop_min3 (x y z ty) : aop P C ⟨d, .call ⟨.builtin .min, #[x, y, z], ty⟩, t, p, af, g⟩ ev hp K = (
    match ev x, ev y, ev z with
      | .val (.int k a), .val (.int _ b), .val (.int _ c) => K { v := .int k (if c < (if b < a then b else a) then c else (if b < a then b else a)) }
      | _, _, _ => False) := _root_.id rfl
theorem aop_unsafeSliceData (x ty) : aop P C ⟨d, .call ⟨.builtin .unsafeSliceData, #[x], ty⟩, t, p, af, g⟩ ev hp K = (
    match ev x with
      | .osl b i n => 0 < n ∧ K { v := .optr b i 0 }
      | .nil => K { v := .val (.pointer none) }
      | _ => False) := _root_.id rfl
theorem aop_unsafeString (x y ty) : aop P C ⟨d, .call ⟨.builtin .unsafeString, #[x, y], ty⟩, t, p, af, g⟩ ev hp K = (
    match ev x, ev y with
      | .optr b i 0, .val (.int .i64 n) => match hp[b]?, rowsOf hp (.osl b i n.toNat), (ty[0]?).bind (ptrT P) with
        | some (.cells e k rows), some (more, _), some u => match bytesR more with
          | some l => ((0 < n ∧ n < 9223372036854775808) ∧ i = 0 ∧ k = 1 ∧ e = u ∧ byteT P u = true ∧ P.cellsOf u = 1) ∧ K { v := .s l, r := [b], w := [(b, .dead)] }
          | none => False
        | _, _, _ => False
      | .val (.pointer none), .val (.int .i64 n) => (n = 0 ∧ (ty[0]?).isSome = true) ∧ K { v := .s [] }
      | _, _ => False) := _root_.id rfl
end

theorem aop_callv {P : Program} {C : FuncId → List AV → List OB → AV → List OB → Prop} {d : Option Tmp} {t : TypeId} {p : String} {af : Array Edge} {g : Option (Nat × Bool)} {ev : Operand → AV} {hp : List OB} {K : Eff → Prop} (f args ty) : aop P C ⟨d, .call ⟨.value f, List.toArray args, ty⟩, t, p, af, g⟩ ev hp K = (match ev f with
      | .fn g caps => callK C g (args.map ev ++ caps) hp K
      | .mv g fs => callK C g (fs ++ args.map ev) hp K
      | _ => False) := _root_.id rfl
theorem aop_invoke {P : Program} {C : FuncId → List AV → List OB → AV → List OB → Prop} {d : Option Tmp} {t : TypeId} {p : String} {af : Array Edge} {g : Option (Nat × Bool)} {ev : Operand → AV} {hp : List OB} {K : Eff → Prop} (x name args ty) : aop P C ⟨d, .call ⟨.invoke x name, List.toArray args, ty⟩, t, p, af, g⟩ ev hp K = (match ev x with
      | .val (.iface t v) => ∃ f, MethOK P t v name f ∧ callK C f (.val v :: args.map ev) hp K
      | _ => False) := _root_.id rfl
/-- What is left to do, as data. -/
inductive Cont where
  | fin (q : Nat) (Q : AExit → AState → Prop)
  | seq (y : Code) (k : Cont)
  | blk (id : Nat) (k : Cont)
  | lp (X : AState → Prop) (k : Cont)

def Cont.pins : Cont → Nat
  | .fin q _ => q
  | .seq _ k | .blk _ k | .lp _ k => k.pins

def den (P : Program) (C : FuncId → List AV → List OB → AV → List OB → Prop) : Cont → AExit → AState → Prop
  | .fin _ Q => Q
  | .seq y k => thenQ (awp P C k.pins y (den P C k)) (den P C k)
  | .blk id k => inBlk id (den P C k)
  | .lp X k => thenQ X (den P C k)

def W (P : Program) (C : FuncId → List AV → List OB → AV → List OB → Prop) (c : Code) (k : Cont) (σ : AState) : Prop := awp P C k.pins c (den P C k) σ
def loopW (P : Program) (C : FuncId → List AV → List OB → AV → List OB → Prop) (c : Code) (k : Cont) (σ : AState) : Prop := awp P C k.pins (.loop c) (den P C k) σ
def Ops (P : Program) (C : FuncId → List AV → List OB → AV → List OB → Prop) (all : Array Oper) (draw : Bool) (rest : List Oper) (k : Cont) (fr : List AV) (hp : List OB) (tr : Trace) : Prop :=
  awpOps P C all rest (endOps all draw (den P C k .normal)) ⟨fr, hp⟩ tr
def kont (P : Program) (C : FuncId → List AV → List OB → AV → List OB → Prop) (all : Array Oper) (draw : Bool) (rest : List Oper) (k : Cont) (fr : List AV) (hp : List OB) (tr : Trace) (d : Option Tmp) (e : Eff) : Prop :=
  Ops P C all draw rest k (putDst fr d e.v) (setAll hp e.w ++ e.n) (foot hp e :: tr)

section
variable {P : Program} {C : FuncId → List AV → List OB → AV → List OB → Prop} {k : Cont} {fr : List AV} {hp : List OB} {σ : AState} {all : Array Oper} {draw : Bool} {rest : List Oper} {tr : Trace}
theorem W_skip : W P C .skip k σ = den P C k .normal σ := _root_.id rfl
theorem W_seq (x y) : W P C (.seq x y) k σ = W P C x (.seq y k) σ := _root_.id rfl
theorem W_block (id c) : W P C (.block id c) k σ = W P C c (.blk id k) σ := _root_.id rfl
theorem W_exit (id) : W P C (.exit id) k σ = den P C k (.exit id) σ := _root_.id rfl
theorem W_ret : W P C .ret k σ = den P C k .ret σ := _root_.id rfl
theorem W_label (l) : W P C (.label l) k σ = den P C k .normal σ := _root_.id rfl
theorem W_loop (c) : W P C (.loop c) k σ = loopW P C c k σ := _root_.id rfl
theorem W_cond (c x y) : W P C (.cond c x y) k ⟨fr, hp⟩ = (match evalIn fr c with
    | .val (.bool t) => (t = true → W P C x k ⟨fr, hp⟩) ∧ (t = false → W P C y k ⟨fr, hp⟩)
    | _ => False) := _root_.id rfl
theorem W_region (id ops dr) : W P C (.region id (List.toArray ops) dr) k ⟨fr, hp⟩ = Ops P C (List.toArray ops) dr ops k fr hp [] := _root_.id rfl
theorem den_seq (y) : den P C (.seq y k) .normal σ = W P C y k σ := _root_.id rfl
theorem den_seq_ret (y) : den P C (.seq y k) .ret σ = den P C k .ret σ := _root_.id rfl
theorem den_seq_exit (y i) : den P C (.seq y k) (.exit i) σ = den P C k (.exit i) σ := _root_.id rfl
theorem den_blk (id) : den P C (.blk id k) .normal σ = den P C k .normal σ := _root_.id rfl
theorem den_blk_ret (id) : den P C (.blk id k) .ret σ = den P C k .ret σ := _root_.id rfl
theorem den_blk_exit (id i) : den P C (.blk id k) (.exit i) σ = if i = id then den P C k .normal σ else den P C k (.exit i) σ := _root_.id rfl
theorem den_lp (X) : den P C (.lp X k) .normal σ = X σ := _root_.id rfl
theorem den_lp_ret (X) : den P C (.lp X k) .ret σ = den P C k .ret σ := _root_.id rfl
theorem den_lp_exit (X i) : den P C (.lp X k) (.exit i) σ = den P C k (.exit i) σ := _root_.id rfl
theorem den_fin (q Q e) : den P C (.fin q Q) e σ = Q e σ := _root_.id rfl
theorem Ops_nil : Ops P C all draw [] k fr hp tr = ((draw = true → drawOk all tr.reverse = true) ∧ den P C k .normal ⟨fr, hp⟩) := _root_.id rfl
theorem Ops_cons (d op t p af) : Ops P C all draw (⟨d, op, t, p, af, none⟩ :: rest) k fr hp tr = aop P C ⟨d, op, t, p, af, none⟩ (evalIn fr) hp (kont P C all draw rest k fr hp tr d) := _root_.id rfl
theorem Ops_guard (d op t p af j want) : Ops P C all draw (⟨d, op, t, p, af, some (j, want)⟩ :: rest) k fr hp tr = (match (all[j]?).bind (·.dst) with
      | none => False
      | some e => match slot fr e with
        | .val (.bool t') =>
          (t' = want → aop P C ⟨d, op, t, p, af, some (j, want)⟩ (evalIn (fr.set e (.b want))) hp (kont P C all draw rest k (fr.set e (.b want)) hp tr d)) ∧
          (t' = !want → Ops P C all draw rest k (putDst (fr.set e (.b (!want))) d (.val (.tuple #[]))) hp (([], []) :: tr))
        | .val (.tuple _) => Ops P C all draw rest k (putDst fr d (.val (.tuple #[]))) hp (([], []) :: tr)
        | _ => False) := _root_.id rfl
theorem kont_eq (d v w n r) : kont P C all draw rest k fr hp tr d ⟨v, w, n, r⟩ = Ops P C all draw rest k (putDst fr d v) (setAll hp w ++ n) ((r, w.map (·.1) ++ List.range' hp.length n.length) :: tr) := _root_.id rfl
end
theorem ev_tmp (fr : List AV) (n : Nat) : evalIn fr (.tmp n) = slot fr n := _root_.id rfl
theorem ev_const (fr : List AV) (v : Value) : evalIn fr (.const v) = constAV v := _root_.id rfl
theorem ev_func (fr : List AV) (f : FuncId) : evalIn fr (.func f) = .fn f [] := _root_.id rfl
theorem put_some (fr : List AV) (n : Nat) (v : AV) : putDst fr (some n) v = fr.set n v := _root_.id rfl
theorem put_none (fr : List AV) (v : AV) : putDst fr none v = fr := _root_.id rfl
theorem slot_zero (a : AV) (l : List AV) : slot (a :: l) 0 = a := _root_.id rfl
theorem slot_succ (a : AV) (l : List AV) (n : Nat) : slot (a :: l) (n + 1) = slot l n := _root_.id rfl
theorem setAll_nil (hp : List OB) : setAll hp [] = hp := _root_.id rfl
theorem setAll_cons (hp : List OB) (b : Nat) (o : OB) (l) : setAll hp ((b, o) :: l) = setAll (hp.set b o) l := _root_.id rfl
end Go.Am
namespace Go.Am

/-- Memory that nobody changes any more. -/
abbrev Mem := Nat → Option Obj
/-- Where an owned block lies: its number in the heap, the cells of an element, the elements that it has room for. -/
structure Loc where
  blk : Nat
  k : Nat
  cap : Nat
abbrev Plc := Nat → Option Loc

mutual
def Rel (m : Mem) (β : Plc) : AV → Value → Prop
  | .val u, v => v = u
  | .top, _ => True
  | .nil, v => v = .slice none 0 0
  | .agg cs, v => ∃ vs : List Value, v = .agg vs.toArray ∧ RelL m β cs vs
  | .tup cs, v => ∃ vs : List Value, v = .tuple vs.toArray ∧ RelL m β cs vs
  | .sl k rows, v => ∃ a cap, v = .slice a rows.length cap ∧ rows.length ≤ cap ∧
      (rows = [] ∨ ∃ ad c e fz, a = some ad ∧ ad.spot = none ∧ m ad.block = some (.cells c e fz) ∧ ad.off + rows.length * k ≤ c.size ∧ RelRows m β k rows (c.toList.drop ad.off))
  | .ref cells, v => ∃ ad c e fz, v = .pointer (some ad) ∧ ad.spot = none ∧ m ad.block = some (.cells c e fz) ∧ ad.off + cells.length ≤ c.size ∧ RelL m β cells ((c.toList.drop ad.off).take cells.length)
  | .osl b i n, v => ∃ L j cap, β b = some L ∧ v = .slice (some ⟨L.blk, j * L.k, none⟩) n cap ∧ n ≤ cap ∧ i + cap ≤ L.cap ∧ (j = i ∨ cap = 0)
  | .optr b i o, v => ∃ L, β b = some L ∧ v = .pointer (some ⟨L.blk, i * L.k + o, none⟩)
  | .fn f caps, v => ∃ cs : List Value, v = .func (.func f) #[] cs.toArray ∧ RelL m β caps cs
  | .mv f fs, v => ∃ cs : List Value, v = .func (.func f) cs.toArray #[] ∧ RelL m β fs cs
  | .omap b, v => ∃ L, β b = some L ∧ v = .map (some L.blk)
def RelL (m : Mem) (β : Plc) : List AV → List Value → Prop
  | [], vs => vs = []
  | x :: xs, vs => ∃ v vs', vs = v :: vs' ∧ Rel m β x v ∧ RelL m β xs vs'
def RelRows (m : Mem) (β : Plc) (k : Nat) : List (List AV) → List Value → Prop
  | [], _ => True
  | r :: rs, vs => (r.length = k ∧ r.all AV.one = true) ∧ RelL m β r (vs.take k) ∧ RelRows m β k rs (vs.drop k)
end

def Mem.le (m m' : Mem) : Prop := ∀ B o, m B = some o → m' B = some o
def Plc.le (β β' : Plc) : Prop := ∀ b L, β b = some L → β' b = some L

mutual
theorem Rel.mono {m m' : Mem} {β β' : Plc} (hm : Mem.le m m') (hβ : Plc.le β β') : ∀ (x : AV) (v : Value), Rel m β x v → Rel m' β' x v
  | .val _, _, h => by simpa [Rel] using h
  | .top, _, _ => by simp [Rel]
  | .nil, _, h => by simpa [Rel] using h
  | .agg cs, v, h => by
    simp only [Rel] at h ⊢
    obtain ⟨vs, e, h⟩ := h
    exact ⟨vs, e, RelL.mono hm hβ _ _ h⟩
  | .tup cs, v, h => by
    simp only [Rel] at h ⊢
    obtain ⟨vs, e, h⟩ := h
    exact ⟨vs, e, RelL.mono hm hβ _ _ h⟩
  | .sl k rows, v, h => by
    simp only [Rel] at h ⊢
    obtain ⟨a, cap, e, hc, h⟩ := h
    refine ⟨a, cap, e, hc, ?_⟩
    rcases h with h | ⟨ad, c, el, fz, h1, h2, h3, h4, h5⟩
    · exact .inl h
    · exact .inr ⟨ad, c, el, fz, h1, h2, hm _ _ h3, h4, RelRows.mono hm hβ k _ _ h5⟩
  | .ref cells, v, h => by
    simp only [Rel] at h ⊢
    obtain ⟨ad, c, el, fz, h1, h2, h3, h4, h5⟩ := h
    exact ⟨ad, c, el, fz, h1, h2, hm _ _ h3, h4, RelL.mono hm hβ _ _ h5⟩
  | .osl b i n, v, h => by
    simp only [Rel] at h ⊢
    obtain ⟨L, j, cap, h1, h2⟩ := h
    exact ⟨L, j, cap, hβ _ _ h1, h2⟩
  | .optr b i o, v, h => by
    simp only [Rel] at h ⊢
    obtain ⟨L, h1, h2⟩ := h
    exact ⟨L, hβ _ _ h1, h2⟩
  | .fn f caps, v, h => by
    simp only [Rel] at h ⊢
    obtain ⟨vs, e, h⟩ := h
    exact ⟨vs, e, RelL.mono hm hβ _ _ h⟩
  | .mv f caps, v, h => by
    simp only [Rel] at h ⊢
    obtain ⟨vs, e, h⟩ := h
    exact ⟨vs, e, RelL.mono hm hβ _ _ h⟩
  | .omap b, v, h => by
    simp only [Rel] at h ⊢
    obtain ⟨L, h1, h2⟩ := h
    exact ⟨L, hβ _ _ h1, h2⟩
theorem RelL.mono {m m' : Mem} {β β' : Plc} (hm : Mem.le m m') (hβ : Plc.le β β') : ∀ (xs : List AV) (vs : List Value), RelL m β xs vs → RelL m' β' xs vs
  | [], _, h => by simpa [RelL] using h
  | x :: xs, vs, h => by
    simp only [RelL] at h ⊢
    obtain ⟨v, vs', e, h1, h2⟩ := h
    exact ⟨v, vs', e, Rel.mono hm hβ _ _ h1, RelL.mono hm hβ _ _ h2⟩
theorem RelRows.mono {m m' : Mem} {β β' : Plc} (hm : Mem.le m m') (hβ : Plc.le β β') (k : Nat) : ∀ (rs : List (List AV)) (vs : List Value), RelRows m β k rs vs → RelRows m' β' k rs vs
  | [], _, _ => by simp [RelRows]
  | r :: rs, vs, h => by
    simp only [RelRows] at h ⊢
    exact ⟨h.1, RelL.mono hm hβ _ _ h.2.1, RelRows.mono hm hβ k _ _ h.2.2⟩
end

section lists
variable {m : Mem} {β : Plc}
theorem RelL.length {xs : List AV} {vs : List Value} (h : RelL m β xs vs) : xs.length = vs.length := by
  induction xs generalizing vs with
  | nil => simp only [RelL] at h; simp [h]
  | cons x xs ih => simp only [RelL] at h; obtain ⟨v, vs', rfl, _, h2⟩ := h; simp [ih h2]
theorem RelL.get {xs : List AV} {vs : List Value} (h : RelL m β xs vs) {i : Nat} {x : AV} (hx : xs[i]? = some x) : ∃ v, vs[i]? = some v ∧ Rel m β x v := by
  induction xs generalizing vs i with
  | nil => simp at hx
  | cons y xs ih =>
    simp only [RelL] at h; obtain ⟨v, vs', rfl, h1, h2⟩ := h
    cases i with
    | zero => simp at hx; subst hx; exact ⟨v, by simp, h1⟩
    | succ i => simp at hx ⊢; exact ih h2 hx
theorem RelL.set {xs : List AV} {vs : List Value} (h : RelL m β xs vs) (i : Nat) {x : AV} {v : Value} (hx : Rel m β x v) : RelL m β (xs.set i x) (vs.set i v) := by
  induction xs generalizing vs i with
  | nil => simp only [RelL] at h; subst h; simp [RelL]
  | cons y xs ih =>
    simp only [RelL] at h; obtain ⟨u, vs', rfl, h1, h2⟩ := h
    cases i with
    | zero => simp only [List.set_cons_zero, RelL]; exact ⟨v, vs', rfl, hx, h2⟩
    | succ i => simp only [List.set_cons_succ, RelL]; exact ⟨u, _, rfl, h1, ih h2 i⟩
theorem RelL.append {xs ys : List AV} {vs ws : List Value} (h : RelL m β xs vs) (h' : RelL m β ys ws) : RelL m β (xs ++ ys) (vs ++ ws) := by
  induction xs generalizing vs with
  | nil => simp only [RelL] at h; subst h; simpa using h'
  | cons x xs ih => simp only [RelL] at h; obtain ⟨v, vs', rfl, h1, h2⟩ := h; simp only [List.cons_append, RelL]; exact ⟨v, _, rfl, h1, ih h2⟩
theorem RelL.take {xs : List AV} {vs : List Value} (h : RelL m β xs vs) (n : Nat) : RelL m β (xs.take n) (vs.take n) := by
  induction xs generalizing vs n with
  | nil => simp only [RelL] at h; subst h; simp [RelL]
  | cons x xs ih =>
    simp only [RelL] at h; obtain ⟨v, vs', rfl, h1, h2⟩ := h
    cases n with
    | zero => simp [RelL]
    | succ n => simp only [List.take_succ_cons, RelL]; exact ⟨v, _, rfl, h1, ih h2 n⟩
theorem RelL.drop {xs : List AV} {vs : List Value} (h : RelL m β xs vs) (n : Nat) : RelL m β (xs.drop n) (vs.drop n) := by
  induction xs generalizing vs n with
  | nil => simp only [RelL] at h; subst h; simp [RelL]
  | cons x xs ih =>
    simp only [RelL] at h; obtain ⟨v, vs', rfl, h1, h2⟩ := h
    cases n with
    | zero => simp only [List.drop_zero, RelL]; exact ⟨v, vs', rfl, h1, h2⟩
    | succ n => simpa using ih h2 n
theorem RelL.of_get {xs : List AV} {vs : List Value} (hl : xs.length = vs.length) (h : ∀ (i : Nat) (x : AV) (v : Value), xs[i]? = some x → vs[i]? = some v → Rel m β x v) : RelL m β xs vs := by
  induction xs generalizing vs with
  | nil => cases vs with
    | nil => simp [RelL]
    | cons _ _ => simp at hl
  | cons x xs ih => cases vs with
    | nil => simp at hl
    | cons v vs =>
      simp only [RelL]
      exact ⟨v, vs, rfl, h 0 x v (by simp) (by simp), ih (by simpa using hl) fun i x v hx hv => h (i + 1) x v (by simpa using hx) (by simpa using hv)⟩
theorem RelL.replicate_top (n : Nat) (v : Value) : RelL m β (List.replicate n .top) (List.replicate n v) := by
  refine RelL.of_get (by simp) fun i x v hx _ => ?_
  have : x = .top := by rw [List.getElem?_replicate] at hx; split at hx <;> simp_all
  subst this; simp [Rel]

theorem RelRows.get {k : Nat} {rs : List (List AV)} {vs : List Value} (h : RelRows m β k rs vs) {i : Nat} {r : List AV} (hr : rs[i]? = some r) :
    (r.length = k ∧ r.all AV.one = true) ∧ RelL m β r ((vs.drop (i * k)).take k) := by
  induction rs generalizing vs i with
  | nil => simp at hr
  | cons q rs ih =>
    simp only [RelRows] at h
    cases i with
    | zero => simp at hr; subst hr; exact ⟨h.1, by simpa using h.2.1⟩
    | succ i =>
      simp at hr
      have := ih h.2.2 hr
      rw [List.drop_drop] at this
      rwa [show (i + 1) * k = k + i * k by rw [Nat.succ_mul]; omega]
theorem RelRows.take {k : Nat} {rs : List (List AV)} {vs : List Value} (h : RelRows m β k rs vs) (n : Nat) : RelRows m β k (rs.take n) vs := by
  induction rs generalizing vs n with
  | nil => simp [RelRows]
  | cons q rs ih =>
    cases n with
    | zero => simp [RelRows]
    | succ n => simp only [RelRows] at h; simp only [List.take_succ_cons, RelRows]; exact ⟨h.1, h.2.1, ih h.2.2 n⟩
theorem RelRows.drop {k : Nat} {rs : List (List AV)} {vs : List Value} (h : RelRows m β k rs vs) (n : Nat) : RelRows m β k (rs.drop n) (vs.drop (n * k)) := by
  induction rs generalizing vs n with
  | nil => simp [RelRows]
  | cons q rs ih =>
    cases n with
    | zero => simpa using h
    | succ n =>
      simp only [RelRows] at h
      have := ih h.2.2 n
      rw [List.drop_drop] at this
      simpa [show (n + 1) * k = k + n * k by rw [Nat.succ_mul]; omega] using this
theorem RelRows.of_get {k : Nat} {rs : List (List AV)} {vs : List Value} (h : ∀ (i : Nat) (r : List AV), rs[i]? = some r → (r.length = k ∧ r.all AV.one = true) ∧ RelL m β r ((vs.drop (i * k)).take k)) : RelRows m β k rs vs := by
  induction rs generalizing vs with
  | nil => simp [RelRows]
  | cons q rs ih =>
    simp only [RelRows]
    have h0 := h 0 q (by simp)
    refine ⟨h0.1, by simpa using h0.2, ih fun i r hr => ?_⟩
    have := h (i + 1) r (by simpa using hr)
    rw [List.drop_drop]
    rwa [show (i + 1) * k = k + i * k by rw [Nat.succ_mul]; omega] at this
/-- Cells of a list with a piece replaced. -/
def splice (vs : List Value) (p : Nat) (cs : List Value) : List Value := vs.take p ++ cs ++ vs.drop (p + cs.length)
theorem splice_length {vs cs : List Value} {p : Nat} (h : p + cs.length ≤ vs.length) : (splice vs p cs).length = vs.length := by
  simp only [splice, List.length_append, List.length_take, List.length_drop]; omega
theorem splice_get {vs cs : List Value} {p : Nat} (h : p + cs.length ≤ vs.length) (i : Nat) :
    (splice vs p cs)[i]? = if i < p then vs[i]? else if i < p + cs.length then cs[i - p]? else vs[i]? := by
  unfold splice
  have hp : (vs.take p).length = p := by rw [List.length_take]; omega
  rw [List.append_assoc, List.getElem?_append, hp]
  split
  · rename_i h1; rw [List.getElem?_take, if_pos h1]
  · rename_i h1
    rw [List.getElem?_append]
    by_cases h2 : i < p + cs.length
    · rw [if_pos (by omega), if_pos h2]
    · rw [if_neg (by omega), if_neg h2, List.getElem?_drop]; congr 1; omega
/-- A row of cells somewhere in a list. -/
theorem mid_get {vs : List Value} {p k j : Nat} : ((vs.drop p).take k)[j]? = if j < k then vs[p + j]? else none := by
  rw [List.getElem?_take]; split
  · rw [List.getElem?_drop]
  · rfl
theorem RelL.at {xs : List AV} {vs : List Value} {p k : Nat} (h : RelL m β xs ((vs.drop p).take k)) {j : Nat} {x : AV} (hx : xs[j]? = some x) : ∃ v, vs[p + j]? = some v ∧ Rel m β x v := by
  obtain ⟨v, h1, h2⟩ := h.get hx
  rw [mid_get] at h1
  split at h1
  · exact ⟨v, h1, h2⟩
  · cases h1
/-- A row's cells are replaced in part. -/
theorem RelRows.store {k : Nat} {rs : List (List AV)} {vs cs : List Value} (h : RelRows m β k rs vs) {i o : Nat} {row xs : List AV} (hrow : rs[i]? = some row) (hx : RelL m β xs cs)
    (h1 : xs.all AV.one = true) (ho : o + xs.length ≤ k) (hlen : rs.length * k ≤ vs.length) : RelRows m β k (rs.set i (row.take o ++ xs ++ row.drop (o + xs.length))) (splice vs (i * k + o) cs) := by
  have hxl := hx.length
  have hi : i < rs.length := by
    rcases Nat.lt_or_ge i rs.length with h' | h'
    · exact h'
    · rw [List.getElem?_eq_none h'] at hrow; cases hrow
  have hik : i * k + k ≤ vs.length := by
    have : (i + 1) * k ≤ rs.length * k := Nat.mul_le_mul_right k hi
    rw [Nat.succ_mul] at this; omega
  refine RelRows.of_get fun j r hr => ?_
  by_cases hj : i = j
  · subst hj
    rw [List.getElem?_set_self hi] at hr
    cases hr
    obtain ⟨⟨hk, ho1⟩, hR⟩ := h.get hrow
    have hL : (row.take o ++ xs ++ row.drop (o + xs.length)).length = k := by
      simp only [List.length_append, List.length_take, List.length_drop]; omega
    have hO : (row.take o ++ xs ++ row.drop (o + xs.length)).all AV.one = true := by
      rw [List.all_eq_true] at ho1 h1 ⊢
      intro x hx
      simp only [List.mem_append] at hx
      rcases hx with (hx | hx) | hx
      · exact ho1 x (List.mem_of_mem_take hx)
      · exact h1 x hx
      · exact ho1 x (List.mem_of_mem_drop hx)
    refine ⟨⟨hL, hO⟩, RelL.of_get ?_ fun n x v hx' hv => ?_⟩
    · rw [hL, List.length_take, List.length_drop, splice_length (by omega)]; omega
    · rw [mid_get, splice_get (by omega)] at hv
      split at hv
      · rename_i hn
        rw [List.append_assoc, List.getElem?_append] at hx'
        have htl : (row.take o).length = o := by rw [List.length_take]; omega
        rw [htl] at hx'
        by_cases h1 : n < o
        · rw [if_pos h1, List.getElem?_take, if_pos h1] at hx'
          rw [if_pos (by omega)] at hv
          obtain ⟨u, hu, hR'⟩ := hR.at hx'
          rw [hu] at hv; cases hv; exact hR'
        · rw [if_neg h1, List.getElem?_append] at hx'
          rw [if_neg (by omega)] at hv
          by_cases h2 : n - o < xs.length
          · rw [if_pos h2] at hx'
            rw [if_pos (by omega)] at hv
            obtain ⟨u, hu, hR'⟩ := hx.get hx'
            rw [show i * k + n - (i * k + o) = n - o by omega] at hv
            rw [hu] at hv; cases hv; exact hR'
          · rw [if_neg h2, List.getElem?_drop] at hx'
            rw [if_neg (by omega)] at hv
            rw [show o + xs.length + (n - o - xs.length) = n by omega] at hx'
            obtain ⟨u, hu, hR'⟩ := hR.at hx'
            rw [hu] at hv; cases hv; exact hR'
      · cases hv
  · rw [List.getElem?_set_ne hj] at hr
    obtain ⟨hk, hR⟩ := h.get hr
    have hjl : j < rs.length := by
      rcases Nat.lt_or_ge j rs.length with h' | h'
      · exact h'
      · rw [List.getElem?_eq_none h'] at hr; cases hr
    have hjk : j * k + k ≤ vs.length := by
      have : (j + 1) * k ≤ rs.length * k := Nat.mul_le_mul_right k hjl
      rw [Nat.succ_mul] at this; omega
    refine ⟨hk, RelL.of_get ?_ fun n x v hx' hv => ?_⟩
    · rw [hk.1, List.length_take, List.length_drop, splice_length (by omega)]; omega
    · rw [mid_get, splice_get (by omega)] at hv
      split at hv
      · rename_i hn
        obtain ⟨u, hu, hR'⟩ := hR.at hx'
        have hout : j * k + n < i * k + o ∨ i * k + o + cs.length ≤ j * k + n := by
          rcases Nat.lt_or_ge i j with h' | h'
          · have : (i + 1) * k ≤ j * k := Nat.mul_le_mul_right k h'
            rw [Nat.succ_mul] at this; right; omega
          · have h'' : j < i := by omega
            have : (j + 1) * k ≤ i * k := Nat.mul_le_mul_right k h''
            rw [Nat.succ_mul] at this; left; omega
        rcases hout with h' | h'
        · rw [if_pos h'] at hv; rw [hu] at hv; cases hv; exact hR'
        · rw [if_neg (by omega), if_neg (by omega)] at hv; rw [hu] at hv; cases hv; exact hR'
      · cases hv
theorem RelRows.append {k : Nat} {rs qs : List (List AV)} {vs ws : List Value} (h : RelRows m β k rs vs) (h' : RelRows m β k qs ws) (hl : rs.length * k ≤ vs.length) :
    RelRows m β k (rs ++ qs) (vs.take (rs.length * k) ++ ws) := by
  refine RelRows.of_get fun i r hr => ?_
  have htl : (vs.take (rs.length * k)).length = rs.length * k := by rw [List.length_take]; omega
  rw [List.getElem?_append] at hr
  split at hr
  · rename_i hi
    obtain ⟨h1, h2⟩ := h.get hr
    refine ⟨h1, ?_⟩
    have hik : i * k + k ≤ rs.length * k := by
      have : (i + 1) * k ≤ rs.length * k := Nat.mul_le_mul_right k hi
      rw [Nat.succ_mul] at this; omega
    have : ((vs.take (rs.length * k) ++ ws).drop (i * k)).take k = (vs.drop (i * k)).take k := by
      apply List.ext_getElem?
      intro n
      rw [mid_get, mid_get]
      split
      · rw [List.getElem?_append, htl, if_pos (by omega), List.getElem?_take, if_pos (by omega)]
      · rfl
    rw [this]; exact h2
  · rename_i hi
    obtain ⟨h1, h2⟩ := h'.get hr
    refine ⟨h1, ?_⟩
    have e : i * k = rs.length * k + (i - rs.length) * k := by rw [← Nat.add_mul]; congr 1; omega
    have : ((vs.take (rs.length * k) ++ ws).drop (i * k)).take k = (ws.drop ((i - rs.length) * k)).take k := by
      apply List.ext_getElem?
      intro n
      rw [mid_get, mid_get]
      split
      · rw [List.getElem?_append, htl, if_neg (by omega)]; congr 1; omega
      · rfl
    rw [this]; exact h2
/-- Rows that lie at the head of a longer list of cells. -/
theorem RelRows.more {k : Nat} {rs : List (List AV)} {vs : List Value} (h : RelRows m β k rs vs) (hl : rs.length * k ≤ vs.length) (ws : List Value) : RelRows m β k rs (vs.take (rs.length * k) ++ ws) := by
  have := RelRows.append (qs := []) (ws := ws) h (by simp [RelRows]) hl
  simpa using this
end lists
end Go.Am
namespace Go.Am

def Live (hp : List OB) (b : Nat) : Prop := ∃ ob, hp[b]? = some ob ∧ (match ob with | .cells .. | .map _ | .siter .. => True | _ => False)

def MapRel (m : Mem) (β : Plc) : List (Value × AV) → List MapEntry → Prop
  | [], es => es = []
  | (k, x) :: l, es => ∃ e es', es = e :: es' ∧ e.key = k ∧ Rel m β x e.val ∧ MapRel m β l es'

def OBRel (m : Mem) (β : Plc) (w : World) (b : Nat) : OB → Prop
  | .fresh => β b = none
  | .dead => True
  | .siter s p => ∃ L, β b = some L ∧ w.heap[L.blk]? = some (.stringIter s p) ∧ m L.blk = none
  | .cells e k rows => ∃ L c fz, β b = some L ∧ L.k = k ∧ 0 < k ∧ w.heap[L.blk]? = some (.cells c e fz) ∧ (fz.2 ≤ fz.1 ∨ c.size ≤ fz.1) ∧
      c.size = L.cap * k ∧ rows.length ≤ L.cap ∧ m L.blk = none ∧ RelRows m β k rows c.toList
  | .map es => ∃ L ents clock, β b = some L ∧ w.heap[L.blk]? = some (.map ents clock) ∧ m L.blk = none ∧ MapRel m β es ents.toList ∧
      (∀ e ∈ ents.toList, e.born < clock) ∧ (ents.toList.map (·.born)).Nodup

/-- The streams are as they were. -/
def IO0 (w w' : World) : Prop := w'.os = w.os ∧ w'.output = w.output
theorem IO0.refl (w : World) : IO0 w w := ⟨rfl, rfl⟩
theorem IO0.trans {a b c : World} (h : IO0 a b) (h' : IO0 b c) : IO0 a c := ⟨h'.1.trans h.1, h'.2.trans h.2⟩

/-- The state of memory: 'w0', 'm0': the memory at the call's beginning, 'O': the blocks that the call was handed as its own. -/
structure State (w0 : World) (m0 : Mem) (O : Nat → Prop) (m : Mem) (β : Plc) (w : World) (hp : List OB) : Prop where
  agree : ∀ B o, m B = some o → w.heap[B]? = some o
  blocks : ∀ b ob, hp[b]? = some ob → OBRel m β w b ob
  inj : ∀ b b' L L', Live hp b → Live hp b' → β b = some L → β b' = some L' → L.blk = L'.blk → b = b'
  out : ∀ b, hp[b]? = none → β b = none
  size : w0.heap.size ≤ w.heap.size
  io : IO0 w0 w
  keep : ∀ B, B < w0.heap.size → ¬ O B → w.heap[B]? = w0.heap[B]? ∧ m B = m0 B
  own : ∀ b L, Live hp b → β b = some L → (w0.heap.size ≤ L.blk ∨ O L.blk)

def upd (β : Plc) (b : Nat) (L : Loc) : Plc := fun x => if x = b then some L else β x

theorem upd_self (β : Plc) (b : Nat) (L : Loc) : upd β b L b = some L := by simp [upd]
theorem upd_le {β : Plc} {b : Nat} (L : Loc) (h : β b = none) : Plc.le β (upd β b L) := by
  intro x K hx
  unfold upd
  split
  · rename_i e; subst e; rw [h] at hx; cases hx
  · exact hx
theorem Mem.le_refl (m : Mem) : Mem.le m m := fun _ _ h => h
theorem Plc.le_refl (β : Plc) : Plc.le β β := fun _ _ h => h
theorem Mem.le_trans {a b c : Mem} (h : Mem.le a b) (h' : Mem.le b c) : Mem.le a c := fun _ _ x => h' _ _ (h _ _ x)
theorem Plc.le_trans {a b c : Plc} (h : Plc.le a b) (h' : Plc.le b c) : Plc.le a c := fun _ _ x => h' _ _ (h _ _ x)

theorem MapRel.mono {m m' : Mem} {β β' : Plc} (hm : Mem.le m m') (hβ : Plc.le β β') : ∀ (l : List (Value × AV)) (es : List MapEntry), MapRel m β l es → MapRel m' β' l es
  | [], _, h => h
  | (k, x) :: l, es, h => by
    obtain ⟨e, es', h1, h2, h3, h4⟩ := h
    exact ⟨e, es', h1, h2, h3.mono hm hβ, MapRel.mono hm hβ l es' h4⟩

theorem Live.lt {hp : List OB} {b : Nat} (h : Live hp b) : b < hp.length := by
  obtain ⟨ob, h, _⟩ := h
  rcases Nat.lt_or_ge b hp.length with h' | h'
  · exact h'
  · rw [List.getElem?_eq_none h'] at h; cases h
theorem Live.set_ne {hp : List OB} {b x : Nat} {ob : OB} (h : x ≠ b) : Live (hp.set b ob) x ↔ Live hp x := by
  unfold Live; rw [List.getElem?_set_ne (Ne.symm h)]
theorem Live.of_cells {hp : List OB} {b k : Nat} {e : TypeId} {rows} (h : hp[b]? = some (.cells e k rows)) : Live hp b := ⟨_, h, trivial⟩
theorem Live.of_siter {hp : List OB} {b p : Nat} {s} (h : hp[b]? = some (.siter s p)) : Live hp b := ⟨_, h, trivial⟩
theorem Live.of_map {hp : List OB} {b : Nat} {es} (h : hp[b]? = some (.map es)) : Live hp b := ⟨_, h, trivial⟩

section
variable {w0 : World} {m0 : Mem} {O : Nat → Prop} {m : Mem} {β : Plc} {w w' : World} {hp : List OB}

/-- A block keeps its relation where its own place in the heap is as it was. -/
theorem OBRel.frame {b : Nat} {ob : OB} (h : OBRel m β w b ob) (hw : ∀ L, β b = some L → Live [ob] 0 → w'.heap[L.blk]? = w.heap[L.blk]?) : OBRel m β w' b ob := by
  cases ob with
  | fresh => exact h
  | dead => trivial
  | siter s p =>
    obtain ⟨L, h1, h2, h3⟩ := h
    exact ⟨L, h1, by rw [hw L h1 ⟨_, rfl, trivial⟩]; exact h2, h3⟩
  | cells e k rows =>
    obtain ⟨L, c, fz, h1, h2, h3, h4, h5⟩ := h
    exact ⟨L, c, fz, h1, h2, h3, by rw [hw L h1 ⟨_, rfl, trivial⟩]; exact h4, h5⟩
  | map es =>
    obtain ⟨L, ents, clock, h1, h2, h3⟩ := h
    exact ⟨L, ents, clock, h1, by rw [hw L h1 ⟨_, rfl, trivial⟩]; exact h2, h3⟩

theorem OBRel.lt {b : Nat} {ob : OB} (h : OBRel m β w b ob) {L : Loc} (hL : β b = some L) (hl : Live [ob] 0) : L.blk < w.heap.size := by
  have key : ∀ {o}, w.heap[L.blk]? = some o → L.blk < w.heap.size := fun ho => (Array.getElem?_eq_some_iff.1 ho).1
  cases ob with
  | fresh => obtain ⟨_, h', h''⟩ := hl; cases h'; exact h''.elim
  | dead => obtain ⟨_, h', h''⟩ := hl; cases h'; exact h''.elim
  | siter s p =>
    obtain ⟨L', h1, h2, h3⟩ := h
    rw [hL] at h1; cases h1; exact key h2
  | cells e k rows =>
    obtain ⟨L', c, fz, h1, h2, h3, h4, h5⟩ := h
    rw [hL] at h1; cases h1; exact key h4
  | map es =>
    obtain ⟨L', ents, clock, h1, h2, h3⟩ := h
    rw [hL] at h1; cases h1; exact key h2

theorem State.live_lt (S : State w0 m0 O m β w hp) {b : Nat} {L : Loc} (h : Live hp b) (hL : β b = some L) : L.blk < w.heap.size := by
  obtain ⟨ob, h1, h2⟩ := h
  exact (S.blocks b ob h1).lt hL ⟨ob, rfl, h2⟩

theorem State.mem_lt (S : State w0 m0 O m β w hp) {B : Nat} {o : Obj} (h : m B = some o) : B < w.heap.size := (Array.getElem?_eq_some_iff.1 (S.agree B o h)).1

/-- Nothing in the heap has changed. -/
theorem State.same (S : State w0 m0 O m β w hp) (hw : w'.heap = w.heap) (hio : IO0 w w') : State w0 m0 O m β w' hp where
  agree B o h := by rw [hw]; exact S.agree B o h
  blocks b ob h := (S.blocks b ob h).frame fun _ _ _ => by rw [hw]
  inj := S.inj
  out := S.out
  size := by rw [hw]; exact S.size
  io := S.io.trans hio
  keep B h h' := by rw [hw]; exact S.keep B h h'
  own := S.own

theorem OBRel.mono {m' : Mem} {β' : Plc} {b : Nat} {ob : OB} (h : OBRel m β w b ob) (hm : Mem.le m m') (hβ : Plc.le β β') (hβb : β' b = β b) (hn : ∀ L, β b = some L → Live [ob] 0 → m L.blk = none → m' L.blk = none) : OBRel m' β' w b ob := by
  cases ob with
  | fresh => show β' b = none; rw [hβb]; exact h
  | dead => trivial
  | siter s p =>
    obtain ⟨L, h1, h2, h3⟩ := h
    exact ⟨L, hβ _ _ h1, h2, hn L h1 ⟨_, rfl, trivial⟩ h3⟩
  | cells e k rows =>
    obtain ⟨L, c, fz, h1, h2, h3, h4, h5, h6, h7, h8, h9⟩ := h
    exact ⟨L, c, fz, hβ _ _ h1, h2, h3, h4, h5, h6, h7, hn L h1 ⟨_, rfl, trivial⟩ h8, h9.mono hm hβ⟩
  | map es =>
    obtain ⟨L, ents, clock, h1, h2, h3, h4, h5⟩ := h
    exact ⟨L, ents, clock, hβ _ _ h1, h2, hn L h1 ⟨_, rfl, trivial⟩ h3, h4.mono hm hβ, h5⟩

/-- A block that is owned is changed. -/
theorem State.change (S : State w0 m0 O m β w hp) {b : Nat} {ob : OB} {L : Loc} (hl : Live hp b) (hL : β b = some L) (hw : ∀ B, B ≠ L.blk → w'.heap[B]? = w.heap[B]?) (hs : w'.heap.size = w.heap.size) (hio : IO0 w w')
    (hob : OBRel m β w' b ob) : State w0 m0 O m β w' (hp.set b ob) where
  agree B o h := by
    have : B ≠ L.blk := by
      rintro rfl
      obtain ⟨ob', h1, h2⟩ := hl
      have := S.blocks b ob' h1
      cases ob' with
      | fresh => exact h2
      | dead => exact h2
      | siter s p => obtain ⟨L', g1, g2, g3⟩ := this; rw [hL] at g1; cases g1; rw [g3] at h; cases h
      | cells e k rows => obtain ⟨L', c, fz, g1, g2, g3, g4, g5, g6, g7, g8, g9⟩ := this; rw [hL] at g1; cases g1; rw [g8] at h; cases h
      | map es => obtain ⟨L', ents, clock, g1, g2, g3, g4⟩ := this; rw [hL] at g1; cases g1; rw [g3] at h; cases h
    rw [hw B this]; exact S.agree B o h
  blocks x o h := by
    by_cases hx : b = x
    · subst hx
      rw [List.getElem?_set_self hl.lt] at h
      cases h; exact hob
    · rw [List.getElem?_set_ne hx] at h
      refine (S.blocks x o h).frame fun K hK hlv => hw _ fun e => hx ?_
      exact S.inj b x L K hl ⟨o, h, by obtain ⟨_, h1, h2⟩ := hlv; cases h1; exact h2⟩ hL hK e.symm
  inj x x' K K' hx hx' := by
    have t : ∀ y, Live (hp.set b ob) y → Live hp y := fun y hy => by
      by_cases e : y = b
      · subst e; exact hl
      · exact (Live.set_ne e).1 hy
    exact S.inj x x' K K' (t x hx) (t x' hx')
  out x h := S.out x (by rwa [List.getElem?_eq_none_iff, List.length_set, ← List.getElem?_eq_none_iff] at h)
  size := by rw [hs]; exact S.size
  io := S.io.trans hio
  keep B h h' := by
    have : B ≠ L.blk := by
      rintro rfl
      rcases S.own b L hl hL with g | g
      · omega
      · exact h' g
    rw [hw B this]; exact S.keep B h h'
  own x K hx hK := by
    by_cases e : x = b
    · subst e; exact S.own x K hl hK
    · exact S.own x K ((Live.set_ne e).1 hx) hK

/-- A block is given up. -/
theorem State.kill (S : State w0 m0 O m β w hp) (b : Nat) : State w0 m0 O m β w (hp.set b .dead) where
  agree := S.agree
  blocks x o h := by
    by_cases hx : b = x
    · subst hx
      by_cases hb : b < hp.length
      · rw [List.getElem?_set_self hb] at h; cases h; trivial
      · rw [List.set_eq_of_length_le (by omega)] at h; exact S.blocks b o h
    · rw [List.getElem?_set_ne hx] at h; exact S.blocks x o h
  inj x x' K K' hx hx' := by
    have t : ∀ y, Live (hp.set b .dead) y → Live hp y := fun y hy => by
      by_cases e : y = b
      · subst e
        obtain ⟨o, h1, h2⟩ := hy
        by_cases hb : y < hp.length
        · rw [List.getElem?_set_self hb] at h1; cases h1; exact h2.elim
        · rw [List.set_eq_of_length_le (by omega)] at h1; exact ⟨o, h1, h2⟩
      · exact (Live.set_ne e).1 hy
    exact S.inj x x' K K' (t x hx) (t x' hx')
  out x h := S.out x (by rwa [List.getElem?_eq_none_iff, List.length_set, ← List.getElem?_eq_none_iff] at h)
  size := S.size
  io := S.io
  keep := S.keep
  own x K hx hK := by
    by_cases e : x = b
    · subst e
      obtain ⟨o, h1, h2⟩ := hx
      by_cases hb : x < hp.length
      · rw [List.getElem?_set_self hb] at h1; cases h1; exact h2.elim
      · rw [List.set_eq_of_length_le (by omega)] at h1; exact S.own x K ⟨o, h1, h2⟩ hK
    · exact S.own x K ((Live.set_ne e).1 hx) hK

/-- A new block: at the end of the heap, or where a dead block of the call's own lay. -/
theorem State.fresh (S : State w0 m0 O m β w hp) {b : Nat} {ob : OB} {L : Loc} (hb : hp[b]? = some .fresh) (hw : ∀ B, B ≠ L.blk → w'.heap[B]? = w.heap[B]?) (hs : w.heap.size ≤ w'.heap.size) (hio : IO0 w w')
    (hm : m L.blk = none) (hno : ∀ x K, Live hp x → β x = some K → K.blk ≠ L.blk) (hown : w0.heap.size ≤ L.blk ∨ O L.blk) (hob : OBRel m (upd β b L) w' b ob) : State w0 m0 O m (upd β b L) w' (hp.set b ob) := by
  have hβ : β b = none := S.blocks b _ hb
  have hbl : b < hp.length := by
    rcases Nat.lt_or_ge b hp.length with h' | h'
    · exact h'
    · rw [List.getElem?_eq_none h'] at hb; cases hb
  have hne : ∀ x, x ≠ b → upd β b L x = β x := fun x hx => by simp [upd, hx]
  exact {
    agree := fun B o h => by
      have : B ≠ L.blk := by rintro rfl; rw [hm] at h; cases h
      rw [hw B this]; exact S.agree B o h
    blocks := fun x o h => by
      by_cases hx : b = x
      · subst hx
        rw [List.getElem?_set_self hbl] at h; cases h; exact hob
      · rw [List.getElem?_set_ne hx] at h
        refine OBRel.frame ((S.blocks x o h).mono (Mem.le_refl m) (upd_le L hβ) (hne x (Ne.symm hx)) fun _ _ _ h => h) fun K hK hlv => hw _ ?_
        rw [hne x (Ne.symm hx)] at hK
        exact hno x K ⟨o, h, by obtain ⟨_, h1, h2⟩ := hlv; cases h1; exact h2⟩ hK
    inj := fun x x' K K' hx hx' hK hK' e => by
      by_cases h1 : x = b <;> by_cases h2 : x' = b
      · rw [h1, h2]
      · subst h1
        rw [upd_self] at hK; cases hK
        rw [hne x' h2] at hK'
        exact absurd e.symm (hno x' K' ((Live.set_ne h2).1 hx') hK')
      · subst h2
        rw [upd_self] at hK'; cases hK'
        rw [hne x h1] at hK
        exact absurd e (hno x K ((Live.set_ne h1).1 hx) hK)
      · rw [hne x h1] at hK; rw [hne x' h2] at hK'
        exact S.inj x x' K K' ((Live.set_ne h1).1 hx) ((Live.set_ne h2).1 hx') hK hK' e
    out := fun x h => by
      have h' : hp[x]? = none := by rwa [List.getElem?_eq_none_iff, List.length_set, ← List.getElem?_eq_none_iff] at h
      rw [hne x (by rintro rfl; rw [hb] at h'; cases h')]; exact S.out x h'
    size := Nat.le_trans S.size hs
    io := S.io.trans hio
    keep := fun B h h' => by
      have : B ≠ L.blk := by
        rintro rfl
        rcases hown with g | g
        · omega
        · exact h' g
      rw [hw B this]; exact S.keep B h h'
    own := fun x K hx hK => by
      by_cases e : x = b
      · subst e; rw [upd_self] at hK; cases hK; exact hown
      · rw [hne x e] at hK; exact S.own x K ((Live.set_ne e).1 hx) hK }

/-- A new block at the end of the heap. -/
theorem State.push (S : State w0 m0 O m β w hp) {b : Nat} {ob : OB} {k cap : Nat} {o : Obj} (hb : hp[b]? = some .fresh) (hw : w'.heap = w.heap.push o) (hio : IO0 w w')
    (hob : OBRel m (upd β b ⟨w.heap.size, k, cap⟩) w' b ob) : State w0 m0 O m (upd β b ⟨w.heap.size, k, cap⟩) w' (hp.set b ob) := by
  refine S.fresh hb (fun B hB => ?_) (by rw [hw]; simp) hio ?_ (fun x K hx hK => ?_) (.inl S.size) hob
  · rw [hw]
    have hB' : B ≠ w.heap.size := hB
    rw [Array.getElem?_push]
    rw [if_neg hB']
  · cases h : m w.heap.size with
    | none => rfl
    | some o => have := S.mem_lt h; omega
  · have := S.live_lt hx hK
    show K.blk ≠ w.heap.size
    omega
end
end Go.Am
