/-
  The abstract machine as a program that computes, and that it is sound. (No statement of the claim's own is proved here.)
-/
import Derived.Test.YtdkbkilgmmenkaaGreatDoorAm5
set_option linter.all false
namespace Go.Am

def guardO {α : Type} (b : Bool) (x : Option α) : Option α := match b with | true => x | false => none

def xloaded (P : Program) (t : TypeId) (cells : List AV) (r : List Nat) : Option Eff :=
  match aggT P t with
  | some true => guardO (Nat.blt 0 (szOf P t) && Nat.ble (szOf P t) cells.length) (some { v := .agg (cells.take (szOf P t)), r })
  | some false => match cells with | c :: _ => some { v := c, r } | [] => none
  | none => none

def xbinInt (op : BinOp) (k : IntKind) (a b : Int) : Option AV :=
  match op with
  | .add => some (.int k (k.wrap (a + b)))
  | .sub => some (.int k (k.wrap (a - b)))
  | .mul => some (.int k (k.wrap (a * b)))
  | .quo => guardO (decide (b ≠ 0)) (some (.int k (k.wrap (a.tdiv b))))
  | .rem => guardO (decide (b ≠ 0)) (some (.int k (a.tmod b)))
  | .eql => some (.b (a == b))
  | .neq => some (.b (a != b))
  | .lss => some (.b (decide (a < b)))
  | .leq => some (.b (decide (a ≤ b)))
  | .gtr => some (.b (decide (a > b)))
  | .geq => some (.b (decide (a ≥ b)))
  | op => match bit2 k op a b with | some n => some (.int k n) | none => none

def xbinStr (op : BinOp) (x y : List UInt8) : Option AV :=
  match op with
  | .add => guardO (decide (x.length + y.length < 2 ^ 62)) (some (.s (x ++ y)))
  | .eql => some (.b (x == y))
  | .neq => some (.b (!(x == y)))
  | .lss => some (.b (Op.bytesLess x y))
  | .leq => some (.b (Op.bytesLess x y || x == y))
  | .gtr => some (.b (!(Op.bytesLess x y || x == y)))
  | .geq => some (.b (!Op.bytesLess x y))
  | _ => none

def xbin (P : Program) (u : TypeId) (lit : Bool) (op : BinOp) (x y : AV) : Option AV :=
  match x, y with
  | .val (.int k a), .val (.int k' b) =>
    match op with
    | .shl => guardO (decide (0 ≤ b)) (some (.int k (k.wrap (a * 2 ^ (min b.toNat k.bits)))))
    | .shr => guardO (decide (0 ≤ b)) (some (.int k (a.fdiv (2 ^ (min b.toNat k.bits)))))
    | op => guardO (decide (k = k')) (xbinInt op k a b)
  | .val (.string s), .val (.string s') => xbinStr op (bytes s) (bytes s')
  | .agg xs, .agg ys => guardO (!P.eqGuardType P.depth u && (aggT P u == some true)) (match op with
    | .eql => (eqT P 100 u xs ys).map fun t => .b t
    | .neq => (eqT P 100 u xs ys).map fun t => .b (!t)
    | _ => none)
  | x, y => match op with
    | .eql => (aeq P u lit x y).map fun t => .b t
    | .neq => (aeq P u lit x y).map fun t => .b (!t)
    | _ => none

mutual
def AV.names : AV → List Nat
  | .val _ | .top | .nil => []
  | .agg cs | .tup cs | .ref cs | .fn _ cs | .mv _ cs => namesL cs
  | .sl _ rows => namesR rows
  | .osl b _ _ | .optr b _ _ | .omap b => [b]
def namesL : List AV → List Nat
  | [] => []
  | x :: xs => x.names ++ namesL xs
def namesR : List (List AV) → List Nat
  | [] => []
  | r :: rs => namesL r ++ namesR rs
end
def OB.names : OB → List Nat
  | .cells _ _ rows => namesR rows
  | .map es => es.flatMap fun e => e.2.names
  | _ => []

mutual
def AV.back (bl : List Nat) : AV → AV
  | .val v => .val v
  | .top => .top
  | .nil => .nil
  | .agg cs => .agg (backL bl cs)
  | .tup cs => .tup (backL bl cs)
  | .ref cs => .ref (backL bl cs)
  | .fn f cs => .fn f (backL bl cs)
  | .mv f cs => .mv f (backL bl cs)
  | .sl k rows => .sl k (backR bl rows)
  | .osl b i n => .osl (bl.idxOf b) i n
  | .optr b i o => .optr (bl.idxOf b) i o
  | .omap b => .omap (bl.idxOf b)
def backL (bl : List Nat) : List AV → List AV
  | [] => []
  | x :: xs => x.back bl :: backL bl xs
def backR (bl : List Nat) : List (List AV) → List (List AV)
  | [] => []
  | r :: rs => backL bl r :: backR bl rs
end
def OB.back (bl : List Nat) : OB → OB
  | .cells e k rows => .cells e k (backR bl rows)
  | .map es => .map (es.map fun e => (e.1, e.2.back bl))
  | o => o

/-- A call whose result is known. -/
structure Fact (P : Program) where
  f : FuncId
  args : List AV
  r : AV
  ok : Pure P f args r

structure XEnv where
  P : Program
  own : FuncId → Bool
  meth : TypeId → String → Option FuncId
  same : FuncId → Bool
  deep : Nat
  gcs : Nat

mutual
/-- As 'back', 'ren', 'res', 'names', but what names no block is left as it stands. -/
def AV.backF (bl : List Nat) (x : AV) : AV := match x.closed with
  | true => x
  | false => match x with
    | .agg cs => .agg (backFL bl cs)
    | .tup cs => .tup (backFL bl cs)
    | .ref cs => .ref (backFL bl cs)
    | .fn f cs => .fn f (backFL bl cs)
    | .mv f cs => .mv f (backFL bl cs)
    | .sl k rows => .sl k (backFR bl rows)
    | .osl b i n => .osl (bl.idxOf b) i n
    | .optr b i o => .optr (bl.idxOf b) i o
    | .omap b => .omap (bl.idxOf b)
    | x => x
def backFL (bl : List Nat) : List AV → List AV
  | [] => []
  | x :: xs => x.backF bl :: backFL bl xs
def backFR (bl : List Nat) : List (List AV) → List (List AV)
  | [] => []
  | r :: rs => backFL bl r :: backFR bl rs
end
def OB.backF (bl : List Nat) : OB → OB
  | .cells e k rows => .cells e k (backFR bl rows)
  | .map es => .map (es.map fun e => (e.1, e.2.backF bl))
  | o => o
mutual
def AV.renF (ids : List Nat) (x : AV) : AV := match x.closed with
  | true => x
  | false => match x with
    | .agg cs => .agg (renFL ids cs)
    | .tup cs => .tup (renFL ids cs)
    | .ref cs => .ref (renFL ids cs)
    | .fn f cs => .fn f (renFL ids cs)
    | .mv f cs => .mv f (renFL ids cs)
    | .sl k rows => .sl k (renFR ids rows)
    | .osl b i n => .osl (ids.getD b 0) i n
    | .optr b i o => .optr (ids.getD b 0) i o
    | .omap b => .omap (ids.getD b 0)
    | x => x
def renFL (ids : List Nat) : List AV → List AV
  | [] => []
  | x :: xs => x.renF ids :: renFL ids xs
def renFR (ids : List Nat) : List (List AV) → List (List AV)
  | [] => []
  | r :: rs => renFL ids r :: renFR ids rs
end
def OB.renF (ids : List Nat) : OB → OB
  | .cells e k rows => .cells e k (renFR ids rows)
  | .map es => .map (es.map fun e => (e.1, e.2.renF ids))
  | o => o
mutual
def AV.namesF (x : AV) : List Nat := match x.closed with
  | true => []
  | false => match x with
    | .agg cs | .tup cs | .ref cs | .fn _ cs | .mv _ cs => namesFL cs
    | .sl _ rows => namesFR rows
    | .osl b _ _ | .optr b _ _ | .omap b => [b]
    | _ => []
def namesFL : List AV → List Nat
  | [] => []
  | x :: xs => x.namesF ++ namesFL xs
def namesFR : List (List AV) → List Nat
  | [] => []
  | r :: rs => namesFL r ++ namesFR rs
end
def OB.namesF : OB → List Nat
  | .cells _ _ rows => namesFR rows
  | .map es => es.flatMap fun e => e.2.namesF
  | _ => []
def resF (n : Nat) (hp : List OB) (x : AV) : AV := match x.closed with
  | true => x
  | false => res n hp x

/-- The blocks that can be reached; none: not in so many steps. -/
def reach (hp : List OB) : Nat → List Nat → List Nat → Option (List Nat)
  | _, [], seen => some seen
  | 0, _ :: _, _ => none
  | n + 1, b :: todo, seen => match seen.contains b with
    | true => reach hp n todo seen
    | false => reach hp n ((hp.getD b .dead).namesF ++ todo) (seen ++ [b])

def vsame0 : Value → Value → Bool
  | .bool a, .bool b => a == b
  | .int k a, .int l b => decide (k = l) && decide (a = b)
  | .string a, .string b => bytes a == bytes b
  | .pointer none, .pointer none => true
  | .nilIface, .nilIface => true
  | .nilFunc, .nilFunc => true
  | .map none, .map none => true
  | .slice none a b, .slice none c d => Nat.beq a c && Nat.beq b d
  | _, _ => false
def vsameL : List Value → List Value → Bool
  | [], [] => true
  | x :: xs, y :: ys => vsame0 x y && vsameL xs ys
  | _, _ => false
def vsame : Value → Value → Bool
  | .agg a, .agg b => vsameL a.toList b.toList
  | .iface t v, .iface u w => Nat.beq t u && vsame0 v w
  | v, w => vsame0 v w

mutual
/-- Values that are surely the same. -/
def AV.same : AV → AV → Bool
  | .val v, .val u => vsame v u
  | .nil, .nil => true
  | .agg a, .agg b => sameL a b
  | .tup a, .tup b => sameL a b
  | .sl k a, .sl l b => Nat.beq k l && sameR a b
  | .ref a, .ref b => sameL a b
  | .osl a b c, .osl a' b' c' => Nat.beq a a' && (Nat.beq b b' && Nat.beq c c')
  | .optr a b c, .optr a' b' c' => Nat.beq a a' && (Nat.beq b b' && Nat.beq c c')
  | .fn f a, .fn g b => Nat.beq f g && sameL a b
  | .mv f a, .mv g b => Nat.beq f g && sameL a b
  | .omap a, .omap b => Nat.beq a b
  | _, _ => false
def sameL : List AV → List AV → Bool
  | [], [] => true
  | x :: xs, y :: ys => x.same y && sameL xs ys
  | _, _ => false
def sameR : List (List AV) → List (List AV) → Bool
  | [], [] => true
  | x :: xs, y :: ys => sameL x y && sameR xs ys
  | _, _ => false
end

def esame : List (Value × AV) → List (Value × AV) → Bool
  | [], [] => true
  | x :: xs, y :: ys => (vsame x.1 y.1 && x.2.same y.2) && esame xs ys
  | _, _ => false
def OB.same : OB → OB → Bool
  | .fresh, .fresh => true
  | .dead, .dead => true
  | .cells e k a, .cells e' k' b => Nat.beq e e' && (Nat.beq k k' && sameR a b)
  | .siter s p, .siter s' p' => bytes s == bytes s' && Nat.beq p p'
  | .map a, .map b => esame a b
  | _, _ => false

section
variable (E : XEnv) (xf : FuncId → List AV → List OB → Option (AV × List OB))

def xcall (draw : Bool) (f : FuncId) (args : List AV) (hp : List OB) : Option Eff :=
  match E.own f with
  | false =>
    let args' := args.map (resF E.deep hp)
    guardO (closedL args') <|
    match xf f args' [] with
    | some (r, []) => guardO (r.closed && (closedL args || r.plain)) (some { v := r, r := if closedL args then [] else List.range hp.length })
    | _ => none
  | true =>
    match reach hp E.gcs (namesFL args) [] with
    | some bl =>
      let fp := bl.map fun b => (hp.getD b .dead).backF bl
      guardO (fp.all OB.live) <|
      match xf f (backFL bl args) fp with
      | some (r, fp') =>
        let ids := bl ++ List.range' hp.length (fp'.length - fp.length)
        guardO (Nat.ble fp.length fp'.length) <|
        let full := bl.zip ((fp'.take fp.length).map (OB.renF ids))
        some { v := r.renF ids, w := match draw with | false => full | true => full.filter (fun p => !OB.same (hp.getD p.1 .dead) p.2), n := (fp'.drop fp.length).map (OB.renF ids), r := bl }
      | none => none
    | none => none

def xop (draw : Bool) (o : Oper) (ev : Operand → AV) (hp : List OB) : Option Eff :=
  let P := E.P
  match o.op with
  | .move x | .assign x => some { v := ev x }
  | .pick c a b => match ev c with
    | .val (.bool t) => some { v := match t with | true => ev a | false => ev b }
    | _ => none
  | .alloc e => match arrElem P e with
    | some (n, el) => match zeroAV P e with
      | some z => guardO (decide (0 < szOf P el) && decide (z.cells.length = n * szOf P el) && z.cells.all AV.one) (some { v := .optr hp.length 0 0, n := [.cells e (szOf P el) (chunk (szOf P el) n z.cells)] })
      | none => none
    | none => match zeroAV P e with
      | some z => guardO (decide (0 < szOf P e) && decide (z.cells.length = szOf P e) && z.cells.all AV.one) (some { v := .optr hp.length 0 0, n := [.cells e (szOf P e) [z.cells]] })
      | none => none
  | .box e x => guardO (decide (0 < szOf P e) && decide ((ev x).cells.length = szOf P e) && (ev x).cells.all AV.one) (some { v := .optr hp.length 0 0, n := [.cells e (szOf P e) [(ev x).cells]] })
  | .build t parts => match arrElem P t with
    | some (n, el) => match zeroAV P t with
      | some z => match fillElems (szOf P el) ev parts.toList z.cells with
        | some cs => guardO ((match z with | .agg _ => true | _ => false) && decide (0 < szOf P el)) (some { v := .agg cs })
        | none => none
      | none => none
    | none => match zeroAV P t with
      | some z => match fillParts P t ev parts.toList z.cells with
        | some cs => guardO (fieldsOk P t && (match z with | .agg _ => true | _ => false)) (some { v := .agg cs })
        | none => none
      | none => none
  | .buildSlice t len parts => match slElem P t with
    | some e => match zeroAV P e with
      | some z => match fillRows (szOf P e) ev parts.toList (List.replicate len z.cells) with
        | some rs => guardO (decide (0 < szOf P e) && decide (z.cells.length = szOf P e) && z.cells.all AV.one && decide (len * szOf P e ≤ 2 ^ 24)) (some { v := .osl hp.length 0 len, n := [.cells e (szOf P e) rs] })
        | none => none
      | none => none
    | none => none
  | .load t x => match ev x with
    | .ref cells => xloaded P t cells []
    | .optr b i f => match hp[b]? with
      | some (.cells _ k rows) => match rowArr P t k with
        | some n => guardO (decide (f = 0) && decide (i + n ≤ rows.length)) (some { v := .agg ((rows.drop i).take n).flatten, r := [b] })
        | none => match rows[i]? with
          | some row => xloaded P t (row.drop f) [b]
          | none => none
      | _ => none
    | _ => none
  | .store t x y => match ev x with
    | .optr b i f => match hp[b]? with
      | some (.cells e k rows) => match rowArr P t k with
        | some n => guardO (decide (f = 0) && decide (i + n ≤ rows.length) && decide ((ev y).cells.length = n * k) && (ev y).cells.all AV.one) (some { v := .top, w := [(b, .cells e k (rows.take i ++ chunk k n (ev y).cells ++ rows.drop (i + n)))], r := [b] })
        | none => match rows[i]? with
          | some row => guardO (decide ((ev y).cells.length = szOf P t) && (ev y).cells.all AV.one && decide (f + szOf P t ≤ k) && decide (0 < szOf P t)) (some { v := .top, w := [(b, .cells e k (rows.set i (setSeg row f (ev y).cells)))], r := [b] })
          | none => none
      | _ => none
    | _ => none
  | .nilCheck x => match ev x with
    | .optr b i f => some { v := .optr b i f }
    | .ref cs => some { v := .ref cs }
    | .fn f cs => some { v := .fn f cs }
    | .mv f cs => some { v := .mv f cs }
    | _ => none
  | .binOp op u x y _ => (xbin P u (isConst x || isConst y) op (ev x) (ev y)).map fun v => { v }
  | .unOp op _ x => match op, ev x with
    | .not, .val (.bool t) => some { v := .b (!t) }
    | .neg, .val (.int k n) => some { v := .int k (k.wrap (0 - n)) }
    | .xor, .val (.int k n) => match bit2 k .xor (if k.signed then -1 else k.max) n with | some m => some { v := .int k m } | none => none
    | _, _ => none
  | .convert src dst x => match ev x with
    | .val (.int _ n) => match intKind P dst with | some k => guardO (typed P src) (some { v := .int k (k.wrap n) }) | none => none
    | .val (.string s) => guardO (typed P src && isStr P dst) (some { v := .val (.string s) })
    | .osl b i n => match slElem P src, rowsOf hp (.osl b i n) with
      | some e, some (rows, r) => match bytesR rows with
        | some l => guardO (byteT P e && isStr P dst) (some { v := .s l, r })
        | none => none
      | _, _ => none
    | .sl k rows => match slElem P src with
      | some e => match bytesR rows with
        | some l => guardO (byteT P e && isStr P dst && decide (k = 1)) (some { v := .s l })
        | none => none
      | none => none
    | .nil => match slElem P src with
      | some e => guardO (byteT P e && isStr P dst) (some { v := .s [] })
      | none => none
    | .optr b i o => match hp[b]? with
      | some (.cells e k rows) => match ptrT P src, ptrT P dst with
        | some u, none => guardO (unsafeT P dst && decide (0 < szOf P u) && decide (i < rows.length) && decide (o < k)) (some { v := .optr b i o, r := [b] })
        | none, some u => guardO (unsafeT P src && decide (0 < szOf P u) && decide (i = 0) && decide (rows.length = 1) && decide (k = szOf P e) && liesT P e k o u 1) (some { v := .optr b i o, r := [b] })
        | _, _ => none
      | _ => none
    | _ => none
  | .makeInterface t x => match ev x with
    | .val v => guardO (concrete P t) (some { v := .val (.iface t v) })
    | _ => none
  | .makeFunc (.func f) first captured => match first.toList, captured.toList with
    | [], l => some { v := .fn f (l.map ev) }
    | a :: as, [] => some { v := .mv f ((a :: as).map ev) }
    | _, _ => none
  | .makeMap _ res => guardO res.isNone (some { v := .omap hp.length, n := [.map []] })
  | .makeSlice t l c => match slElem P t, ev l, ev c with
    | some e, .val (.int _ n), .val (.int _ m) => match zeroAV P e with
      | some z => guardO (decide (0 < szOf P e) && decide (z.cells.length = szOf P e) && z.cells.all AV.one && decide (0 ≤ n) && decide (n ≤ m) && decide (m * bytesOf P e ≤ 2 ^ 47) && decide (m < 2 ^ 62)) (some { v := .osl hp.length 0 n.toNat, n := [.cells e (szOf P e) (List.replicate m.toNat z.cells)] })
      | none => none
    | _, _, _ => none
  | .slice u x lo hi none => match ev x with
    | .val (.string s) => match bound ev lo 0, bound ev hi (bytes s).length with
      | some l, some h => guardO (isStr P u && decide (0 ≤ l) && decide (l ≤ h) && decide (h ≤ (bytes s).length)) (some { v := .s (((bytes s).take h.toNat).drop l.toNat) })
      | _, _ => none
    | .sl k rows => match bound ev lo 0, bound ev hi rows.length with
      | some l, some h => guardO (((slElem P u).map (szOf P) == some k) && decide (0 < k) && decide (0 ≤ l) && decide (l ≤ h) && decide (h ≤ rows.length)) (some { v := .sl k ((rows.take h.toNat).drop l.toNat) })
      | _, _ => none
    | .osl b i n => match bound ev lo 0, bound ev hi n, hp[b]? with
      | some l, some h, some (.cells _ k _) => guardO (((slElem P u).map (szOf P) == some k) && decide (0 ≤ l) && decide (l ≤ h) && decide (h ≤ n)) (some { v := .osl b (i + l.toNat) (h.toNat - l.toNat), r := [b] })
      | _, _, _ => none
    | .nil => match bound ev lo 0, bound ev hi 0 with
      | some l, some h => guardO ((((slElem P u).map fun e => decide (0 < szOf P e)) == some true) && decide (l = 0) && decide (h = 0)) (some { v := .nil })
      | _, _ => none
    | .optr b 0 0 => match arrElem P u, lo, hi with
      | some (n, e), none, none => match hp[b]? with
        | some (.cells _ k rows) => guardO (decide (szOf P e = k) && decide (rows.length = n) && decide (0 < n)) (some { v := .osl b 0 n, r := [b] })
        | _ => none
      | _, _, _ => none
    | _ => none
  | .fieldAddr t x f => match fld P t f with
    | some (off, ft) => match ev x with
      | .ref cells => guardO (decide (szOf P ft ≠ 0) && decide (off ≤ cells.length)) (some { v := .ref (cells.drop off) })
      | .optr b i c => guardO (decide (szOf P ft ≠ 0)) (some { v := .optr b i (c + off) })
      | _ => none
    | none => none
  | .field t x f => match fld P t f with
    | some (off, ft) => match ev x with
      | .agg cells => xloaded P ft (cells.drop off) []
      | _ => none
    | none => none
  | .indexAddr t x ix => match ev ix with
    | .val (.int _ n) => match ev x with
      | .sl k rows => guardO (decide (0 ≤ n)) (match rows[n.toNat]? with | some row => guardO (((slElem P t).map (szOf P) == some k) && decide (0 < k)) (some { v := .ref row }) | none => none)
      | .osl b i m => guardO (decide (0 ≤ n) && decide (n < m)) (match hp[b]? with
        | some (.cells _ k _) => guardO ((slElem P t).map (szOf P) == some k) (some { v := .optr b (i + n.toNat) 0, r := [b] })
        | _ => none)
      | .optr b 0 0 => match arrElem P t with
        | some (m, e) => guardO (decide (0 ≤ n) && decide (n < m) && decide (1 < m)) (match hp[b]? with
          | some (.cells _ k rows) => guardO (decide (szOf P e = k) && decide (rows.length = m)) (some { v := .optr b n.toNat 0, r := [b] })
          | _ => none)
        | none => none
      | _ => none
    | _ => none
  | .index u x ix => match ev ix, ev x with
    | .val (.int _ n), .val (.string s) => guardO (isStr P u && decide (0 ≤ n)) (match (bytes s)[n.toNat]? with | some c => some { v := .int .u8 c.toNat } | none => none)
    | _, _ => none
  | .lookup t x ix ok => match ev x, (ev ix).toVal with
    | .omap b, some k => match hp[b]?, mapT P t with
      | some (.map es), some (kt, e) => guardO (keyEq P kt k k == some true) (match findK P kt k es, ok with
        | some (some p), true => some { v := .tup [p.2, .b true], r := [b] }
        | some (some p), false => some { v := p.2, r := [b] }
        | some none, true => match zeroAV P e with
          | some z => some { v := .tup [z, .b false], r := [b] }
          | none => none
        | some none, false => match zeroAV P e with
          | some z => some { v := z, r := [b] }
          | none => none
        | none, _ => none)
      | _, _ => none
    | _, _ => none
  | .mapUpdate t m k x | .insert t m k x => match ev m, (ev k).toVal with
    | .omap b, some kv => match hp[b]?, mapT P t with
      | some (.map es), some (kt, _) => guardO (keyEq P kt kv kv == some true) (match setK P kt kv (ev x) es with
        | some es' => some { v := .top, r := [b], w := [(b, .map es')] }
        | none => none)
      | _, _ => none
    | _, _ => none
  | .typeAssert x _ asserted ok => match ev x with
    | .val (.iface t v) => guardO (ok && concrete P asserted) (if t = asserted then some { v := .tup [.val v, .b true] } else match zeroAV P asserted with | some z => some { v := .tup [z, .b false] } | none => none)
    | .val .nilIface => guardO (ok && concrete P asserted) (match zeroAV P asserted with | some z => some { v := .tup [z, .b false] } | none => none)
    | _ => none
  | .extract t i => match ev t with
    | .tup vs => match vs[i]? with | some v => some { v } | none => none
    | _ => none
  | .call c => match c.callee, c.args.toList with
    | .builtin .len, [x] => match ev x with
      | .val (.string s) => guardO ((c.argTypes[0]?).any (isStr P)) (some { v := .i (bytes s).length })
      | .sl _ rows => guardO ((c.argTypes[0]?).bind (slElem P)).isSome (some { v := .i rows.length })
      | .osl _ _ n => guardO ((c.argTypes[0]?).bind (slElem P)).isSome (some { v := .i n })
      | .nil => guardO ((c.argTypes[0]?).bind (slElem P)).isSome (some { v := .i 0 })
      | .omap b => match hp[b]? with | some (.map es) => guardO ((c.argTypes[0]?).bind (mapT P)).isSome (some { v := .i es.length, r := [b] }) | _ => none
      | _ => none
    | .builtin .append, [x, y] => match (c.argTypes[0]?).bind (slElem P), rowsOf hp (ev y) with
      | some e, some (more, r) => match zeroAV P e with
        | some z => guardO (decide (0 < szOf P e) && decide (0 < bytesOf P e) && decide (z.cells.length = szOf P e) && notInt P c.argTypes && more.all (fun q => decide (q.length = szOf P e))) (match ev x with
          | .nil => guardO (decide (more.length * bytesOf P e ≤ 2 ^ 47) && !more.isEmpty) (some { v := .osl hp.length 0 more.length, r, n := [.cells e (szOf P e) more] })
          | .osl b 0 n => match hp[b]? with
            | some (.cells e' k rows) => guardO (decide (k = szOf P e) && decide (e' = e) && decide (n ≤ rows.length) && decide ((n + more.length) * bytesOf P e ≤ 2 ^ 47)) (some { v := .osl hp.length 0 (n + more.length), r := b :: r, w := [(b, .dead)], n := [.cells e k (rows.take n ++ more)] })
            | _ => none
          | _ => none)
        | none => none
      | _, _ => none
    | .builtin .max, [x, y] => match ev x, ev y with
      | .val (.int k a), .val (.int _ b) => some { v := .int k (if b > a then b else a) }
      | _, _ => none
    | .builtin .min, [x, y] => match ev x, ev y with
      | .val (.int k a), .val (.int _ b) => some { v := .int k (if b < a then b else a) }
      | _, _ => none
    | .builtin .max, [x, y, z] => match ev x, ev y, ev z with
      | .val (.int k a), .val (.int _ b), .val (.int _ c) => some { v := .int k (if c > (if b > a then b else a) then c else (if b > a then b else a)) }
      | _, _, _ => none
    | .builtin .min, [x, y, z] => match ev x, ev y, ev z with
      | .val (.int k a), .val (.int _ b), .val (.int _ c) => some { v := .int k (if c < (if b < a then b else a) then c else (if b < a then b else a)) }
      | _, _, _ => none
    | .builtin .unsafeSliceData, [x] => match ev x with
      | .osl b i n => guardO (decide (0 < n)) (some { v := .optr b i 0 })
      | .nil => some { v := .val (.pointer none) }
      | _ => none
    | .builtin .unsafeString, [x, y] => match ev x, ev y with
      | .optr b i 0, .val (.int .i64 n) => match hp[b]?, rowsOf hp (.osl b i n.toNat), (c.argTypes[0]?).bind (ptrT P) with
        | some (.cells e k rows), some (more, _), some u => match bytesR more with
          | some l => guardO (decide (0 < n) && decide (n < 9223372036854775808) && decide (i = 0) && decide (k = 1) && decide (e = u) && byteT P u && decide (P.cellsOf u = 1)) (some { v := .s l, r := [b], w := [(b, .dead)] })
          | none => none
        | _, _, _ => none
      | .val (.pointer none), .val (.int .i64 n) => guardO (decide (n = 0) && (c.argTypes[0]?).isSome) (some { v := .s [] })
      | _, _ => none
    | .value f, args => match ev f with
      | .fn g caps => xcall E xf draw g (args.map ev ++ caps) hp
      | .mv g fs => xcall E xf draw g (fs ++ args.map ev) hp
      | _ => none
    | .invoke x name, args => match ev x with
      | .val (.iface t v) => match E.meth t name with
        | some f => guardO (match v with | .int _ _ => true | _ => false) (xcall E xf draw f (.val v :: args.map ev) hp)
        | none => none
      | _ => none
    | _, _ => none
  | .range t x => match ev x with
    | .val (.string s) => guardO (isStr P t) (some { v := .optr hp.length 0 0, n := [.siter s 0] })
    | _ => none
  | .next it true => match ev it with
    | .optr b 0 0 => match hp[b]? with
      | some (.siter s p) => match decide (p < s.size) with
        | true => some { v := .tup [.b true, .i p, .val (.int .i32 (Utf8.decode s p).1)], w := [(b, .siter s (p + (Utf8.decode s p).2))], r := [b] }
        | false => some { v := .tup [.b false], r := [b] }
      | _ => none
    | _ => none
  | _ => none

def xops (draw : Bool) (all : Array Oper) : List Oper → AState → Trace → Option (AState × Trace)
  | [], σ, tr => some (σ, tr)
  | o :: rest, σ, tr =>
    match o.guard with
    | none => match xop E xf draw o (evalIn σ.fr) σ.hp with
      | some e => xops draw all rest (σ.apply o.dst e) (foot σ.hp e :: tr)
      | none => none
    | some (j, want) => match (all[j]?).bind (·.dst) with
      | none => none
      | some d => match slot σ.fr d with
        | .val (.bool t) => match t == want with
          | true => match xop E xf draw o (evalIn σ.fr) σ.hp with
            | some e => xops draw all rest (σ.apply o.dst e) (foot σ.hp e :: tr)
            | none => none
          | false => xops draw all rest { fr := putDst σ.fr o.dst (.val (.tuple #[])), hp := σ.hp } (([], []) :: tr)
        | .val (.tuple _) => xops draw all rest { fr := putDst σ.fr o.dst (.val (.tuple #[])), hp := σ.hp } (([], []) :: tr)
        | _ => none

def xloop (body : AState → Option (AExit × AState)) : Nat → AState → Option (AExit × AState)
  | 0, _ => none
  | n + 1, σ => match body σ with
    | some (.normal, σ') => xloop body n σ'
    | r => r

def xcode (L : Nat) : Code → AState → Option (AExit × AState)
  | .skip, σ => some (.normal, σ)
  | .region _ ops draw, σ => match xops E xf draw ops ops.toList σ [] with
    | some (σ', tr) => guardO (!draw || drawOk ops tr.reverse) (some (.normal, σ'))
    | none => none
  | .seq x y, σ => match xcode L x σ with
    | some (.normal, σ') => xcode L y σ'
    | r => r
  | .cond c x y, σ => match evalIn σ.fr c with
    | .val (.bool true) => xcode L x σ
    | .val (.bool false) => xcode L y σ
    | _ => none
  | .block id c, σ => match xcode L c σ with
    | some (.exit i, σ') => match i == id with | true => some (.normal, σ') | false => some (.exit i, σ')
    | r => r
  | .loop c, σ => xloop (xcode L c) L σ
  | .exit id, σ => some (.exit id, σ)
  | .ret, σ => some (.ret, σ)
  | .label _, σ => some (.normal, σ)
  | _, _ => none

def xres (σ : AState) (r : ResultVar) : Option AV := match r with
  | .tmp t => some (slot σ.fr t)
  | .cell a t => match slot σ.fr a with
    | .optr b i f => match σ.hp[b]? with
      | some (.cells _ _ rows) => match rows[i]? with
        | some row => (xloaded E.P t (row.drop f) []).map (·.v)
        | none => none
      | _ => none
    | _ => none
def xone : List AV → AV
  | [v] => v
  | vs => .tup vs

def xret (own : Bool) (rs : List ResultVar) (fp : List OB) (σ : AState) : Option (AV × List OB) :=
  match rs.mapM (xres E σ) with
  | some vs =>
    match own with
    | false => match fp with
      | [] => guardO ((resF E.deep σ.hp (xone vs)).closed) (some (resF E.deep σ.hp (xone vs), []))
      | _ => none
    | true =>
      match reach σ.hp E.gcs ((σ.hp.take fp.length).flatMap OB.namesF ++ (xone vs).namesF) (List.range fp.length) with
      | some kp => guardO (kp.all fun b => Nat.blt b σ.hp.length) (some ((xone vs).backF kp, kp.map fun b => (σ.hp.getD b .dead).backF kp))
      | none => none
  | none => none
end

/-- The known call with these arguments. -/
def known {P : Program} (f : FuncId) (args : List AV) : List (Fact P) → Option AV
  | [] => none
  | x :: l => match Nat.beq x.f f with
    | true => match sameL x.args args with
      | true => some x.r
      | false => known f args l
    | false => known f args l

def isNil {α : Type} : List α → Bool
  | [] => true
  | _ => false

def xfn (E : XEnv) (T : List (Fact E.P)) : Nat → FuncId → List AV → List OB → Option (AV × List OB)
  | 0, _, _, _ => none
  | n + 1, f, args, fp =>
    match match isNil fp with | true => known f args T | false => none with
    | some r => some (r, [])
    | none => match E.same f with
     | true => match args with
      | [x] => some (x, fp)
      | _ => none
     | false => match E.P.funcs[f]? with
      | some fn => match fn.body with
        | some c => match xcode E (xfn E T n) 1000000 c ⟨args ++ List.replicate (fn.ntmps - args.length) .top, fp⟩ with
          | some (.normal, σ) | some (.ret, σ) => xret E (E.own f) fn.results.toList fp σ
          | _ => none
        | none => none
      | none => none
end Go.Am
namespace Go.Am

mutual
theorem closed_under (n : Nat) : ∀ x : AV, x.closed = true → x.under n = true
  | .val _, _ => rfl
  | .top, _ => rfl
  | .nil, _ => rfl
  | .agg cs, h => by simp only [AV.closed] at h; simp only [AV.under, closed_underL n cs h]
  | .tup cs, h => by simp only [AV.closed] at h; simp only [AV.under, closed_underL n cs h]
  | .ref cs, h => by simp only [AV.closed] at h; simp only [AV.under, closed_underL n cs h]
  | .fn _ cs, h => by simp only [AV.closed] at h; simp only [AV.under, closed_underL n cs h]
  | .mv _ cs, h => by simp only [AV.closed] at h; simp only [AV.under, closed_underL n cs h]
  | .sl _ rows, h => by simp only [AV.closed] at h; simp only [AV.under, closed_underR n rows h]
  | .osl .., h => by simp [AV.closed] at h
  | .optr .., h => by simp [AV.closed] at h
  | .omap _, h => by simp [AV.closed] at h
theorem closed_underL (n : Nat) : ∀ xs : List AV, closedL xs = true → underL n xs = true
  | [], _ => rfl
  | x :: xs, h => by simp only [closedL, Bool.and_eq_true] at h; simp only [underL, closed_under n x h.1, closed_underL n xs h.2, Bool.and_self]
theorem closed_underR (n : Nat) : ∀ xs : List (List AV), closedR xs = true → underR n xs = true
  | [], _ => rfl
  | x :: xs, h => by simp only [closedR, Bool.and_eq_true] at h; simp only [underR, closed_underL n x h.1, closed_underR n xs h.2, Bool.and_self]
end

theorem guardO_some {α : Type} {b : Bool} {x : Option α} {e : α} (h : guardO b x = some e) : b = true ∧ x = some e := by
  cases b with
  | true => exact ⟨rfl, h⟩
  | false => simp [guardO] at h

theorem bytes_inj {s s' : ByteArray} (h : bytes s = bytes s') : s = s' := by
  rw [← mk_toArray s, ← mk_toArray s', h]

theorem vsame0_eq {a b : Value} (h : vsame0 a b = true) : a = b := by
  unfold vsame0 at h
  split at h
  · simpa using h
  · simp at h; obtain ⟨rfl, rfl⟩ := h; rfl
  · rename_i s s'
    have := bytes_inj (s := s) (s' := s') (by simpa using h)
    rw [this]
  · rfl
  · rfl
  · rfl
  · rfl
  · simp only [Bool.and_eq_true] at h
    rw [Nat.eq_of_beq_eq_true h.1, Nat.eq_of_beq_eq_true h.2]
  · cases h
theorem vsameL_eq : ∀ {a b : List Value}, vsameL a b = true → a = b
  | [], [], _ => rfl
  | x :: xs, y :: ys, h => by
    simp only [vsameL, Bool.and_eq_true] at h
    rw [vsame0_eq h.1, vsameL_eq h.2]
  | [], _ :: _, h => by simp [vsameL] at h
  | _ :: _, [], h => by simp [vsameL] at h
theorem vsame_eq {a b : Value} (h : vsame a b = true) : a = b := by
  unfold vsame at h
  split at h
  · rw [Array.toList_inj.1 (vsameL_eq h)]
  · simp only [Bool.and_eq_true] at h
    rw [Nat.eq_of_beq_eq_true h.1, vsame0_eq h.2]
  · exact vsame0_eq h

mutual
theorem AV.same_eq : ∀ (x y : AV), x.same y = true → x = y
  | .val v, y, h => by
    cases y <;> simp only [AV.same, Bool.false_eq_true] at h
    rw [vsame_eq h]
  | .top, y, h => by cases y <;> simp [AV.same] at h
  | .nil, y, h => by
    cases y <;> simp only [AV.same, Bool.false_eq_true] at h
    rfl
  | .agg a, y, h => by
    cases y <;> simp only [AV.same, Bool.false_eq_true] at h
    rw [sameL_eq _ _ h]
  | .tup a, y, h => by
    cases y <;> simp only [AV.same, Bool.false_eq_true] at h
    rw [sameL_eq _ _ h]
  | .sl k a, y, h => by
    cases y <;> simp only [AV.same, Bool.false_eq_true, Bool.and_eq_true] at h
    rw [Nat.eq_of_beq_eq_true h.1, sameR_eq _ _ h.2]
  | .ref a, y, h => by
    cases y <;> simp only [AV.same, Bool.false_eq_true] at h
    rw [sameL_eq _ _ h]
  | .osl a b c, y, h => by
    cases y <;> simp only [AV.same, Bool.false_eq_true, Bool.and_eq_true] at h
    rw [Nat.eq_of_beq_eq_true h.1, Nat.eq_of_beq_eq_true h.2.1, Nat.eq_of_beq_eq_true h.2.2]
  | .optr a b c, y, h => by
    cases y <;> simp only [AV.same, Bool.false_eq_true, Bool.and_eq_true] at h
    rw [Nat.eq_of_beq_eq_true h.1, Nat.eq_of_beq_eq_true h.2.1, Nat.eq_of_beq_eq_true h.2.2]
  | .fn f a, y, h => by
    cases y <;> simp only [AV.same, Bool.false_eq_true, Bool.and_eq_true] at h
    rw [Nat.eq_of_beq_eq_true h.1, sameL_eq _ _ h.2]
  | .mv f a, y, h => by
    cases y <;> simp only [AV.same, Bool.false_eq_true, Bool.and_eq_true] at h
    rw [Nat.eq_of_beq_eq_true h.1, sameL_eq _ _ h.2]
  | .omap a, y, h => by
    cases y <;> simp only [AV.same, Bool.false_eq_true] at h
    rw [Nat.eq_of_beq_eq_true h]
theorem sameL_eq : ∀ (x y : List AV), sameL x y = true → x = y
  | [], y, h => by
    cases y with
    | nil => rfl
    | cons b l => simp [sameL] at h
  | a :: x, y, h => by
    cases y with
    | nil => simp [sameL] at h
    | cons b l => simp only [sameL, Bool.and_eq_true] at h; rw [AV.same_eq _ _ h.1, sameL_eq _ _ h.2]
theorem sameR_eq : ∀ (x y : List (List AV)), sameR x y = true → x = y
  | [], y, h => by
    cases y with
    | nil => rfl
    | cons b l => simp [sameR] at h
  | a :: x, y, h => by
    cases y with
    | nil => simp [sameR] at h
    | cons b l => simp only [sameR, Bool.and_eq_true] at h; rw [sameL_eq _ _ h.1, sameR_eq _ _ h.2]
end
theorem esame_eq : ∀ {a b : List (Value × AV)}, esame a b = true → a = b
  | [], [], _ => rfl
  | x :: xs, y :: ys, h => by
    simp only [esame, Bool.and_eq_true] at h
    rw [esame_eq h.2]
    congr 1
    exact Prod.ext (vsame_eq h.1.1) (AV.same_eq _ _ h.1.2)
  | [], _ :: _, h => by simp [esame] at h
  | _ :: _, [], h => by simp [esame] at h
theorem OB.same_eq {a b : OB} (h : OB.same a b = true) : a = b := by
  unfold OB.same at h
  split at h
  · rfl
  · rfl
  · simp only [Bool.and_eq_true] at h
    rw [Nat.eq_of_beq_eq_true h.1, Nat.eq_of_beq_eq_true h.2.1, sameR_eq _ _ h.2.2]
  · simp only [Bool.and_eq_true] at h
    rename_i s p s' p'
    have := bytes_inj (s := s) (s' := s') (by simpa using h.1)
    rw [this, Nat.eq_of_beq_eq_true h.2]
  · rw [esame_eq h]
  · cases h

mutual
theorem closed_back (bl : List Nat) : ∀ x : AV, x.closed = true → x.back bl = x
  | .val _, _ => rfl
  | .top, _ => rfl
  | .nil, _ => rfl
  | .agg cs, h => by simp only [AV.closed] at h; simp only [AV.back, closed_backL bl cs h]
  | .tup cs, h => by simp only [AV.closed] at h; simp only [AV.back, closed_backL bl cs h]
  | .ref cs, h => by simp only [AV.closed] at h; simp only [AV.back, closed_backL bl cs h]
  | .fn _ cs, h => by simp only [AV.closed] at h; simp only [AV.back, closed_backL bl cs h]
  | .mv _ cs, h => by simp only [AV.closed] at h; simp only [AV.back, closed_backL bl cs h]
  | .sl _ rows, h => by simp only [AV.closed] at h; simp only [AV.back, closed_backR bl rows h]
  | .osl .., h => by simp [AV.closed] at h
  | .optr .., h => by simp [AV.closed] at h
  | .omap _, h => by simp [AV.closed] at h
theorem closed_backL (bl : List Nat) : ∀ xs : List AV, closedL xs = true → backL bl xs = xs
  | [], _ => rfl
  | x :: xs, h => by simp only [closedL, Bool.and_eq_true] at h; simp only [backL, closed_back bl x h.1, closed_backL bl xs h.2]
theorem closed_backR (bl : List Nat) : ∀ xs : List (List AV), closedR xs = true → backR bl xs = xs
  | [], _ => rfl
  | x :: xs, h => by simp only [closedR, Bool.and_eq_true] at h; simp only [backR, closed_backL bl x h.1, closed_backR bl xs h.2]
end
mutual
theorem closed_ren (bl : List Nat) : ∀ x : AV, x.closed = true → x.ren bl = x
  | .val _, _ => rfl
  | .top, _ => rfl
  | .nil, _ => rfl
  | .agg cs, h => by simp only [AV.closed] at h; simp only [AV.ren, closed_renL bl cs h]
  | .tup cs, h => by simp only [AV.closed] at h; simp only [AV.ren, closed_renL bl cs h]
  | .ref cs, h => by simp only [AV.closed] at h; simp only [AV.ren, closed_renL bl cs h]
  | .fn _ cs, h => by simp only [AV.closed] at h; simp only [AV.ren, closed_renL bl cs h]
  | .mv _ cs, h => by simp only [AV.closed] at h; simp only [AV.ren, closed_renL bl cs h]
  | .sl _ rows, h => by simp only [AV.closed] at h; simp only [AV.ren, closed_renR bl rows h]
  | .osl .., h => by simp [AV.closed] at h
  | .optr .., h => by simp [AV.closed] at h
  | .omap _, h => by simp [AV.closed] at h
theorem closed_renL (bl : List Nat) : ∀ xs : List AV, closedL xs = true → renL bl xs = xs
  | [], _ => rfl
  | x :: xs, h => by simp only [closedL, Bool.and_eq_true] at h; simp only [renL, closed_ren bl x h.1, closed_renL bl xs h.2]
theorem closed_renR (bl : List Nat) : ∀ xs : List (List AV), closedR xs = true → renR bl xs = xs
  | [], _ => rfl
  | x :: xs, h => by simp only [closedR, Bool.and_eq_true] at h; simp only [renR, closed_renL bl x h.1, closed_renR bl xs h.2]
end
mutual
theorem closed_names : ∀ x : AV, x.closed = true → x.names = []
  | .val _, _ => rfl
  | .top, _ => rfl
  | .nil, _ => rfl
  | .agg cs, h => by simp only [AV.closed] at h; simp only [AV.names, closed_namesL cs h]
  | .tup cs, h => by simp only [AV.closed] at h; simp only [AV.names, closed_namesL cs h]
  | .ref cs, h => by simp only [AV.closed] at h; simp only [AV.names, closed_namesL cs h]
  | .fn _ cs, h => by simp only [AV.closed] at h; simp only [AV.names, closed_namesL cs h]
  | .mv _ cs, h => by simp only [AV.closed] at h; simp only [AV.names, closed_namesL cs h]
  | .sl _ rows, h => by simp only [AV.closed] at h; simp only [AV.names, closed_namesR rows h]
  | .osl .., h => by simp [AV.closed] at h
  | .optr .., h => by simp [AV.closed] at h
  | .omap _, h => by simp [AV.closed] at h
theorem closed_namesL : ∀ xs : List AV, closedL xs = true → namesL xs = []
  | [], _ => rfl
  | x :: xs, h => by simp only [closedL, Bool.and_eq_true] at h; simp only [namesL, closed_names x h.1, closed_namesL xs h.2, List.append_nil]
theorem closed_namesR : ∀ xs : List (List AV), closedR xs = true → namesR xs = []
  | [], _ => rfl
  | x :: xs, h => by simp only [closedR, Bool.and_eq_true] at h; simp only [namesR, closed_namesL x h.1, closed_namesR xs h.2, List.append_nil]
end
mutual
theorem backF_eq (bl : List Nat) : ∀ x : AV, x.backF bl = x.back bl
  | .agg cs => by
    unfold AV.backF
    split
    · rename_i h; exact (closed_back bl _ h).symm
    · simp only [AV.back, backFL_eq bl cs]
  | .tup cs => by
    unfold AV.backF
    split
    · rename_i h; exact (closed_back bl _ h).symm
    · simp only [AV.back, backFL_eq bl cs]
  | .ref cs => by
    unfold AV.backF
    split
    · rename_i h; exact (closed_back bl _ h).symm
    · simp only [AV.back, backFL_eq bl cs]
  | .fn f cs => by
    unfold AV.backF
    split
    · rename_i h; exact (closed_back bl _ h).symm
    · simp only [AV.back, backFL_eq bl cs]
  | .mv f cs => by
    unfold AV.backF
    split
    · rename_i h; exact (closed_back bl _ h).symm
    · simp only [AV.back, backFL_eq bl cs]
  | .sl k rows => by
    unfold AV.backF
    split
    · rename_i h; exact (closed_back bl _ h).symm
    · simp only [AV.back, backFR_eq bl rows]
  | .val v => by simp [AV.backF, AV.back, AV.closed]
  | .top => by simp [AV.backF, AV.back, AV.closed]
  | .nil => by simp [AV.backF, AV.back, AV.closed]
  | .osl b i n => by simp [AV.backF, AV.back, AV.closed]
  | .optr b i o => by simp [AV.backF, AV.back, AV.closed]
  | .omap b => by simp [AV.backF, AV.back, AV.closed]
theorem backFL_eq (bl : List Nat) : ∀ xs : List AV, backFL bl xs = backL bl xs
  | [] => rfl
  | x :: xs => by simp only [backFL, backL, backF_eq bl x, backFL_eq bl xs]
theorem backFR_eq (bl : List Nat) : ∀ xs : List (List AV), backFR bl xs = backR bl xs
  | [] => rfl
  | x :: xs => by simp only [backFR, backR, backFL_eq bl x, backFR_eq bl xs]
end
theorem OB.backF_eq (bl : List Nat) (o : OB) : o.backF bl = o.back bl := by
  cases o <;> simp only [OB.backF, OB.back, backFR_eq, Am.backF_eq]
mutual
theorem renF_eq (bl : List Nat) : ∀ x : AV, x.renF bl = x.ren bl
  | .agg cs => by
    unfold AV.renF
    split
    · rename_i h; exact (closed_ren bl _ h).symm
    · simp only [AV.ren, renFL_eq bl cs]
  | .tup cs => by
    unfold AV.renF
    split
    · rename_i h; exact (closed_ren bl _ h).symm
    · simp only [AV.ren, renFL_eq bl cs]
  | .ref cs => by
    unfold AV.renF
    split
    · rename_i h; exact (closed_ren bl _ h).symm
    · simp only [AV.ren, renFL_eq bl cs]
  | .fn f cs => by
    unfold AV.renF
    split
    · rename_i h; exact (closed_ren bl _ h).symm
    · simp only [AV.ren, renFL_eq bl cs]
  | .mv f cs => by
    unfold AV.renF
    split
    · rename_i h; exact (closed_ren bl _ h).symm
    · simp only [AV.ren, renFL_eq bl cs]
  | .sl k rows => by
    unfold AV.renF
    split
    · rename_i h; exact (closed_ren bl _ h).symm
    · simp only [AV.ren, renFR_eq bl rows]
  | .val v => by simp [AV.renF, AV.ren, AV.closed]
  | .top => by simp [AV.renF, AV.ren, AV.closed]
  | .nil => by simp [AV.renF, AV.ren, AV.closed]
  | .osl b i n => by simp [AV.renF, AV.ren, AV.closed]
  | .optr b i o => by simp [AV.renF, AV.ren, AV.closed]
  | .omap b => by simp [AV.renF, AV.ren, AV.closed]
theorem renFL_eq (bl : List Nat) : ∀ xs : List AV, renFL bl xs = renL bl xs
  | [] => rfl
  | x :: xs => by simp only [renFL, renL, renF_eq bl x, renFL_eq bl xs]
theorem renFR_eq (bl : List Nat) : ∀ xs : List (List AV), renFR bl xs = renR bl xs
  | [] => rfl
  | x :: xs => by simp only [renFR, renR, renFL_eq bl x, renFR_eq bl xs]
end
theorem OB.renF_eq (bl : List Nat) (o : OB) : o.renF bl = o.ren bl := by
  cases o <;> simp only [OB.renF, OB.ren, renFR_eq, Am.renF_eq]
mutual
theorem namesF_eq : ∀ x : AV, x.namesF = x.names
  | .agg cs => by
    unfold AV.namesF
    split
    · rename_i h; exact (closed_names _ h).symm
    · simp only [AV.names, namesFL_eq cs]
  | .tup cs => by
    unfold AV.namesF
    split
    · rename_i h; exact (closed_names _ h).symm
    · simp only [AV.names, namesFL_eq cs]
  | .ref cs => by
    unfold AV.namesF
    split
    · rename_i h; exact (closed_names _ h).symm
    · simp only [AV.names, namesFL_eq cs]
  | .fn f cs => by
    unfold AV.namesF
    split
    · rename_i h; exact (closed_names _ h).symm
    · simp only [AV.names, namesFL_eq cs]
  | .mv f cs => by
    unfold AV.namesF
    split
    · rename_i h; exact (closed_names _ h).symm
    · simp only [AV.names, namesFL_eq cs]
  | .sl k rows => by
    unfold AV.namesF
    split
    · rename_i h; exact (closed_names _ h).symm
    · simp only [AV.names, namesFR_eq rows]
  | .val v => by simp [AV.namesF, AV.names, AV.closed]
  | .top => by simp [AV.namesF, AV.names, AV.closed]
  | .nil => by simp [AV.namesF, AV.names, AV.closed]
  | .osl b i n => by simp [AV.namesF, AV.names, AV.closed]
  | .optr b i o => by simp [AV.namesF, AV.names, AV.closed]
  | .omap b => by simp [AV.namesF, AV.names, AV.closed]
theorem namesFL_eq : ∀ xs : List AV, namesFL xs = namesL xs
  | [] => rfl
  | x :: xs => by simp only [namesFL, namesL, namesF_eq x, namesFL_eq xs]
theorem namesFR_eq : ∀ xs : List (List AV), namesFR xs = namesR xs
  | [] => rfl
  | x :: xs => by simp only [namesFR, namesR, namesFL_eq x, namesFR_eq xs]
end
theorem OB.namesF_eq (o : OB) : o.namesF = o.names := by
  cases o <;> simp only [OB.namesF, OB.names, namesFR_eq, Am.namesF_eq]
theorem resF_eq (n : Nat) (hp : List OB) (x : AV) : resF n hp x = res n hp x := by
  unfold resF
  split
  · rename_i h; exact (res_closed hp n x h).symm
  · rfl
theorem resF_fun (n : Nat) (hp : List OB) : resF n hp = res n hp := funext (resF_eq n hp)
theorem reach_ok {hp : List OB} : ∀ (n : Nat) (todo seen bl : List Nat), reach hp n todo seen = some bl → seen.Nodup →
    bl.Nodup ∧ (∃ l, bl = seen ++ l) ∧ (∀ b ∈ todo, b ∈ bl) ∧ ∀ b ∈ bl, b ∉ seen → ∀ c ∈ (hp.getD b .dead).names, c ∈ bl
  | n, [], seen, bl, h, hn => by
    have : bl = seen := by cases n <;> (simp only [reach, Option.some.injEq] at h; exact h.symm)
    subst this
    exact ⟨hn, ⟨[], by simp⟩, by simp, fun b hb hb' => absurd hb hb'⟩
  | 0, b :: todo, seen, bl, h, hn => by simp [reach] at h
  | n + 1, b :: todo, seen, bl, h, hn => by
    simp only [reach] at h
    split at h
    · rename_i hc
      obtain ⟨h1, ⟨l, h2⟩, h3, h4⟩ := reach_ok n todo seen bl h hn
      refine ⟨h1, ⟨l, h2⟩, fun c hc' => ?_, h4⟩
      rcases List.mem_cons.1 hc' with rfl | hc'
      · rw [h2]; exact List.mem_append_left _ (by simpa using hc)
      · exact h3 c hc'
    · rename_i hc
      have hb : b ∉ seen := by simpa using hc
      rw [OB.namesF_eq] at h
      obtain ⟨h1, ⟨l, h2⟩, h3, h4⟩ := reach_ok n _ _ bl h (by
        rw [List.nodup_append]
        refine ⟨hn, by simp, fun a ha c hc => ?_⟩
        rintro rfl
        simp at hc; subst hc; exact hb ha)
      refine ⟨h1, ⟨b :: l, by rw [h2]; simp⟩, fun c hc' => ?_, fun c hc' hs d hd => ?_⟩
      · rcases List.mem_cons.1 hc' with rfl | hc'
        · rw [h2]; simp
        · exact h3 c (List.mem_append_right _ hc')
      · by_cases hcb : c = b
        · subst hcb; exact h3 d (List.mem_append_left _ hd)
        · exact h4 c hc' (by simp [hs, hcb]) d hd

theorem idx_back {bl : List Nat} {b : Nat} (h : b ∈ bl) : bl.getD (bl.idxOf b) 0 = b ∧ bl.idxOf b < bl.length := by
  have hlt := List.idxOf_lt_length_of_mem h
  exact ⟨by simp [List.getD, List.getElem?_eq_getElem hlt], hlt⟩

mutual
theorem back_ok {bl : List Nat} : ∀ (x : AV), (∀ b ∈ x.names, b ∈ bl) → (x.back bl).ren bl = x ∧ (x.back bl).under bl.length = true
  | .val _, _ => ⟨rfl, rfl⟩
  | .top, _ => ⟨rfl, rfl⟩
  | .nil, _ => ⟨rfl, rfl⟩
  | .agg cs, h => by simp only [AV.names] at h; have := backL_ok cs h; simp only [AV.back, AV.ren, AV.under, this, and_self]
  | .tup cs, h => by simp only [AV.names] at h; have := backL_ok cs h; simp only [AV.back, AV.ren, AV.under, this, and_self]
  | .ref cs, h => by simp only [AV.names] at h; have := backL_ok cs h; simp only [AV.back, AV.ren, AV.under, this, and_self]
  | .fn f cs, h => by simp only [AV.names] at h; have := backL_ok cs h; simp only [AV.back, AV.ren, AV.under, this, and_self]
  | .mv f cs, h => by simp only [AV.names] at h; have := backL_ok cs h; simp only [AV.back, AV.ren, AV.under, this, and_self]
  | .sl k rows, h => by simp only [AV.names] at h; have := backR_ok rows h; simp only [AV.back, AV.ren, AV.under, this, and_self]
  | .osl b i n, h => by have := idx_back (h b (by simp [AV.names])); simp only [AV.back, AV.ren, AV.under, this, and_self, decide_true]
  | .optr b i o, h => by have := idx_back (h b (by simp [AV.names])); simp only [AV.back, AV.ren, AV.under, this, and_self, decide_true]
  | .omap b, h => by have := idx_back (h b (by simp [AV.names])); simp only [AV.back, AV.ren, AV.under, this, and_self, decide_true]
theorem backL_ok {bl : List Nat} : ∀ (xs : List AV), (∀ b ∈ namesL xs, b ∈ bl) → renL bl (backL bl xs) = xs ∧ underL bl.length (backL bl xs) = true
  | [], _ => ⟨rfl, rfl⟩
  | x :: xs, h => by
    simp only [namesL, List.mem_append] at h
    have h1 := back_ok x fun b hb => h b (.inl hb)
    have h2 := backL_ok xs fun b hb => h b (.inr hb)
    simp only [backL, renL, underL, h1, h2, and_self, Bool.and_self]
theorem backR_ok {bl : List Nat} : ∀ (xs : List (List AV)), (∀ b ∈ namesR xs, b ∈ bl) → renR bl (backR bl xs) = xs ∧ underR bl.length (backR bl xs) = true
  | [], _ => ⟨rfl, rfl⟩
  | x :: xs, h => by
    simp only [namesR, List.mem_append] at h
    have h1 := backL_ok x fun b hb => h b (.inl hb)
    have h2 := backR_ok xs fun b hb => h b (.inr hb)
    simp only [backR, renR, underR, h1, h2, and_self, Bool.and_self]
end
theorem OB.back_ok {bl : List Nat} {o : OB} (h : ∀ b ∈ o.names, b ∈ bl) : (o.back bl).ren bl = o ∧ (o.back bl).under bl.length = true := by
  cases o with
  | fresh => exact ⟨rfl, rfl⟩
  | dead => exact ⟨rfl, rfl⟩
  | siter s p => exact ⟨rfl, rfl⟩
  | cells e k rows => simp only [OB.names] at h; have := backR_ok rows h; simp only [OB.back, OB.ren, OB.under, this, and_self]
  | map es =>
    simp only [OB.names, List.mem_flatMap] at h
    have key : ∀ (l : List (Value × AV)), (∀ e ∈ l, ∀ b ∈ e.2.names, b ∈ bl) → (l.map fun e => (e.1, e.2.back bl)).map (fun e => (e.1, e.2.ren bl)) = l ∧ ((l.map fun e => (e.1, e.2.back bl)).all fun e => e.2.under bl.length) = true := by
      intro l
      induction l with
      | nil => intro _; exact ⟨rfl, rfl⟩
      | cons e l ih =>
        intro h
        have h1 := Am.back_ok e.2 (h e (by simp))
        have h2 := ih fun e' he' => h e' (by simp [he'])
        simp only [List.map_cons, List.all_cons, h1, h2, Bool.and_self, and_self]
    have := key es fun e he b hb => h b ⟨e, he, hb⟩
    simp only [OB.back, OB.ren, OB.under, this, and_self]
end Go.Am
namespace Go.Am

theorem guardO_iff {α : Type} {b : Bool} {x : Option α} {e : α} : (guardO b x = some e) ↔ (b = true ∧ x = some e) := by
  cases b <;> simp [guardO]

theorem getD_some {hp : List OB} {b : Nat} (h : b < hp.length) : hp[b]? = some (hp.getD b .dead) := by
  simp [List.getD, List.getElem?_eq_getElem h]

/-- What is asked of the calls of a run. -/
def XOk (P : Program) (xf : FuncId → List AV → List OB → Option (AV × List OB)) : Prop :=
  ∀ f args fp r fp', fp.all OB.live = true → underL fp.length args = true → fp.all (OB.under fp.length) = true → xf f args fp = some (r, fp') → CC P f args fp r fp' ∧ (r.under fp'.length = true ∧ fp'.all (OB.under fp'.length) = true)

/-- The methods of a table are what they are said to be. -/
def MethsOk (E : XEnv) : Prop := ∀ t name f k n, E.meth t name = some f → MethOK E.P t (.int k n) name f

section
variable {E : XEnv} {xf : FuncId → List AV → List OB → Option (AV × List OB)} {hp : List OB}

theorem xcall_sound (hxf : XOk E.P xf) {draw : Bool} {f : FuncId} {args : List AV} {e : Eff} (h : xcall E xf draw f args hp = some e) {K : Eff → Prop} (hK : K e) : callK (CC E.P) f args hp K := by
  unfold xcall at h
  simp only [resF_fun, namesFL_eq, backFL_eq, OB.backF_eq, renF_eq, funext (OB.renF_eq _)] at h
  split at h
  · try simp only at h
    obtain ⟨h1, h⟩ := guardO_some h
    split at h
    · rename_i r hr
      obtain ⟨h2, h⟩ := guardO_some h
      simp only [Option.some.injEq] at h
      subst h
      simp only [Bool.and_eq_true, Bool.or_eq_true] at h2
      exact .inl ⟨E.deep, _, r, SubL.refl _, h1, (hxf f _ [] r [] rfl (closed_underL _ _ h1) rfl hr).1, h2.1, h2.2, hK⟩
    · cases h
  · split at h
    · rename_i bl hbl
      try simp only at h
      obtain ⟨h1, h⟩ := guardO_some h
      split at h
      · rename_i r fp' hr
        obtain ⟨h2, h⟩ := guardO_some h
        simp only [Option.some.injEq] at h
        subst h
        obtain ⟨n1, _, n3, n4⟩ := reach_ok _ _ _ _ hbl (by simp)
        have hle := Nat.le_of_ble_eq_true h2
        have hnm : ∀ b ∈ bl, ∀ c ∈ (hp.getD b .dead).names, c ∈ bl := fun b hb => n4 b hb (by simp)
        have hget : ∀ j, j < bl.length → (bl.map fun b => (hp.getD b .dead).back bl).getD j .dead = (hp.getD (bl.getD j 0) .dead).back bl := fun j hj => by
          simp [List.getD, List.getElem?_eq_getElem hj]
        have hmem : ∀ j, j < bl.length → bl.getD j 0 ∈ bl := fun j hj => by simp [List.getD, List.getElem?_eq_getElem hj]
        have hin : ∀ b ∈ bl, b < hp.length := fun b hb => by
          rw [List.all_eq_true] at h1
          have := h1 _ (List.mem_map.2 ⟨b, hb, rfl⟩)
          rcases Nat.lt_or_ge b hp.length with h' | h'
          · exact h'
          · simp [List.getD, List.getElem?_eq_none h', OB.back, OB.live] at this
        have hargs := backL_ok args n3
        have hunder : (bl.map fun b => (hp.getD b .dead).back bl).all (OB.under (bl.map fun b => (hp.getD b .dead).back bl).length) = true := by
          rw [List.all_eq_true]
          intro o ho
          obtain ⟨b, hb, rfl⟩ := List.mem_map.1 ho
          rw [List.length_map]
          exact (OB.back_ok (hnm b hb)).2
        obtain ⟨c1, c2, c3⟩ := hxf f _ _ r fp' h1 (by simpa using hargs.2) hunder hr
        refine .inr ⟨bl, backL bl args, _, r, fp', _, n1, by simp, fun j hj => ?_, h1, hunder, hargs.1.symm, by simpa using hargs.2, c1, hle, c2, c3, ?_, ?_, hK⟩
        · rw [hget j hj, (OB.back_ok (hnm _ (hmem j hj))).1]
          exact getD_some (hin _ (hmem j hj))
        · split
          · exact List.Sublist.refl _
          · exact List.filter_sublist
        · intro p hp'
          split
          · exact .inl hp'
          · by_cases hs : OB.same (hp.getD p.1 .dead) p.2 = true
            · right
              have hlt := hin _ (List.of_mem_zip hp').1
              have := OB.same_eq hs
              rw [← this, List.getElem?_eq_getElem hlt]
              simp [List.getD, List.getElem?_eq_getElem hlt]
            · left
              rw [List.mem_filter]
              exact ⟨hp', by simpa using hs⟩
      · cases h
    · cases h

theorem xloaded_sound {P : Program} {t : TypeId} {cells : List AV} {r : List Nat} {e : Eff} (h : xloaded P t cells r = some e) : loaded P t cells r (fun e' => e' = e) := by
  unfold xloaded at h
  unfold loaded
  split at h
  · rename_i ha
    obtain ⟨h1, h2⟩ := guardO_some h
    simp only [Bool.and_eq_true, Nat.blt_eq] at h1
    simp only [ha]
    simp only [Option.some.injEq] at h2
    exact ⟨h1.1, Nat.le_of_ble_eq_true h1.2, h2⟩
  · rename_i ha
    simp only [ha]
    split at h
    · simpa using h
    · cases h
  · cases h

theorem xbinInt_sound {op : BinOp} {k : IntKind} {a b : Int} {v : AV} (h : xbinInt op k a b = some v) : abinInt op k a b (fun e => e = { v := v }) := by
  unfold xbinInt at h
  unfold abinInt
  cases op <;> simp only at h ⊢ <;> (try simp only [guardO_iff, decide_eq_true_eq, Option.some.injEq] at h) <;> (try (split at h <;> simp_all)) <;> simp_all

theorem xbinStr_sound {op : BinOp} {a b : List UInt8} {v : AV} (h : xbinStr op a b = some v) : abinStr op a b (fun e => e = { v := v }) := by
  unfold xbinStr at h
  unfold abinStr
  cases op <;> simp only at h ⊢ <;> (try simp only [guardO_iff, decide_eq_true_eq, Option.some.injEq] at h) <;> simp_all

theorem xbin_sound {P : Program} {u : TypeId} {lit : Bool} {op : BinOp} {x y : AV} {v : AV} (h : xbin P u lit op x y = some v) : abin P u lit op x y (fun e => e = { v := v }) := by
  unfold xbin at h
  unfold abin
  split at h
  · split at h
    · simp only [guardO_iff, decide_eq_true_eq, Option.some.injEq] at h; exact ⟨h.1, by rw [h.2]⟩
    · simp only [guardO_iff, decide_eq_true_eq, Option.some.injEq] at h; exact ⟨h.1, by rw [h.2]⟩
    · rename_i h1 h2
      simp only [guardO_iff, decide_eq_true_eq] at h
      have := xbinInt_sound h.2
      cases op <;> first | exact absurd rfl h1 | exact absurd rfl h2 | exact ⟨h.1, this⟩
  · exact xbinStr_sound h
  · simp only [guardO_iff, Bool.and_eq_true, Bool.not_eq_true', beq_iff_eq] at h
    obtain ⟨h1, h⟩ := h
    split at h <;> (try cases h)
    all_goals
      simp only [Option.map_eq_some_iff] at h
      obtain ⟨b, hb, rfl⟩ := h
      simp only [hb]
      exact ⟨h1, trivial⟩
  · rename_i h1 h2 h3
    split at h <;> (try cases h)
    all_goals
      simp only [Option.map_eq_some_iff] at h
      obtain ⟨b, hb, rfl⟩ := h
      split <;> first | exact (h1 _ _ _ _ rfl rfl).elim | exact (h2 _ _ rfl rfl).elim | exact (h3 _ _ rfl rfl).elim | simp_all
end
end Go.Am
namespace Go.Am
section
variable {E : XEnv} {xf : FuncId → List AV → List OB → Option (AV × List OB)} {hp : List OB}

theorem xop_sound (hxf : XOk E.P xf) (hm : MethsOk E) {draw : Bool} {o : Oper} {ev : Operand → AV} {r : Eff} (h : xop E xf draw o ev hp = some r) : aop E.P (CC E.P) o ev hp (fun e => e = r) := by
  obtain ⟨d, op, t, p, af, g⟩ := o
  cases op with
  | move x => simp only [xop, Option.some.injEq] at h; simp only [aop]; exact h
  | assign x => simp only [xop, Option.some.injEq] at h; simp only [aop]; exact h
  | pick c a b =>
    simp only [xop] at h; simp only [aop]
    split at h
    · rename_i q hq
      simp only [hq]
      cases q <;> simp_all
    · cases h
  | alloc e =>
    simp only [xop] at h; simp only [aop]
    split at h <;> rename_i ha <;> simp only [ha]
    all_goals
      split at h
      · rename_i z hz
        simp only [hz]
        simp only [guardO_iff, Bool.and_eq_true, decide_eq_true_eq, Option.some.injEq] at h
        exact ⟨h.1.1.1, h.1.1.2, h.1.2, h.2⟩
      · cases h
  | box e x =>
    simp only [xop] at h; simp only [aop]
    simp only [guardO_iff, Bool.and_eq_true, decide_eq_true_eq, Option.some.injEq] at h
    exact ⟨h.1.1.1, h.1.1.2, h.1.2, h.2⟩
  | build u ps =>
    simp only [xop] at h; simp only [aop]
    split at h <;> rename_i ha <;> simp only [ha]
    all_goals
      split at h
      · rename_i z hz
        simp only [hz]
        split at h
        · rename_i cs hcs
          simp only [hcs]
          simp only [guardO_iff, Bool.and_eq_true, decide_eq_true_eq, Option.some.injEq] at h
          first | exact ⟨⟨h.1.1, h.1.2⟩, h.2⟩ | exact ⟨h.1.1, h.1.2, h.2⟩
        · cases h
      · cases h
  | buildSlice u n ps =>
    simp only [xop] at h; simp only [aop]
    split at h
    · rename_i e he
      simp only [he]
      split at h
      · rename_i z hz
        simp only [hz]
        split at h
        · rename_i rs hrs
          simp only [hrs]
          simp only [guardO_iff, Bool.and_eq_true, decide_eq_true_eq, Option.some.injEq] at h
          exact ⟨h.1.1.1.1, h.1.1.1.2, h.1.1.2, h.1.2, h.2⟩
        · cases h
      · cases h
    · cases h
  | load u x =>
    simp only [xop] at h; simp only [aop]
    split at h
    · rename_i cells hv; simp only [hv]; exact xloaded_sound h
    · rename_i b i f hv
      simp only [hv]
      split at h
      · rename_i e k rows hb
        simp only [hb]
        split at h
        · rename_i n hr
          simp only [hr]
          simp only [guardO_iff, Bool.and_eq_true, decide_eq_true_eq, Option.some.injEq] at h
          exact h
        · rename_i hr
          simp only [hr]
          split at h
          · rename_i row hrow; simp only [hrow]; exact xloaded_sound h
          · cases h
      · cases h
    · cases h
  | store u x y =>
    simp only [xop] at h; simp only [aop]
    split at h
    · rename_i b i f hv
      simp only [hv]
      split at h
      · rename_i e k rows hb
        simp only [hb]
        split at h
        · rename_i n hr
          simp only [hr]
          simp only [guardO_iff, Bool.and_eq_true, decide_eq_true_eq, Option.some.injEq] at h
          exact ⟨⟨h.1.1.1.1, h.1.1.1.2, h.1.1.2, h.1.2⟩, h.2⟩
        · rename_i hr
          simp only [hr]
          split at h
          · rename_i row hrow
            simp only [hrow]
            simp only [guardO_iff, Bool.and_eq_true, decide_eq_true_eq, Option.some.injEq] at h
            exact ⟨h.1.1.1.1, h.1.1.1.2, h.1.1.2, h.1.2, h.2⟩
          · cases h
      · cases h
    · cases h
  | nilCheck x =>
    simp only [xop] at h; simp only [aop]
    split at h <;> rename_i hv <;> first | (simp only [hv]; simpa using h) | cases h
  | binOp op u x y z =>
    simp only [xop] at h; simp only [aop]
    simp only [Option.map_eq_some_iff] at h
    obtain ⟨v, hv, rfl⟩ := h
    exact xbin_sound hv
  | unOp op u x =>
    simp only [xop] at h; simp only [aop]
    split at h
    · rename_i q hq; simp only [hq]; simpa using h
    · rename_i k n hq; simp only [hq]; simpa using h
    · rename_i k n hq
      simp only [hq]
      split at h
      · rename_i m hm; simp only [hm]; simpa using h
      · cases h
    · cases h
  | convert s dt x =>
    simp only [xop] at h; simp only [aop]
    split at h
    · rename_i k n hv
      simp only [hv]
      split at h
      · rename_i k' hk
        simp only [hk]
        simpa only [guardO_iff, Option.some.injEq] using h
      · cases h
    · rename_i q hv
      simp only [hv]
      simp only [guardO_iff, Bool.and_eq_true, Option.some.injEq] at h
      exact ⟨h.1.1, h.1.2, h.2⟩
    · rename_i b i n hv
      simp only [hv]
      split at h
      · rename_i e rows rr h1 h2
        simp only [h1, h2]
        split at h
        · rename_i l hl
          simp only [hl]
          simpa only [guardO_iff, Bool.and_eq_true, Option.some.injEq] using h
        · cases h
      · cases h
    · rename_i k rows hv
      simp only [hv]
      split at h
      · rename_i e h1
        simp only [h1]
        split at h
        · rename_i l hl
          simp only [hl]
          simp only [guardO_iff, Bool.and_eq_true, decide_eq_true_eq, Option.some.injEq] at h
          exact ⟨⟨h.1.1.1, h.1.1.2, h.1.2⟩, h.2⟩
        · cases h
      · cases h
    · rename_i hv
      simp only [hv]
      split at h
      · rename_i e h1
        simp only [h1]
        simpa only [guardO_iff, Bool.and_eq_true, Option.some.injEq] using h
      · cases h
    · rename_i b i o hv
      simp only [hv]
      split at h
      · rename_i e k rows hb
        simp only [hb]
        split at h
        · rename_i u h1 h2
          simp only [h1, h2]
          simp only [guardO_iff, Bool.and_eq_true, decide_eq_true_eq, Option.some.injEq] at h
          exact ⟨⟨h.1.1.1.1, h.1.1.1.2, h.1.1.2, h.1.2⟩, h.2⟩
        · rename_i u h1 h2
          simp only [h1, h2]
          simp only [guardO_iff, Bool.and_eq_true, decide_eq_true_eq, Option.some.injEq] at h
          exact ⟨⟨h.1.1.1.1.1.1, h.1.1.1.1.1.2, h.1.1.1.1.2, h.1.1.1.2, h.1.1.2, h.1.2⟩, h.2⟩
        · cases h
      · cases h
    · cases h
  | makeInterface u x =>
    simp only [xop] at h; simp only [aop]
    split at h
    · rename_i v hv; simp only [hv]; simpa only [guardO_iff, Option.some.injEq] using h
    · cases h
  | makeFunc fn first captured =>
    cases fn with
    | func f =>
      simp only [xop] at h; simp only [aop]
      split at h
      · rename_i h1
        simp only [Option.some.injEq] at h
        have e1 : first = #[] := by apply Array.ext'; simpa using h1
        exact ⟨fun _ => h, fun hn => absurd e1 hn⟩
      · rename_i a as h1 h2
        simp only [Option.some.injEq] at h
        refine ⟨fun hn => by subst hn; simp at h1, fun _ => ⟨by apply Array.ext'; simpa using h2, by rw [h1]; exact h⟩⟩
      · cases h
    | _ => simp [xop] at h
  | makeMap u rs =>
    simp only [xop] at h; simp only [aop]
    simpa only [guardO_iff, Option.isNone_iff_eq_none, Option.some.injEq] using h
  | makeSlice u l c =>
    simp only [xop] at h; simp only [aop]
    split at h
    · rename_i e k n k' m h1 h2 h3
      simp only [h1, h2, h3]
      split at h
      · rename_i z hz
        simp only [hz]
        simp only [guardO_iff, Bool.and_eq_true, decide_eq_true_eq, Option.some.injEq] at h
        exact ⟨h.1.1.1.1.1.1.1, h.1.1.1.1.1.1.2, h.1.1.1.1.1.2, h.1.1.1.1.2, h.1.1.1.2, h.1.1.2, h.1.2, h.2⟩
      · cases h
    · cases h
  | slice u x lo hi mx =>
    cases mx with
    | some _ => simp [xop] at h
    | none =>
      simp only [xop] at h; simp only [aop]
      split at h
      · rename_i s hv
        simp only [hv]
        split at h
        · rename_i l h' h1 h2
          simp only [h1, h2]
          simp only [guardO_iff, Bool.and_eq_true, decide_eq_true_eq, Option.some.injEq] at h
          exact ⟨h.1.1.1.1, ⟨h.1.1.1.2, h.1.1.2, h.1.2⟩, h.2⟩
        · cases h
      · rename_i k rows hv
        simp only [hv]
        split at h
        · rename_i l h' h1 h2
          simp only [h1, h2]
          simp only [guardO_iff, Bool.and_eq_true, decide_eq_true_eq, beq_iff_eq, Option.some.injEq] at h
          exact ⟨h.1.1.1.1.1, h.1.1.1.1.2, ⟨h.1.1.1.2, h.1.1.2, h.1.2⟩, h.2⟩
        · cases h
      · rename_i b i n hv
        simp only [hv]
        split at h
        · rename_i l h' e k rows h1 h2 h3
          simp only [h1, h2, h3]
          simp only [guardO_iff, Bool.and_eq_true, decide_eq_true_eq, beq_iff_eq, Option.some.injEq] at h
          exact ⟨h.1.1.1.1, ⟨h.1.1.1.2, h.1.1.2, h.1.2⟩, h.2⟩
        · cases h
      · rename_i hv
        simp only [hv]
        split at h
        · rename_i l h' h1 h2
          simp only [h1, h2]
          simp only [guardO_iff, Bool.and_eq_true, decide_eq_true_eq, beq_iff_eq, Option.some.injEq] at h
          exact ⟨h.1.1.1, ⟨h.1.1.2, h.1.2⟩, h.2⟩
        · cases h
      · rename_i b hv
        simp only [hv]
        split at h
        · rename_i n e h1
          simp only [h1]
          split at h
          · rename_i e' k rows hb
            simp only [hb]
            simp only [guardO_iff, Bool.and_eq_true, decide_eq_true_eq, Option.some.injEq] at h
            exact ⟨h.1.1.1, h.1.1.2, h.1.2, h.2⟩
          · cases h
        · cases h
      · cases h
  | fieldAddr u x f =>
    simp only [xop] at h; simp only [aop]
    split at h
    · rename_i off ft hf
      simp only [hf]
      split at h
      · rename_i cells hv
        simp only [hv]
        simp only [guardO_iff, Bool.and_eq_true, decide_eq_true_eq, Option.some.injEq] at h
        exact ⟨h.1.1, h.1.2, h.2⟩
      · rename_i b i c hv
        simp only [hv]
        simpa only [guardO_iff, decide_eq_true_eq, Option.some.injEq] using h
      · cases h
    · cases h
  | field u x f =>
    simp only [xop] at h; simp only [aop]
    split at h
    · rename_i off ft hf
      simp only [hf]
      split at h
      · rename_i cells hv; simp only [hv]; exact xloaded_sound h
      · cases h
    · cases h
  | indexAddr u x ix =>
    simp only [xop] at h; simp only [aop]
    split at h
    · rename_i kk n hi
      simp only [hi]
      split at h
      · rename_i k rows hv
        simp only [hv]
        obtain ⟨h0, h⟩ := guardO_iff.1 h
        refine ⟨by simpa using h0, ?_⟩
        split at h
        · rename_i row hrow
          simp only [hrow]
          simp only [guardO_iff, Bool.and_eq_true, decide_eq_true_eq, beq_iff_eq, Option.some.injEq] at h
          exact ⟨h.1.1, h.1.2, h.2⟩
        · cases h
      · rename_i b i m hv
        simp only [hv]
        obtain ⟨h0, h⟩ := guardO_iff.1 h
        simp only [Bool.and_eq_true, decide_eq_true_eq] at h0
        refine ⟨h0, ?_⟩
        split at h
        · rename_i e k rows hb
          simp only [hb]
          simpa only [guardO_iff, beq_iff_eq, Option.some.injEq] using h
        · cases h
      · rename_i b hv
        simp only [hv]
        split at h
        · rename_i m e h1
          simp only [h1]
          obtain ⟨h0, h⟩ := guardO_iff.1 h
          simp only [Bool.and_eq_true, decide_eq_true_eq] at h0
          refine ⟨⟨h0.1.1, h0.1.2, h0.2⟩, ?_⟩
          split at h
          · rename_i e' k rows hb
            simp only [hb]
            simp only [guardO_iff, Bool.and_eq_true, decide_eq_true_eq, Option.some.injEq] at h
            exact ⟨h.1.1, h.1.2, h.2⟩
          · cases h
        · cases h
      · cases h
    · cases h
  | index u x ix =>
    simp only [xop] at h; simp only [aop]
    split at h
    · rename_i k n s hi hv
      simp only [hi, hv]
      obtain ⟨h0, h⟩ := guardO_iff.1 h
      simp only [Bool.and_eq_true, decide_eq_true_eq] at h0
      refine ⟨h0.1, h0.2, ?_⟩
      split at h
      · rename_i c hc; simp only [hc]; simpa using h
      · cases h
    · cases h
  | lookup u x ix ok =>
    simp only [xop] at h; simp only [aop]
    split at h
    · rename_i b k hv hk
      simp only [hv, hk]
      split at h
      · rename_i es kt e hb hmt
        simp only [hb, hmt]
        obtain ⟨h0, h⟩ := guardO_iff.1 h
        refine ⟨by simpa using h0, ?_⟩
        split at h
        · rename_i p hp' _; simp only [hp']; simpa using h
        · rename_i p hp' _; simp only [hp']; simpa using h
        · rename_i hp' _
          simp only [hp']
          split at h
          · rename_i z hz; simp only [hz]; simpa using h
          · cases h
        · rename_i hp' _
          simp only [hp']
          split at h
          · rename_i z hz; simp only [hz]; simpa using h
          · cases h
        · cases h
      · cases h
    · cases h
  | mapUpdate u m k x =>
    simp only [xop] at h; simp only [aop]
    split at h
    · rename_i b kv hv hk
      simp only [hv, hk]
      split at h
      · rename_i es kt e hb hmt
        simp only [hb, hmt]
        obtain ⟨h0, h⟩ := guardO_iff.1 h
        refine ⟨by simpa using h0, ?_⟩
        split at h
        · rename_i es' hs; simp only [hs]; simpa using h
        · cases h
      · cases h
    · cases h
  | insert u m k x =>
    simp only [xop] at h; simp only [aop]
    split at h
    · rename_i b kv hv hk
      simp only [hv, hk]
      split at h
      · rename_i es kt e hb hmt
        simp only [hb, hmt]
        obtain ⟨h0, h⟩ := guardO_iff.1 h
        refine ⟨by simpa using h0, ?_⟩
        split at h
        · rename_i es' hs; simp only [hs]; simpa using h
        · cases h
      · cases h
    · cases h
  | typeAssert x xt u ok =>
    simp only [xop] at h; simp only [aop]
    split at h
    · rename_i tt v hv
      simp only [hv]
      obtain ⟨h0, h⟩ := guardO_iff.1 h
      simp only [Bool.and_eq_true] at h0
      refine ⟨h0, ?_⟩
      split at h
      · rename_i hq; rw [if_pos hq]; simpa using h
      · rename_i hq
        rw [if_neg hq]
        split at h
        · rename_i z hz; simp only [hz]; simpa using h
        · cases h
    · rename_i hv
      simp only [hv]
      obtain ⟨h0, h⟩ := guardO_iff.1 h
      simp only [Bool.and_eq_true] at h0
      refine ⟨h0, ?_⟩
      split at h
      · rename_i z hz; simp only [hz]; simpa using h
      · cases h
    · cases h
  | extract x i =>
    simp only [xop] at h; simp only [aop]
    split at h
    · rename_i vs hv
      simp only [hv]
      split at h
      · rename_i v hi; simp only [hi]; simpa using h
      · cases h
    · cases h
  | range u x =>
    simp only [xop] at h; simp only [aop]
    split at h
    · rename_i s hv; simp only [hv]; simpa only [guardO_iff, Option.some.injEq] using h
    · cases h
  | next x s =>
    cases s with
    | false => simp [xop] at h
    | true =>
      simp only [xop] at h; simp only [aop]
      split at h
      · rename_i b hv
        simp only [hv]
        split at h
        · rename_i s p hb
          simp only [hb]
          split at h
          · rename_i hq
            simp only [decide_eq_true_eq] at hq
            exact ⟨fun _ => by simpa using h, fun hn => absurd hq hn⟩
          · rename_i hq
            simp only [decide_eq_false_iff_not] at hq
            exact ⟨fun hn => absurd hn hq, fun _ => by simpa using h⟩
        · cases h
      · cases h
  | call c =>
    obtain ⟨callee, args, ty⟩ := c
    simp only [xop] at h; simp only [aop]
    split at h
    · rename_i x h2
      simp only [h2]
      split at h <;> rename_i hv <;> (try cases h) <;> simp only [hv]
      · simpa only [guardO_iff, Option.some.injEq] using h
      · simpa only [guardO_iff, Option.some.injEq] using h
      · simpa only [guardO_iff, Option.some.injEq] using h
      · simpa only [guardO_iff, Option.some.injEq] using h
      · split at h
        · rename_i es hb; simp only [hb]; simpa only [guardO_iff, Option.some.injEq] using h
        · cases h
    · rename_i x y h2
      simp only [h2]
      split at h
      · rename_i e more rr h3 h4
        simp only [h3, h4]
        split at h
        · rename_i z hz
          simp only [hz]
          obtain ⟨h0, h⟩ := guardO_iff.1 h
          simp only [Bool.and_eq_true, decide_eq_true_eq] at h0
          refine ⟨⟨h0.1.1.1.1, h0.1.1.1.2, h0.1.1.2, h0.1.2⟩, h0.2, ?_⟩
          split at h
          · rename_i hv
            simp only [hv]
            simp only [guardO_iff, Bool.and_eq_true, decide_eq_true_eq, Bool.not_eq_true', Option.some.injEq] at h
            exact ⟨h.1.1, by have := h.1.2; rintro rfl; simp at this, h.2⟩
          · rename_i b n hv
            simp only [hv]
            split at h
            · rename_i e' k rows hb
              simp only [hb]
              simp only [guardO_iff, Bool.and_eq_true, decide_eq_true_eq, Option.some.injEq] at h
              exact ⟨⟨h.1.1.1.1, h.1.1.1.2⟩, h.1.1.2, h.1.2, h.2⟩
            · cases h
          · cases h
        · cases h
      · cases h
    · rename_i x y h2
      simp only [h2]
      split at h
      · rename_i k a k' b h3 h4; simp only [h3, h4]; simpa using h
      · cases h
    · rename_i x y h2
      simp only [h2]
      split at h
      · rename_i k a k' b h3 h4; simp only [h3, h4]; simpa using h
      · cases h
    · rename_i x y z h2
      simp only [h2]
      split at h
      · rename_i k a k' b k'' c h3 h4 h5; simp only [h3, h4, h5]; simpa using h
      · cases h
    · rename_i x y z h2
      simp only [h2]
      split at h
      · rename_i k a k' b k'' c h3 h4 h5; simp only [h3, h4, h5]; simpa using h
      · cases h
    · rename_i x h2
      simp only [h2]
      split at h
      · rename_i b i n hv; simp only [hv]; simpa only [guardO_iff, decide_eq_true_eq, Option.some.injEq] using h
      · rename_i hv; simp only [hv]; simpa using h
      · cases h
    · rename_i x y h2
      simp only [h2]
      split at h
      · rename_i b i n h3 h4
        simp only [h3, h4]
        split at h
        · rename_i e k rows more rr u h5 h6 h7
          simp only [h5, h6, h7]
          split at h
          · rename_i l hl
            simp only [hl]
            simp only [guardO_iff, Bool.and_eq_true, decide_eq_true_eq, Option.some.injEq] at h
            exact ⟨⟨⟨h.1.1.1.1.1.1.1, h.1.1.1.1.1.1.2⟩, h.1.1.1.1.1.2, h.1.1.1.1.2, h.1.1.1.2, h.1.1.2, h.1.2⟩, h.2⟩
          · cases h
        · cases h
      · rename_i n h3 h4
        simp only [h3, h4]
        simpa only [guardO_iff, Bool.and_eq_true, decide_eq_true_eq, Option.some.injEq] using h
      · cases h
    · rename_i f
      simp only
      split at h
      · rename_i gg caps hv; simp only [hv]; exact xcall_sound hxf h rfl
      · rename_i gg fs hv; simp only [hv]; exact xcall_sound hxf h rfl
      · cases h
    · rename_i x name
      simp only
      split at h
      · rename_i tt v hv
        simp only [hv]
        split at h
        · rename_i f hf
          obtain ⟨h0, h⟩ := guardO_iff.1 h
          split at h0
          · rename_i k n
            exact ⟨f, hm _ _ _ _ _ hf, xcall_sound hxf h rfl⟩
          · cases h0
        · cases h
      · cases h
    · cases h
  | _ => simp [xop] at h
end
end Go.Am
namespace Go.Am
section
variable {E : XEnv} {xf : FuncId → List AV → List OB → Option (AV × List OB)}

theorem xops_sound (hxf : XOk E.P xf) (hm : MethsOk E) {draw : Bool} {all : Array Oper} : ∀ (rest : List Oper) (σ : AState) (tr : Trace) (σ' : AState) (tr' : Trace), xops E xf draw all rest σ tr = some (σ', tr') →
    ∀ K : AState → Trace → Prop, K σ' tr'.reverse → awpOps E.P (CC E.P) all rest K σ tr
  | [], σ, tr, σ', tr', h, K, hK => by simp only [xops, Option.some.injEq, Prod.mk.injEq] at h; obtain ⟨rfl, rfl⟩ := h; exact hK
  | o :: rest, σ, tr, σ', tr', h, K, hK => by
    simp only [xops] at h
    simp only [awpOps]
    split at h
    · rename_i hg
      simp only [hg]
      split at h
      · rename_i e he
        exact aop_mono (fun e' hq => by subst hq; exact xops_sound hxf hm rest _ _ σ' tr' h K hK) _ _ _ (xop_sound hxf hm he)
      · cases h
    · rename_i j want hg
      simp only [hg]
      split at h
      · cases h
      · rename_i d hd
        simp only [hd]
        split at h
        · rename_i t ht
          simp only [ht]
          split at h
          · rename_i htw
            have htw : t = want := by simpa using htw
            subst htw
            rw [set_slot_same ht (by simp)]
            split at h
            · rename_i e he
              refine ⟨fun _ => aop_mono (fun e' hq => by subst hq; exact xops_sound hxf hm rest _ _ σ' tr' h K hK) _ _ _ (xop_sound hxf hm he), fun hn => by cases t <;> simp at hn⟩
            · cases h
          · rename_i htw
            have htw : t = !want := by cases t <;> cases want <;> simp_all
            subst htw
            refine ⟨fun hn => by cases want <;> simp at hn, fun _ => ?_⟩
            rw [set_slot_same ht (by simp)]
            exact xops_sound hxf hm rest _ _ σ' tr' h K hK
        · rename_i us ht
          simp only [ht]
          exact xops_sound hxf hm rest _ _ σ' tr' h K hK
        · cases h

theorem xloop_sound {body : AState → Option (AExit × AState)} {c : Code} {P : Program} {C : FuncId → List AV → List OB → AV → List OB → Prop} {q : Nat}
    (hb : ∀ σ e σ', body σ = some (e, σ') → ∀ Q, Q e σ' → awp P C q c Q σ) {Q : AExit → AState → Prop} {X : AState → Prop} (hX : ∀ σ, awp P C q c (thenQ X Q) σ → X σ) :
    ∀ (n : Nat) (σ : AState) (e : AExit) (σ' : AState), xloop body n σ = some (e, σ') → Q e σ' → X σ
  | 0, σ, e, σ', h, _ => by simp [xloop] at h
  | n + 1, σ, e, σ', h, hQ => by
    simp only [xloop] at h
    split at h
    · rename_i σ1 h1
      exact hX σ (hb σ _ _ h1 _ (xloop_sound hb hX n σ1 e σ' h hQ))
    · rename_i hne
      have hne' : e ≠ .normal := by rintro rfl; exact hne σ' h
      refine hX σ (hb σ e σ' h _ ?_)
      cases e with
      | normal => exact absurd rfl hne'
      | exit i => exact hQ
      | ret => exact hQ

theorem xcode_sound (hxf : XOk E.P xf) (hm : MethsOk E) (L : Nat) : ∀ (c : Code) (σ : AState) (e : AExit) (σ' : AState), xcode E xf L c σ = some (e, σ') → ∀ (q : Nat) (Q : AExit → AState → Prop), Q e σ' → awp E.P (CC E.P) q c Q σ := by
  intro c
  induction c with
  | skip => intro σ e σ' h q Q hQ; simp only [xcode, Option.some.injEq, Prod.mk.injEq] at h; obtain ⟨rfl, rfl⟩ := h; exact hQ
  | region id ops draw =>
    intro σ e σ' h q Q hQ
    simp only [xcode] at h
    split at h
    · rename_i σ1 tr h1
      simp only [guardO_iff, Option.some.injEq, Prod.mk.injEq, Bool.or_eq_true, Bool.not_eq_true'] at h
      obtain ⟨hd, rfl, rfl⟩ := h
      have hd2 : draw = true → drawOk ops tr.reverse = true := fun hd' => by
        rcases hd with hd | hd
        · rw [hd'] at hd; cases hd
        · exact hd
      exact xops_sound hxf hm _ _ _ _ _ h1 _ ⟨hd2, hQ⟩
    · cases h
  | seq x y ihx ihy =>
    intro σ e σ' h q Q hQ
    simp only [xcode] at h
    simp only [awp]
    split at h
    · rename_i σ1 h1
      exact ihx σ _ _ h1 q _ (ihy σ1 e σ' h q Q hQ)
    · rename_i hne
      have hne' : e ≠ .normal := by rintro rfl; exact hne σ' h
      refine ihx σ e σ' h q _ ?_
      cases e with
      | normal => exact absurd rfl hne'
      | exit i => exact hQ
      | ret => exact hQ
  | cond x c1 c2 ih1 ih2 =>
    intro σ e σ' h q Q hQ
    simp only [xcode] at h
    simp only [awp]
    split at h
    · rename_i hx; rw [hx]; exact ⟨fun _ => ih1 σ e σ' h q Q hQ, fun hn => by cases hn⟩
    · rename_i hx; rw [hx]; exact ⟨fun hn => (by cases hn), fun _ => ih2 σ e σ' h q Q hQ⟩
    · cases h
  | block id c ih =>
    intro σ e σ' h q Q hQ
    simp only [xcode] at h
    simp only [awp]
    split at h
    · rename_i i σ1 h1
      refine ih σ _ _ h1 q _ ?_
      simp only [inBlk]
      split at h
      · rename_i hi
        simp only [Option.some.injEq, Prod.mk.injEq] at h
        obtain ⟨rfl, rfl⟩ := h
        rw [if_pos (by simpa using hi)]; exact hQ
      · rename_i hi
        simp only [Option.some.injEq, Prod.mk.injEq] at h
        obtain ⟨rfl, rfl⟩ := h
        rw [if_neg (by simpa using hi)]; exact hQ
    · rename_i hne
      refine ih σ e σ' h q _ ?_
      cases e with
      | normal => exact hQ
      | exit i => exact absurd h (hne i σ')
      | ret => exact hQ
  | loop c ih =>
    intro σ e σ' h q Q hQ
    simp only [xcode] at h
    simp only [awp]
    intro X hX _
    exact xloop_sound (fun σ e σ' h Q hQ => ih σ e σ' h q Q hQ) hX L σ e σ' h hQ
  | exit id => intro σ e σ' h q Q hQ; simp only [xcode, Option.some.injEq, Prod.mk.injEq] at h; obtain ⟨rfl, rfl⟩ := h; exact hQ
  | ret => intro σ e σ' h q Q hQ; simp only [xcode, Option.some.injEq, Prod.mk.injEq] at h; obtain ⟨rfl, rfl⟩ := h; exact hQ
  | label l => intro σ e σ' h q Q hQ; simp only [xcode, Option.some.injEq, Prod.mk.injEq] at h; obtain ⟨rfl, rfl⟩ := h; exact hQ
  | _ => intro σ e σ' h; simp [xcode] at h

theorem xres_sound {σ : AState} {r : ResultVar} {v : AV} (h : xres E σ r = some v) {K : AV → Prop} (hK : K v) : resVar E.P σ r K := by
  unfold xres at h
  unfold resVar
  split at h
  · simp only [Option.some.injEq] at h; subst h; exact hK
  · split at h
    · rename_i b i f hs
      simp only [hs]
      split at h
      · rename_i e k rows hb
        simp only [hb]
        split at h
        · rename_i row hrow
          simp only [hrow]
          simp only [Option.map_eq_some_iff] at h
          obtain ⟨e, he, rfl⟩ := h
          exact loaded_mono (fun e' hq => by subst hq; exact hK) _ _ _ (xloaded_sound he)
        · cases h
      · cases h
    · cases h
theorem xress_sound {σ : AState} : ∀ {rs : List ResultVar} {vs : List AV}, rs.mapM (xres E σ) = some vs → ∀ {K : List AV → Prop}, K vs → resVars E.P σ rs K
  | [], vs, h, K, hK => by simp at h; subst h; exact hK
  | r :: rs, vs, h, K, hK => by
    simp only [List.mapM_cons, Option.bind_eq_bind, Option.pure_def] at h
    cases h1 : xres E σ r with
    | none => simp [h1] at h
    | some v =>
      cases h2 : rs.mapM (xres E σ) with
      | none => simp [h1, h2] at h
      | some l =>
        simp [h1, h2] at h; subst h
        exact xres_sound h1 (xress_sound h2 hK)

theorem xone_eq (vs : List AV) : xone vs = one? vs := by
  cases vs with
  | nil => rfl
  | cons a l => cases l <;> rfl

theorem xret_sound {own : Bool} {rs : List ResultVar} {fp : List OB} {σ : AState} {r : AV} {fp' : List OB} (h : xret E own rs fp σ = some (r, fp')) :
    RetOK E.P rs fp r fp' σ ∧ (r.under fp'.length = true ∧ fp'.all (OB.under fp'.length) = true) := by
  unfold xret at h
  simp only [resF_eq, namesF_eq, funext OB.namesF_eq, backF_eq, OB.backF_eq] at h
  split at h
  · rename_i vs hvs
    split at h
    · split at h
      · simp only [guardO_iff, Option.some.injEq, Prod.mk.injEq] at h
        obtain ⟨hc, rfl, rfl⟩ := h
        exact ⟨xress_sound hvs (.inl ⟨rfl, rfl, hc, E.deep, by rw [xone_eq]; exact Sub.refl _⟩), closed_under _ _ hc, rfl⟩
      · cases h
    · split at h
      · rename_i kp hkp
        simp only [guardO_iff, Option.some.injEq, Prod.mk.injEq] at h
        obtain ⟨hlt, rfl, rfl⟩ := h
        rw [List.all_eq_true] at hlt
        obtain ⟨n1, ⟨l, n2⟩, n3, n4⟩ := reach_ok _ _ _ _ hkp List.nodup_range
        have hltk : ∀ b ∈ kp, b < σ.hp.length := fun b hb => by simpa using hlt b hb
        have hpin : ∀ j, j < fp.length → kp[j]? = some j := fun j hj => by
          rw [n2, List.getElem?_append_left (by simpa using hj), List.getElem?_range hj]
        have hle : fp.length ≤ kp.length := by rw [n2]; simp
        have hnm : ∀ b ∈ kp, ∀ c ∈ (σ.hp.getD b .dead).names, c ∈ kp := fun b hb c hc => by
          by_cases hs : b < fp.length
          · refine n3 c (List.mem_append_left _ (List.mem_flatMap.2 ⟨σ.hp.getD b .dead, ?_, hc⟩))
            have := hltk b hb
            rw [List.mem_iff_getElem?]
            exact ⟨b, by rw [List.getElem?_take, if_pos hs]; exact getD_some this⟩
          · exact n4 b hb (by simpa using hs) c hc
        have hmem : ∀ j, j < kp.length → kp.getD j 0 ∈ kp := fun j hj => by simp [List.getD, List.getElem?_eq_getElem hj]
        have hval := back_ok (xone vs) fun b hb => n3 b (List.mem_append_right _ hb)
        have hund : (kp.map fun b => (σ.hp.getD b .dead).back kp).all (OB.under kp.length) = true := by
          rw [List.all_eq_true]
          intro o ho
          obtain ⟨b, hb, rfl⟩ := List.mem_map.1 ho
          exact (OB.back_ok (hnm b hb)).2
        refine ⟨xress_sound hvs (.inr ⟨kp, n1, by simp, hpin, by simpa using hle, fun j hj => ?_, by rw [List.length_map]; exact hund, by rw [List.length_map]; exact hval.2, ?_⟩), by rw [List.length_map]; exact hval.2, by rw [List.length_map]; exact hund⟩
        · rw [List.length_map] at hj
          have e : (kp.map fun b => (σ.hp.getD b .dead).back kp).getD j .dead = (σ.hp.getD (kp.getD j 0) .dead).back kp := by
            simp [List.getD, List.getElem?_eq_getElem hj]
          rw [e, (OB.back_ok (hnm _ (hmem j hj))).1]
          exact getD_some (hltk _ (hmem j hj))
        · rw [hval.1, xone_eq]; exact Sub.refl _
      · cases h
  · cases h
end

theorem known_ok {P : Program} {f : FuncId} {args : List AV} {r : AV} : ∀ {T : List (Fact P)}, known f args T = some r → Pure P f args r
  | [], h => by simp [known] at h
  | x :: l, h => by
    simp only [known] at h
    split at h
    · rename_i h1
      split at h
      · rename_i h2
        simp only [Option.some.injEq] at h
        have e1 := Nat.eq_of_beq_eq_true h1
        have e2 := sameL_eq _ _ h2
        subst h
        rw [← e1, ← e2]; exact x.ok
      · exact known_ok h
    · exact known_ok h

/-- A function without a body that hands back what it is handed. -/
def Sames (E : XEnv) : Prop := ∀ f, E.same f = true → ∀ (v : Value) (w : World), (callFunc f #[v]).run E.P w = .ok (.value v) w

theorem same_contract {P : Program} {f : FuncId} (h : ∀ (v : Value) (w : World), (callFunc f #[v]).run P w = .ok (.value v) w) (x : AV) (fp : List OB) : CC P f [x] fp x fp := by
  refine ⟨fun w m β vs hS hv => ?_⟩
  simp only [RelL] at hv
  obtain ⟨v, l, rfl, h1, rfl⟩ := hv
  unfold CallsTo
  rw [h v w]
  exact ⟨m, β, Mem.le_refl m, Plc.le_refl β, hS, h1⟩

/-- Every function with a body is entered by its call. -/
def Enters (P : Program) : Prop := ∀ f fn c, P.funcs[f]? = some fn → fn.body = some c → ∀ args w, (callFunc f args).run P w = .ok (.enter f args) w

theorem enters_of {P : Program} (h : P.funcs.toList.all (fun fn => !(fn.name == "runtime.NumGoroutine")) = true) : Enters P := by
  intro f fn c hf hb args w
  rw [List.all_eq_true] at h
  have := h fn (Array.mem_toList_iff.2 (Array.mem_of_getElem? hf))
  simp only [Bool.not_eq_true'] at this
  have h2 : ¬ fn.name = "runtime.NumGoroutine" := by simpa using this
  simp [callFunc, hf, h2, hb]

theorem known_closed {P : Program} {f : FuncId} {args : List AV} {r : AV} {T : List (Fact P)} (hT : T.all (fun x => x.r.closed) = true) (h : known f args T = some r) : r.closed = true := by
  induction T with
  | nil => simp [known] at h
  | cons x l ih =>
    simp only [List.all_cons, Bool.and_eq_true] at hT
    simp only [known] at h
    split at h
    · split at h
      · simp only [Option.some.injEq] at h; subst h; exact hT.1
      · exact ih hT.2 h
    · exact ih hT.2 h

theorem xfn_sound {E : XEnv} (hmix : E.P.follows .mixedOrders = true) (hent : Enters E.P) (hm : MethsOk E) (hs : Sames E) {T : List (Fact E.P)} (hT : T.all (fun x => x.r.closed) = true) : ∀ n, XOk E.P (xfn E T n)
  | 0 => fun f args fp r fp' _ _ _ h => by simp [xfn] at h
  | n + 1 => fun f args fp r fp' hl hu1 hu2 h => by
    simp only [xfn] at h
    split at h
    · rename_i r' hk
      simp only [Option.some.injEq, Prod.mk.injEq] at h
      obtain ⟨rfl, rfl⟩ := h
      split at hk
      · rename_i hnil
        have hfp : fp = [] := by cases fp with | nil => rfl | cons a l => simp [isNil] at hnil
        subst hfp
        exact ⟨known_ok hk, closed_under _ _ (known_closed hT hk), rfl⟩
      · cases hk
    · split at h
      · rename_i hsm
        split at h
        · rename_i x
          simp only [Option.some.injEq, Prod.mk.injEq] at h
          obtain ⟨rfl, rfl⟩ := h
          simp only [underL, Bool.and_true] at hu1
          exact ⟨same_contract (hs f hsm) _ _, hu1, hu2⟩
        · cases h
      split at h
      · rename_i fn hf
        split at h
        · rename_i c hb
          have go : ∀ e σ, xcode E (xfn E T n) 1000000 c ⟨args ++ List.replicate (fn.ntmps - args.length) .top, fp⟩ = some (e, σ) → (e = .normal ∨ e = .ret) → xret E (E.own f) fn.results.toList fp σ = some (r, fp') →
              CC E.P f args fp r fp' ∧ (r.under fp'.length = true ∧ fp'.all (OB.under fp'.length) = true) := by
            intro e σ hx he hr
            obtain ⟨h1, h2⟩ := xret_sound hr
            refine ⟨startOwn hmix hf hb (hent f fn c hf hb) (rs := fn.results.toList) (by simp) rfl hl ?_, h2⟩
            refine xcode_sound (xfn_sound hmix hent hm hs hT n) hm _ _ _ _ _ hx _ _ ?_
            show retQ E.P _ fp r fp' e σ
            rcases he with rfl | rfl <;> exact h1
          split at h
          · rename_i σ hx; exact go _ _ hx (.inl rfl) h
          · rename_i σ hx; exact go _ _ hx (.inr rfl) h
          · cases h
        · cases h
      · cases h

/-- A known call, out of a run. -/
theorem fact_of_run {E : XEnv} (hmix : E.P.follows .mixedOrders = true) (hent : Enters E.P) (hm : MethsOk E) (hs : Sames E) (T : List (Fact E.P)) (hT : T.all (fun x => x.r.closed) = true) (n : Nat) {f : FuncId} {args : List AV} {r : AV} (hu : underL 0 args = true) (h : xfn E T n f args [] = some (r, [])) : Pure E.P f args r :=
  (xfn_sound hmix hent hm hs hT n f args [] r [] rfl hu rfl h).1
end Go.Am
