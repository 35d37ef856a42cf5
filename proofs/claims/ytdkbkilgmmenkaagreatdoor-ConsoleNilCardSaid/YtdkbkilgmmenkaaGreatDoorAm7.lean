/-
  The same, quicker; contracts of Go's library; a law out of a known call. (No statement of the claim's own is proved here.)
-/
import Derived.Test.YtdkbkilgmmenkaaGreatDoorAm6
import Derived.Below
import Derived.Lib.Join
set_option linter.all false
namespace Go.Am

def yo_pick (P : Program) (ev : Operand → AV) (hp : List OB) (c : Operand) (a : Operand) (b : Operand) : Option Eff :=
  match ev c with
    | .val (.bool t) => some { v := match t with | true => ev a | false => ev b }
    | _ => none
def yo_alloc (P : Program) (ev : Operand → AV) (hp : List OB) (e : TypeId) : Option Eff :=
  match arrElem P e with
    | some (n, el) => match zeroAV P e with
      | some z => guardO (decide (0 < szOf P el) && decide (z.cells.length = n * szOf P el) && z.cells.all AV.one) (some { v := .optr hp.length 0 0, n := [.cells e (szOf P el) (chunk (szOf P el) n z.cells)] })
      | none => none
    | none => match zeroAV P e with
      | some z => guardO (decide (0 < szOf P e) && decide (z.cells.length = szOf P e) && z.cells.all AV.one) (some { v := .optr hp.length 0 0, n := [.cells e (szOf P e) [z.cells]] })
      | none => none
def yo_box (P : Program) (ev : Operand → AV) (hp : List OB) (e : TypeId) (x : Operand) : Option Eff :=
  guardO (decide (0 < szOf P e) && decide ((ev x).cells.length = szOf P e) && (ev x).cells.all AV.one) (some { v := .optr hp.length 0 0, n := [.cells e (szOf P e) [(ev x).cells]] })
def yo_build (P : Program) (ev : Operand → AV) (hp : List OB) (t : TypeId) (parts : Array (Nat × Operand)) : Option Eff :=
  match arrElem P t with
    | some (n, el) => match zeroAV P t with
      | some z => match fillElems (szOf P el) ev parts.toList z.cells with
        | some cs => guardO ((match z with | .agg _ => true | _ => false) && decide (0 < szOf P el)) (some { v := .agg cs })
        | none => none
      | none => none
    | none => match zeroAV P t with
      | some z => match fillParts P t ev parts.toList z.cells with
        | some cs => guardO (fieldsOk P t && (match z with | .agg _ => true | _ => false)) (some { v := .agg cs })
        | none => none
      | none => none
def yo_buildSlice (P : Program) (ev : Operand → AV) (hp : List OB) (t : TypeId) (len : Nat) (parts : Array (Nat × Operand)) : Option Eff :=
  match slElem P t with
    | some e => match zeroAV P e with
      | some z => match fillRows (szOf P e) ev parts.toList (List.replicate len z.cells) with
        | some rs => guardO (decide (0 < szOf P e) && decide (z.cells.length = szOf P e) && z.cells.all AV.one && decide (len * szOf P e ≤ 2 ^ 24)) (some { v := .osl hp.length 0 len, n := [.cells e (szOf P e) rs] })
        | none => none
      | none => none
    | none => none
def yo_load (P : Program) (ev : Operand → AV) (hp : List OB) (t : TypeId) (x : Operand) : Option Eff :=
  match ev x with
    | .ref cells => xloaded P t cells []
    | .optr b i f => match hp[b]? with
      | some (.cells _ k rows) => match rowArr P t k with
        | some n => guardO (decide (f = 0) && decide (i + n ≤ rows.length)) (some { v := .agg ((rows.drop i).take n).flatten, r := [b] })
        | none => match rows[i]? with
          | some row => xloaded P t (row.drop f) [b]
          | none => none
      | _ => none
    | _ => none
def yo_store (P : Program) (ev : Operand → AV) (hp : List OB) (t : TypeId) (x : Operand) (y : Operand) : Option Eff :=
  match ev x with
    | .optr b i f => match hp[b]? with
      | some (.cells e k rows) => match rowArr P t k with
        | some n => guardO (decide (f = 0) && decide (i + n ≤ rows.length) && decide ((ev y).cells.length = n * k) && (ev y).cells.all AV.one) (some { v := .top, w := [(b, .cells e k (rows.take i ++ chunk k n (ev y).cells ++ rows.drop (i + n)))], r := [b] })
        | none => match rows[i]? with
          | some row => guardO (decide ((ev y).cells.length = szOf P t) && (ev y).cells.all AV.one && decide (f + szOf P t ≤ k) && decide (0 < szOf P t)) (some { v := .top, w := [(b, .cells e k (rows.set i (setSeg row f (ev y).cells)))], r := [b] })
          | none => none
      | _ => none
    | _ => none
def yo_nilCheck (P : Program) (ev : Operand → AV) (hp : List OB) (x : Operand) : Option Eff :=
  match ev x with
    | .optr b i f => some { v := .optr b i f }
    | .ref cs => some { v := .ref cs }
    | .fn f cs => some { v := .fn f cs }
    | .mv f cs => some { v := .mv f cs }
    | _ => none
def yo_binOp (P : Program) (ev : Operand → AV) (hp : List OB) (op : BinOp) (u : TypeId) (x : Operand) (y : Operand) : Option Eff :=
  (xbin P u (isConst x || isConst y) op (ev x) (ev y)).map fun v => { v }
def yo_unOp (P : Program) (ev : Operand → AV) (hp : List OB) (op : UnOp) (x : Operand) : Option Eff :=
  match op, ev x with
    | .not, .val (.bool t) => some { v := .b (!t) }
    | .neg, .val (.int k n) => some { v := .int k (k.wrap (0 - n)) }
    | .xor, .val (.int k n) => match bit2 k .xor (if k.signed then -1 else k.max) n with | some m => some { v := .int k m } | none => none
    | _, _ => none
def yo_convert (P : Program) (ev : Operand → AV) (hp : List OB) (src : TypeId) (dst : TypeId) (x : Operand) : Option Eff :=
  match ev x with
    | .val (.int _ n) => match intKind P dst with | some k => guardO (typed P src) (some { v := .int k (k.wrap n) }) | none => none
    | .val (.string s) => guardO (typed P src && isStr P dst) (some { v := .val (.string s) })
    | .osl b i n => match slElem P src, rowsOf hp (.osl b i n) with
      | some e, some (rows, r) => match bytesR rows with
        | some l => guardO (byteT P e && isStr P dst) (some { v := .s l, r })
        | none => none
      | _, _ => none
    | .sl k rows => match slElem P src with
      | some e => match bytesR rows with
        | some l => guardO (byteT P e && isStr P dst && decide (k = 1)) (some { v := .s l })
        | none => none
      | none => none
    | .nil => match slElem P src with
      | some e => guardO (byteT P e && isStr P dst) (some { v := .s [] })
      | none => none
    | .optr b i o => match hp[b]? with
      | some (.cells e k rows) => match ptrT P src, ptrT P dst with
        | some u, none => guardO (unsafeT P dst && decide (0 < szOf P u) && decide (i < rows.length) && decide (o < k)) (some { v := .optr b i o, r := [b] })
        | none, some u => guardO (unsafeT P src && decide (0 < szOf P u) && decide (i = 0) && decide (rows.length = 1) && decide (k = szOf P e) && liesT P e k o u 1) (some { v := .optr b i o, r := [b] })
        | _, _ => none
      | _ => none
    | _ => none
def yo_makeInterface (P : Program) (ev : Operand → AV) (hp : List OB) (t : TypeId) (x : Operand) : Option Eff :=
  match ev x with
    | .val v => guardO (concrete P t) (some { v := .val (.iface t v) })
    | _ => none
def yo_makeFunc (P : Program) (ev : Operand → AV) (hp : List OB) (f : FuncId) (first : Array Operand) (captured : Array Operand) : Option Eff :=
  match first.toList, captured.toList with
    | [], l => some { v := .fn f (l.map ev) }
    | a :: as, [] => some { v := .mv f ((a :: as).map ev) }
    | _, _ => none
def yo_makeMap (P : Program) (ev : Operand → AV) (hp : List OB) (res : Option Operand) : Option Eff :=
  guardO res.isNone (some { v := .omap hp.length, n := [.map []] })
def yo_makeSlice (P : Program) (ev : Operand → AV) (hp : List OB) (t : TypeId) (l : Operand) (c : Operand) : Option Eff :=
  match slElem P t, ev l, ev c with
    | some e, .val (.int _ n), .val (.int _ m) => match zeroAV P e with
      | some z => guardO (decide (0 < szOf P e) && decide (z.cells.length = szOf P e) && z.cells.all AV.one && decide (0 ≤ n) && decide (n ≤ m) && decide (m * bytesOf P e ≤ 2 ^ 47) && decide (m < 2 ^ 62)) (some { v := .osl hp.length 0 n.toNat, n := [.cells e (szOf P e) (List.replicate m.toNat z.cells)] })
      | none => none
    | _, _, _ => none
def yo_slice (P : Program) (ev : Operand → AV) (hp : List OB) (u : TypeId) (x : Operand) (lo : Option Operand) (hi : Option Operand) : Option Eff :=
  match ev x with
    | .val (.string s) => match bound ev lo 0, bound ev hi (bytes s).length with
      | some l, some h => guardO (isStr P u && decide (0 ≤ l) && decide (l ≤ h) && decide (h ≤ (bytes s).length)) (some { v := .s (((bytes s).take h.toNat).drop l.toNat) })
      | _, _ => none
    | .sl k rows => match bound ev lo 0, bound ev hi rows.length with
      | some l, some h => guardO (((slElem P u).map (szOf P) == some k) && decide (0 < k) && decide (0 ≤ l) && decide (l ≤ h) && decide (h ≤ rows.length)) (some { v := .sl k ((rows.take h.toNat).drop l.toNat) })
      | _, _ => none
    | .osl b i n => match bound ev lo 0, bound ev hi n, hp[b]? with
      | some l, some h, some (.cells _ k _) => guardO (((slElem P u).map (szOf P) == some k) && decide (0 ≤ l) && decide (l ≤ h) && decide (h ≤ n)) (some { v := .osl b (i + l.toNat) (h.toNat - l.toNat), r := [b] })
      | _, _, _ => none
    | .nil => match bound ev lo 0, bound ev hi 0 with
      | some l, some h => guardO ((((slElem P u).map fun e => decide (0 < szOf P e)) == some true) && decide (l = 0) && decide (h = 0)) (some { v := .nil })
      | _, _ => none
    | .optr b 0 0 => match arrElem P u, lo, hi with
      | some (n, e), none, none => match hp[b]? with
        | some (.cells _ k rows) => guardO (decide (szOf P e = k) && decide (rows.length = n) && decide (0 < n)) (some { v := .osl b 0 n, r := [b] })
        | _ => none
      | _, _, _ => none
    | _ => none
def yo_fieldAddr (P : Program) (ev : Operand → AV) (hp : List OB) (t : TypeId) (x : Operand) (f : Nat) : Option Eff :=
  match fld P t f with
    | some (off, ft) => match ev x with
      | .ref cells => guardO (decide (szOf P ft ≠ 0) && decide (off ≤ cells.length)) (some { v := .ref (cells.drop off) })
      | .optr b i c => guardO (decide (szOf P ft ≠ 0)) (some { v := .optr b i (c + off) })
      | _ => none
    | none => none
def yo_field (P : Program) (ev : Operand → AV) (hp : List OB) (t : TypeId) (x : Operand) (f : Nat) : Option Eff :=
  match fld P t f with
    | some (off, ft) => match ev x with
      | .agg cells => xloaded P ft (cells.drop off) []
      | _ => none
    | none => none
def yo_indexAddr (P : Program) (ev : Operand → AV) (hp : List OB) (t : TypeId) (x : Operand) (ix : Operand) : Option Eff :=
  match ev ix with
    | .val (.int _ n) => match ev x with
      | .sl k rows => guardO (decide (0 ≤ n)) (match rows[n.toNat]? with | some row => guardO (((slElem P t).map (szOf P) == some k) && decide (0 < k)) (some { v := .ref row }) | none => none)
      | .osl b i m => guardO (decide (0 ≤ n) && decide (n < m)) (match hp[b]? with
        | some (.cells _ k _) => guardO ((slElem P t).map (szOf P) == some k) (some { v := .optr b (i + n.toNat) 0, r := [b] })
        | _ => none)
      | .optr b 0 0 => match arrElem P t with
        | some (m, e) => guardO (decide (0 ≤ n) && decide (n < m) && decide (1 < m)) (match hp[b]? with
          | some (.cells _ k rows) => guardO (decide (szOf P e = k) && decide (rows.length = m)) (some { v := .optr b n.toNat 0, r := [b] })
          | _ => none)
        | none => none
      | _ => none
    | _ => none
def yo_index (P : Program) (ev : Operand → AV) (hp : List OB) (u : TypeId) (x : Operand) (ix : Operand) : Option Eff :=
  match ev ix, ev x with
    | .val (.int _ n), .val (.string s) => guardO (isStr P u && decide (0 ≤ n)) (match (bytes s)[n.toNat]? with | some c => some { v := .int .u8 c.toNat } | none => none)
    | _, _ => none
def yo_lookup (P : Program) (ev : Operand → AV) (hp : List OB) (t : TypeId) (x : Operand) (ix : Operand) (ok : Bool) : Option Eff :=
  match ev x, (ev ix).toVal with
    | .omap b, some k => match hp[b]?, mapT P t with
      | some (.map es), some (kt, e) => guardO (keyEq P kt k k == some true) (match findK P kt k es, ok with
        | some (some p), true => some { v := .tup [p.2, .b true], r := [b] }
        | some (some p), false => some { v := p.2, r := [b] }
        | some none, true => match zeroAV P e with
          | some z => some { v := .tup [z, .b false], r := [b] }
          | none => none
        | some none, false => match zeroAV P e with
          | some z => some { v := z, r := [b] }
          | none => none
        | none, _ => none)
      | _, _ => none
    | _, _ => none
def yo_mapUpdate (P : Program) (ev : Operand → AV) (hp : List OB) (t : TypeId) (m : Operand) (k : Operand) (x : Operand) : Option Eff :=
  match ev m, (ev k).toVal with
    | .omap b, some kv => match hp[b]?, mapT P t with
      | some (.map es), some (kt, _) => guardO (keyEq P kt kv kv == some true) (match setK P kt kv (ev x) es with
        | some es' => some { v := .top, r := [b], w := [(b, .map es')] }
        | none => none)
      | _, _ => none
    | _, _ => none
def yo_typeAssert (P : Program) (ev : Operand → AV) (hp : List OB) (x : Operand) (asserted : TypeId) (ok : Bool) : Option Eff :=
  match ev x with
    | .val (.iface t v) => guardO (ok && concrete P asserted) (if t = asserted then some { v := .tup [.val v, .b true] } else match zeroAV P asserted with | some z => some { v := .tup [z, .b false] } | none => none)
    | .val .nilIface => guardO (ok && concrete P asserted) (match zeroAV P asserted with | some z => some { v := .tup [z, .b false] } | none => none)
    | _ => none
def yo_extract (P : Program) (ev : Operand → AV) (hp : List OB) (t : Operand) (i : Nat) : Option Eff :=
  match ev t with
    | .tup vs => match vs[i]? with | some v => some { v } | none => none
    | _ => none
def yc_len1 (P : Program) (ev : Operand → AV) (hp : List OB) (c : Call) (x : Operand) : Option Eff :=
  match ev x with
      | .val (.string s) => guardO ((c.argTypes[0]?).any (isStr P)) (some { v := .i (bytes s).length })
      | .sl _ rows => guardO ((c.argTypes[0]?).bind (slElem P)).isSome (some { v := .i rows.length })
      | .osl _ _ n => guardO ((c.argTypes[0]?).bind (slElem P)).isSome (some { v := .i n })
      | .nil => guardO ((c.argTypes[0]?).bind (slElem P)).isSome (some { v := .i 0 })
      | .omap b => match hp[b]? with | some (.map es) => guardO ((c.argTypes[0]?).bind (mapT P)).isSome (some { v := .i es.length, r := [b] }) | _ => none
      | _ => none
def yc_append2 (P : Program) (ev : Operand → AV) (hp : List OB) (c : Call) (x : Operand) (y : Operand) : Option Eff :=
  match (c.argTypes[0]?).bind (slElem P), rowsOf hp (ev y) with
      | some e, some (more, r) => match zeroAV P e with
        | some z => guardO (decide (0 < szOf P e) && decide (0 < bytesOf P e) && decide (z.cells.length = szOf P e) && notInt P c.argTypes && more.all (fun q => decide (q.length = szOf P e))) (match ev x with
          | .nil => guardO (decide (more.length * bytesOf P e ≤ 2 ^ 47) && !more.isEmpty) (some { v := .osl hp.length 0 more.length, r, n := [.cells e (szOf P e) more] })
          | .osl b 0 n => match hp[b]? with
            | some (.cells e' k rows) => guardO (decide (k = szOf P e) && decide (e' = e) && decide (n ≤ rows.length) && decide ((n + more.length) * bytesOf P e ≤ 2 ^ 47)) (some { v := .osl hp.length 0 (n + more.length), r := b :: r, w := [(b, .dead)], n := [.cells e k (rows.take n ++ more)] })
            | _ => none
          | _ => none)
        | none => none
      | _, _ => none
def yc_max2 (P : Program) (ev : Operand → AV) (hp : List OB) (c : Call) (x : Operand) (y : Operand) : Option Eff :=
  match ev x, ev y with
      | .val (.int k a), .val (.int _ b) => some { v := .int k (if b > a then b else a) }
      | _, _ => none
def yc_min2 (P : Program) (ev : Operand → AV) (hp : List OB) (c : Call) (x : Operand) (y : Operand) : Option Eff :=
  match ev x, ev y with
      | .val (.int k a), .val (.int _ b) => some { v := .int k (if b < a then b else a) }
      | _, _ => none
def yc_max3 (P : Program) (ev : Operand → AV) (hp : List OB) (c : Call) (x : Operand) (y : Operand) (z : Operand) : Option Eff :=
  match ev x, ev y, ev z with
      | .val (.int k a), .val (.int _ b), .val (.int _ c) => some { v := .int k (if c > (if b > a then b else a) then c else (if b > a then b else a)) }
      | _, _, _ => none
def yc_min3 (P : Program) (ev : Operand → AV) (hp : List OB) (c : Call) (x : Operand) (y : Operand) (z : Operand) : Option Eff :=
  match ev x, ev y, ev z with
      | .val (.int k a), .val (.int _ b), .val (.int _ c) => some { v := .int k (if c < (if b < a then b else a) then c else (if b < a then b else a)) }
      | _, _, _ => none
def yc_unsafeSliceData1 (P : Program) (ev : Operand → AV) (hp : List OB) (c : Call) (x : Operand) : Option Eff :=
  match ev x with
      | .osl b i n => guardO (decide (0 < n)) (some { v := .optr b i 0 })
      | .nil => some { v := .val (.pointer none) }
      | _ => none
def yc_unsafeString2 (P : Program) (ev : Operand → AV) (hp : List OB) (c : Call) (x : Operand) (y : Operand) : Option Eff :=
  match ev x, ev y with
      | .optr b i 0, .val (.int .i64 n) => match hp[b]?, rowsOf hp (.osl b i n.toNat), (c.argTypes[0]?).bind (ptrT P) with
        | some (.cells e k rows), some (more, _), some u => match bytesR more with
          | some l => guardO (decide (0 < n) && decide (n < 9223372036854775808) && decide (i = 0) && decide (k = 1) && decide (e = u) && byteT P u && decide (P.cellsOf u = 1)) (some { v := .s l, r := [b], w := [(b, .dead)] })
          | none => none
        | _, _, _ => none
      | .val (.pointer none), .val (.int .i64 n) => guardO (decide (n = 0) && (c.argTypes[0]?).isSome) (some { v := .s [] })
      | _, _ => none
def yc_value (E : XEnv) (xf : FuncId → List AV → List OB → Option (AV × List OB)) (draw : Bool) (ev : Operand → AV) (hp : List OB) (f : Operand) (args : List Operand) : Option Eff :=
  match ev f with
      | .fn g caps => xcall E xf draw g (args.map ev ++ caps) hp
      | .mv g fs => xcall E xf draw g (fs ++ args.map ev) hp
      | _ => none
def yc_invoke (E : XEnv) (xf : FuncId → List AV → List OB → Option (AV × List OB)) (draw : Bool) (ev : Operand → AV) (hp : List OB) (x : Operand) (name : String) (args : List Operand) : Option Eff :=
  match ev x with
      | .val (.iface t v) => match E.meth t name with
        | some f => guardO (match v with | .int _ _ => true | _ => false) (xcall E xf draw f (.val v :: args.map ev) hp)
        | none => none
      | _ => none
def yo_call (E : XEnv) (xf : FuncId → List AV → List OB → Option (AV × List OB)) (draw : Bool) (ev : Operand → AV) (hp : List OB) (c : Call) : Option Eff :=
  match c.callee, c.args.toList with
    | .builtin .len, [x] => yc_len1 E.P ev hp c x
    | .builtin .append, [x, y] => yc_append2 E.P ev hp c x y
    | .builtin .max, [x, y] => yc_max2 E.P ev hp c x y
    | .builtin .min, [x, y] => yc_min2 E.P ev hp c x y
    | .builtin .max, [x, y, z] => yc_max3 E.P ev hp c x y z
    | .builtin .min, [x, y, z] => yc_min3 E.P ev hp c x y z
    | .builtin .unsafeSliceData, [x] => yc_unsafeSliceData1 E.P ev hp c x
    | .builtin .unsafeString, [x, y] => yc_unsafeString2 E.P ev hp c x y
    | .value f, args => yc_value E xf draw ev hp f args
    | .invoke x name, args => yc_invoke E xf draw ev hp x name args
    | _, _ => none
def yo_range (P : Program) (ev : Operand → AV) (hp : List OB) (t : TypeId) (x : Operand) : Option Eff :=
  match ev x with
    | .val (.string s) => guardO (isStr P t) (some { v := .optr hp.length 0 0, n := [.siter s 0] })
    | _ => none
def yo_next (P : Program) (ev : Operand → AV) (hp : List OB) (it : Operand) : Option Eff :=
  match ev it with
    | .optr b 0 0 => match hp[b]? with
      | some (.siter s p) => match decide (p < s.size) with
        | true => some { v := .tup [.b true, .i p, .val (.int .i32 (Utf8.decode s p).1)], w := [(b, .siter s (p + (Utf8.decode s p).2))], r := [b] }
        | false => some { v := .tup [.b false], r := [b] }
      | _ => none
    | _ => none
def yop (E : XEnv) (xf : FuncId → List AV → List OB → Option (AV × List OB)) (draw : Bool) (o : Op) (ev : Operand → AV) (hp : List OB) : Option Eff :=
  match o with
  | .move x | .assign x => some { v := ev x }
  | .pick c a b => yo_pick E.P ev hp c a b
  | .alloc e => yo_alloc E.P ev hp e
  | .box e x => yo_box E.P ev hp e x
  | .build t parts => yo_build E.P ev hp t parts
  | .buildSlice t len parts => yo_buildSlice E.P ev hp t len parts
  | .load t x => yo_load E.P ev hp t x
  | .store t x y => yo_store E.P ev hp t x y
  | .nilCheck x => yo_nilCheck E.P ev hp x
  | .binOp op u x y _ => yo_binOp E.P ev hp op u x y
  | .unOp op _ x => yo_unOp E.P ev hp op x
  | .convert src dst x => yo_convert E.P ev hp src dst x
  | .makeInterface t x => yo_makeInterface E.P ev hp t x
  | .makeFunc (.func f) first captured => yo_makeFunc E.P ev hp f first captured
  | .makeMap _ res => yo_makeMap E.P ev hp res
  | .makeSlice t l c => yo_makeSlice E.P ev hp t l c
  | .slice u x lo hi none => yo_slice E.P ev hp u x lo hi
  | .fieldAddr t x f => yo_fieldAddr E.P ev hp t x f
  | .field t x f => yo_field E.P ev hp t x f
  | .indexAddr t x ix => yo_indexAddr E.P ev hp t x ix
  | .index u x ix => yo_index E.P ev hp u x ix
  | .lookup t x ix ok => yo_lookup E.P ev hp t x ix ok
  | .mapUpdate t m k x | .insert t m k x => yo_mapUpdate E.P ev hp t m k x
  | .typeAssert x _ asserted ok => yo_typeAssert E.P ev hp x asserted ok
  | .extract t i => yo_extract E.P ev hp t i
  | .call c => yo_call E xf draw ev hp c
  | .range t x => yo_range E.P ev hp t x
  | .next it true => yo_next E.P ev hp it
  | _ => none
theorem yop_eq (E : XEnv) (xf : FuncId → List AV → List OB → Option (AV × List OB)) (draw : Bool) (o : Oper) (ev : Operand → AV) (hp : List OB) : yop E xf draw o.op ev hp = xop E xf draw o ev hp := by
  obtain ⟨d, op, t, p, af, g⟩ := o
  cases op with
  | call c =>
    obtain ⟨callee, args, ats⟩ := c
    obtain ⟨l⟩ := args
    cases callee with
    | builtin b => rcases l with _ | ⟨x, _ | ⟨y, _ | ⟨z, _ | ⟨u, l⟩⟩⟩⟩ <;> cases b <;> rfl
    | value f => rfl
    | invoke x name => rfl
  | makeFunc fn a b => cases fn <;> rfl
  | slice u x lo hi m => cases m <;> rfl
  | next it s => cases s <;> rfl
  | _ => rfl
end Go.Am
namespace Go.Am

def hasB (m j : Nat) : Bool := Nat.beq (Nat.mod (Nat.shiftRight m j) 2) 1
theorem hasB_eq (m j : Nat) : hasB m j = m.testBit j := by
  have : hasB m j = ((m >>> j) % 2 == 1) := by
    unfold hasB
    cases h : Nat.beq (Nat.mod (Nat.shiftRight m j) 2) 1
    · have := Nat.ne_of_beq_eq_false h
      exact (beq_eq_false_iff_ne.2 this).symm
    · have := Nat.eq_of_beq_eq_true h
      exact (beq_iff_eq.2 this).symm
  rw [this, Nat.testBit_eq_decide_div_mod_eq, Nat.shiftRight_eq_div_pow]
  rfl

/-- The operations that come ahead, as bits. -/
def maskE (acc : List Nat) : List Edge → Nat
  | [] => 0
  | e :: es => match Region.binds .any e with
    | true => Nat.lor (Nat.lor (Nat.pow 2 e.on) (acc.getD e.on 0)) (maskE acc es)
    | false => maskE acc es
def maskGo : List Oper → List Nat → List Nat
  | [], acc => acc
  | o :: l, acc => maskGo l (acc ++ [maskE acc o.after.toList])

theorem lor_bit (a b j : Nat) : (Nat.lor a b).testBit j = (a.testBit j || b.testBit j) := Nat.testBit_or a b j

theorem maskE_ok {acc : List Nat} {ah : List (List Nat)} (h : ∀ k b, (acc.getD k 0).testBit b = true → b ∈ ah.getD k []) :
    ∀ (es : List Edge) (b : Nat), (maskE acc es).testBit b = true → b ∈ (es.filter (Region.binds .any)).flatMap fun e => e.on :: ah.getD e.on []
  | [], b, hb => by simp [maskE] at hb
  | e :: es, b, hb => by
    simp only [maskE] at hb
    split at hb
    · rename_i hbind
      rw [lor_bit, lor_bit, Bool.or_eq_true, Bool.or_eq_true] at hb
      rw [List.filter_cons, if_pos hbind, List.flatMap_cons, List.mem_append]
      rcases hb with (hb | hb) | hb
      · left
        have : e.on = b := by
          have h2 : (2 ^ e.on).testBit b = true := hb
          rw [Nat.testBit_two_pow] at h2
          simpa using h2
        rw [this]; exact List.mem_cons_self
      · exact .inl (List.mem_cons_of_mem _ (h _ _ hb))
      · exact .inr (maskE_ok h es b hb)
    · rename_i hbind
      rw [List.filter_cons, if_neg (by simp [hbind])]
      exact maskE_ok h es b hb

theorem maskGo_ok : ∀ (l : List Oper) (acc : List Nat) (ah : List (List Nat)), acc.length = ah.length → (∀ k b, (acc.getD k 0).testBit b = true → b ∈ ah.getD k []) →
    ∀ k b, ((maskGo l acc).getD k 0).testBit b = true → b ∈ (aheadGo l ah).getD k []
  | [], acc, ah, _, h => h
  | o :: l, acc, ah, hl, h => by
    simp only [maskGo, aheadGo]
    refine maskGo_ok l _ _ (by simp [hl]) fun k b hb => ?_
    rcases Nat.lt_trichotomy k acc.length with hk | hk | hk
    · have e1 : (acc ++ [maskE acc o.after.toList]).getD k 0 = acc.getD k 0 := by simp [List.getD, List.getElem?_append_left hk]
      have e2 : (ah ++ [(o.after.toList.filter (Region.binds .any)).flatMap fun e => e.on :: ah.getD e.on []]).getD k [] = ah.getD k [] := by simp [List.getD, List.getElem?_append_left (hl ▸ hk)]
      rw [e1] at hb; rw [e2]; exact h k b hb
    · subst hk
      have e1 : (acc ++ [maskE acc o.after.toList]).getD acc.length 0 = maskE acc o.after.toList := by simp [List.getD]
      have e2 : (ah ++ [(o.after.toList.filter (Region.binds .any)).flatMap fun e => e.on :: ah.getD e.on []]).getD acc.length [] = (o.after.toList.filter (Region.binds .any)).flatMap fun e => e.on :: ah.getD e.on [] := by rw [hl]; simp [List.getD]
      rw [e1] at hb; rw [e2]; exact maskE_ok h _ _ hb
    · have e1 : (acc ++ [maskE acc o.after.toList]).getD k 0 = 0 := by
        rw [List.getD, List.getElem?_eq_none (by simp; omega)]; rfl
      rw [e1] at hb; simp at hb

def frameApart (all : Array Oper) (x y : Oper) : Bool := disj x.dst.toList (reads all y) && disj y.dst.toList (reads all x) && disj x.dst.toList y.dst.toList

def fullB (m i : Nat) : Bool := Nat.beq (Nat.land m (Nat.sub (Nat.pow 2 i) 1)) (Nat.sub (Nat.pow 2 i) 1)
theorem fullB_ok {m i : Nat} (h : fullB m i = true) {j : Nat} (hj : j < i) : m.testBit j = true := by
  have h2 : m &&& (2 ^ i - 1) = 2 ^ i - 1 := Nat.eq_of_beq_eq_true h
  have h3 := congrArg (·.testBit j) h2
  simp only [Nat.testBit_and, Nat.testBit_two_pow_sub_one, hj, decide_true, Bool.and_true] at h3
  exact h3

/-- What hangs on the text alone. -/
def statGo (all : Array Oper) (zl : List (Oper × Nat)) (ms : List Nat) : List (Oper × Nat) → Bool
  | [] => true
  | (o, i) :: l => (o.after.all fun e => !Region.binds .any e || decide (e.on < i)) && ((fullB (ms.getD i 0) i || zl.all fun q => Nat.ble i q.2 || hasB (ms.getD i 0) q.2 || frameApart all o q.1) && statGo all zl ms l)
def masks (ops : Array Oper) : List Nat := maskGo ops.toList []
def statOk (ops : Array Oper) : Bool := statGo ops ops.toList.zipIdx (masks ops) ops.toList.zipIdx

def ordB (ms : List Nat) (i j : Nat) : Bool := match Nat.blt j i with | true => hasB (ms.getD i 0) j | false => hasB (ms.getD j 0) i

def dynRow (ms : List Nat) (i : Nat) (w : List Nat) : List (List Nat × List Nat) → Nat → Bool
  | [], _ => true
  | g :: l, j => (Nat.beq i j || (disj w g.1 && disj w g.2) || ordB ms i j) && dynRow ms i w l (j + 1)
def dynGo (ms : List Nat) (tr : Trace) : List (List Nat × List Nat) → Nat → Bool
  | [], _ => true
  | f :: l, i => match f.2 with
    | [] => dynGo ms tr l (i + 1)
    | _ => dynRow ms i f.2 tr 0 && dynGo ms tr l (i + 1)

def drawF (ops : Array Oper) (tr : Trace) : Bool := statOk ops && dynGo (masks ops) tr tr 0

theorem statGo_ok {all : Array Oper} {zl : List (Oper × Nat)} {ms : List Nat} : ∀ {l : List (Oper × Nat)}, statGo all zl ms l = true → ∀ q ∈ l, (q.1.after.all fun e => !Region.binds .any e || decide (e.on < q.2)) = true ∧
    ∀ p ∈ zl, p.2 < q.2 → (ms.getD q.2 0).testBit p.2 = true ∨ frameApart all q.1 p.1 = true
  | [], _, q, hq => by simp at hq
  | (o, i) :: l, h, q, hq => by
    simp only [statGo, Bool.and_eq_true] at h
    rcases List.mem_cons.1 hq with rfl | hq
    · refine ⟨h.1, fun p hp hlt => ?_⟩
      have h2 := h.2.1
      rw [Bool.or_eq_true] at h2
      rcases h2 with h2 | h2
      · exact .inl (fullB_ok h2 hlt)
      · rw [List.all_eq_true] at h2
        have h3 := h2 p hp
        rw [Bool.or_eq_true, Bool.or_eq_true, hasB_eq] at h3
        rcases h3 with (h3 | h3) | h3
        · have := Nat.le_of_ble_eq_true h3
          simp only at hlt; omega
        · exact .inl h3
        · exact .inr h3
    · exact statGo_ok h.2.2 q hq

theorem dynRow_ok {ms : List Nat} {i : Nat} {w : List Nat} : ∀ {l : List (List Nat × List Nat)} {s : Nat}, dynRow ms i w l s = true → ∀ k g, l[k]? = some g → i = s + k ∨ (disj w g.1 = true ∧ disj w g.2 = true) ∨ ordB ms i (s + k) = true
  | [], s, _, k, g, hk => by simp at hk
  | f :: l, s, h, k, g, hk => by
    simp only [dynRow, Bool.and_eq_true] at h
    cases k with
    | zero =>
      simp only [List.getElem?_cons_zero, Option.some.injEq] at hk; subst hk
      have h1 := h.1
      rw [Bool.or_eq_true, Bool.or_eq_true, Bool.and_eq_true] at h1
      rcases h1 with (h1 | h1) | h1
      · exact .inl (Nat.eq_of_beq_eq_true h1)
      · exact .inr (.inl h1)
      · exact .inr (.inr h1)
    | succ k =>
      simp only [List.getElem?_cons_succ] at hk
      have := dynRow_ok h.2 k g hk
      rwa [Nat.add_assoc, Nat.add_comm 1 k] at this

theorem dynGo_ok {ms : List Nat} {tr : Trace} : ∀ {l : List (List Nat × List Nat)} {s : Nat}, dynGo ms tr l s = true → ∀ k f, l[k]? = some f → f.2 ≠ [] → dynRow ms (s + k) f.2 tr 0 = true
  | [], s, _, k, f, hk, _ => by simp at hk
  | f :: l, s, h, k, g, hk, hne => by
    simp only [dynGo] at h
    cases k with
    | zero =>
      simp only [List.getElem?_cons_zero, Option.some.injEq] at hk; subst hk
      split at h
      · rename_i he; exact absurd he hne
      · simp only [Bool.and_eq_true] at h; exact h.1
    | succ k =>
      simp only [List.getElem?_cons_succ] at hk
      have h2 : dynGo ms tr l (s + 1) = true := by
        split at h
        · exact h
        · simp only [Bool.and_eq_true] at h; exact h.2
      have := dynGo_ok h2 k g hk hne
      rwa [Nat.add_assoc, Nat.add_comm 1 k] at this

theorem drawF_ok {ops : Array Oper} {tr : Trace} (h : drawF ops tr = true) : drawOk ops tr = true := by
  simp only [drawF, Bool.and_eq_true] at h
  obtain ⟨hs, hd⟩ := h
  have hms : ∀ k b, ((masks ops).getD k 0).testBit b = true → b ∈ (aheadGo ops.toList []).getD k [] := maskGo_ok ops.toList [] [] rfl (fun k b hb => by simp at hb)
  unfold drawOk
  simp only [List.all_eq_true, Bool.and_eq_true]
  rintro ⟨o, i⟩ hoi
  obtain ⟨h1, h2⟩ := statGo_ok hs _ hoi
  refine ⟨by simpa using h1, ?_⟩
  rintro ⟨p, j⟩ hpj
  by_cases hij : i ≤ j
  · simp [hij]
  · have hlt : j < i := by omega
    by_cases hc : j ∈ (aheadGo ops.toList []).getD i []
    · have hcc : ((aheadGo ops.toList []).getD i []).contains j = true := List.contains_iff_mem.2 hc
      rw [hcc, Bool.or_true, Bool.true_or]
    · have hnt : ((masks ops).getD i 0).testBit j = false := by
        cases hb : ((masks ops).getD i 0).testBit j
        · rfl
        · exact absurd (hms _ _ hb) hc
      have hf : frameApart ops o p = true := by
        rcases h2 _ hpj hlt with h3 | h3
        · simp only at h3; rw [hnt] at h3; cases h3
        · exact h3
      have key : ∀ a b f g, tr[a]? = some f → tr[b]? = some g → a ≠ b → ordB (masks ops) a b = false → disj f.2 g.1 = true ∧ disj f.2 g.2 = true := by
        intro a b f g ha hb hab ho
        by_cases hne : f.2 = []
        · rw [hne]; exact ⟨rfl, rfl⟩
        · have hr := dynGo_ok hd a f ha hne
          rw [Nat.zero_add] at hr
          have := dynRow_ok hr b g hb
          rw [Nat.zero_add] at this
          rcases this with h' | h' | h'
          · exact absurd h' hab
          · exact h'
          · rw [ho] at h'; cases h'
      have ho1 : ordB (masks ops) i j = false := by
        have : Nat.blt j i = true := by simpa [Nat.blt_eq] using hlt
        unfold ordB; rw [this]; simp only [hasB_eq, hnt]
      have ho2 : ordB (masks ops) j i = false := by
        have : Nat.blt i j = false := by
          cases hb : Nat.blt i j
          · rfl
          · rw [Nat.blt_eq] at hb; omega
        unfold ordB; rw [this]; simp only [hasB_eq, hnt]
      have hmem : disj (tr.getD i ([], [])).2 (tr.getD j ([], [])).1 = true ∧ disj (tr.getD i ([], [])).2 (tr.getD j ([], [])).2 = true ∧ disj (tr.getD j ([], [])).2 (tr.getD i ([], [])).1 = true := by
        cases hti : tr[i]? with
        | none =>
          have e : tr.getD i ([], []) = ([], []) := by simp [List.getD, hti]
          rw [e]
          refine ⟨rfl, rfl, ?_⟩
          simp [disj]
        | some f =>
          have e : tr.getD i ([], []) = f := by simp [List.getD, hti]
          cases htj : tr[j]? with
          | none =>
            have e' : tr.getD j ([], []) = ([], []) := by simp [List.getD, htj]
            rw [e']
            simp [disj]
          | some g =>
            have e' : tr.getD j ([], []) = g := by simp [List.getD, htj]
            rw [e, e']
            obtain ⟨k1, k2⟩ := key i j f g hti htj (by omega) ho1
            obtain ⟨k3, _⟩ := key j i g f htj hti (by omega) ho2
            exact ⟨k1, k2, k3⟩
      have hap : apart ops o p (tr.getD i ([], [])) (tr.getD j ([], [])) = true := by
        unfold apart
        unfold frameApart at hf
        rw [hf, hmem.1, hmem.2.1, hmem.2.2]; rfl
      rw [hap, Bool.or_true]
end Go.Am
namespace Go.Am
universe u

inductive YT where
  | leaf (v : AV)
  | node (a b c d : YT)

/-- The slot of that number. (By the recursors themselves: what is to be reduced by the kernel is kept small.) -/
noncomputable def YT.get (t : YT) : Nat → AV :=
  YT.rec (motive := fun _ => Nat → AV)
    (fun v n => Nat.rec v (fun _ _ => .top) n)
    (fun _ _ _ _ ga gb gc gd n => Nat.rec (ga (Nat.div n 4)) (fun k _ => Nat.rec (gb (Nat.div n 4)) (fun k _ => Nat.rec (gc (Nat.div n 4)) (fun _ _ => gd (Nat.div n 4)) k) k) (Nat.mod n 4)) t

noncomputable def YT.set (t : YT) : Nat → AV → YT :=
  YT.rec (motive := fun _ => Nat → AV → YT)
    (fun u n v => Nat.rec (.leaf v) (fun _ _ => .leaf u) n)
    (fun a b c d ga gb gc gd n v => Nat.rec (.node (ga (Nat.div n 4) v) b c d) (fun k _ => Nat.rec (.node a (gb (Nat.div n 4) v) c d) (fun k _ => Nat.rec (.node a b (gc (Nat.div n 4) v) d) (fun _ _ => .node a b c (gd (Nat.div n 4) v)) k) k) (Nat.mod n 4)) t

def YT.has (t : YT) : Nat → Prop :=
  YT.rec (motive := fun _ => Nat → Prop)
    (fun _ n => n = 0)
    (fun _ _ _ _ ga gb gc gd n => Nat.rec (ga (Nat.div n 4)) (fun k _ => Nat.rec (gb (Nat.div n 4)) (fun k _ => Nat.rec (gc (Nat.div n 4)) (fun _ _ => gd (Nat.div n 4)) k) k) (Nat.mod n 4)) t

theorem mod4 (n : Nat) : Nat.mod n 4 = 0 ∨ Nat.mod n 4 = 1 ∨ Nat.mod n 4 = 2 ∨ Nat.mod n 4 = 3 := by
  have : n % 4 = 0 ∨ n % 4 = 1 ∨ n % 4 = 2 ∨ n % 4 = 3 := by omega
  exact this

noncomputable def pick4 {α : Sort u} (a b c d : α) (k : Nat) : α := Nat.rec a (fun k _ => Nat.rec b (fun k _ => Nat.rec c (fun _ _ => d) k) k) k
section
variable (a b c d : YT) {n : Nat} (v : AV)
theorem YT.get_pick : (YT.node a b c d).get n = pick4 (a.get (Nat.div n 4)) (b.get (Nat.div n 4)) (c.get (Nat.div n 4)) (d.get (Nat.div n 4)) (Nat.mod n 4) := rfl
theorem YT.has_pick : (YT.node a b c d).has n = pick4 (a.has (Nat.div n 4)) (b.has (Nat.div n 4)) (c.has (Nat.div n 4)) (d.has (Nat.div n 4)) (Nat.mod n 4) := rfl
theorem YT.set_pick : (YT.node a b c d).set n v = pick4 (.node (a.set (Nat.div n 4) v) b c d) (.node a (b.set (Nat.div n 4) v) c d) (.node a b (c.set (Nat.div n 4) v) d) (.node a b c (d.set (Nat.div n 4) v)) (Nat.mod n 4) := rfl
theorem YT.get0 (h : Nat.mod n 4 = 0) : (YT.node a b c d).get n = a.get (Nat.div n 4) := by rw [get_pick, h]; rfl
theorem YT.get1 (h : Nat.mod n 4 = 1) : (YT.node a b c d).get n = b.get (Nat.div n 4) := by rw [get_pick, h]; rfl
theorem YT.get2 (h : Nat.mod n 4 = 2) : (YT.node a b c d).get n = c.get (Nat.div n 4) := by rw [get_pick, h]; rfl
theorem YT.get3 (h : Nat.mod n 4 = 3) : (YT.node a b c d).get n = d.get (Nat.div n 4) := by rw [get_pick, h]; rfl
theorem YT.set0 (h : Nat.mod n 4 = 0) : (YT.node a b c d).set n v = .node (a.set (Nat.div n 4) v) b c d := by rw [set_pick, h]; rfl
theorem YT.set1 (h : Nat.mod n 4 = 1) : (YT.node a b c d).set n v = .node a (b.set (Nat.div n 4) v) c d := by rw [set_pick, h]; rfl
theorem YT.set2 (h : Nat.mod n 4 = 2) : (YT.node a b c d).set n v = .node a b (c.set (Nat.div n 4) v) d := by rw [set_pick, h]; rfl
theorem YT.set3 (h : Nat.mod n 4 = 3) : (YT.node a b c d).set n v = .node a b c (d.set (Nat.div n 4) v) := by rw [set_pick, h]; rfl
theorem YT.has0 (h : Nat.mod n 4 = 0) : (YT.node a b c d).has n = a.has (Nat.div n 4) := by rw [has_pick, h]; rfl
theorem YT.has1 (h : Nat.mod n 4 = 1) : (YT.node a b c d).has n = b.has (Nat.div n 4) := by rw [has_pick, h]; rfl
theorem YT.has2 (h : Nat.mod n 4 = 2) : (YT.node a b c d).has n = c.has (Nat.div n 4) := by rw [has_pick, h]; rfl
theorem YT.has3 (h : Nat.mod n 4 = 3) : (YT.node a b c d).has n = d.has (Nat.div n 4) := by rw [has_pick, h]; rfl
end

theorem YT.get_set_same : ∀ (t : YT) (n : Nat) (v : AV), t.has n → (t.set n v).get n = v
  | .leaf u, n, v, h => by have h : n = 0 := h; subst h; rfl
  | .node a b c d, n, v, h => by
    rcases mod4 n with e | e | e | e
    · rw [has0 _ _ _ _ e] at h; rw [set0 _ _ _ _ _ e, get0 _ _ _ _ e, get_set_same a _ v h]
    · rw [has1 _ _ _ _ e] at h; rw [set1 _ _ _ _ _ e, get1 _ _ _ _ e, get_set_same b _ v h]
    · rw [has2 _ _ _ _ e] at h; rw [set2 _ _ _ _ _ e, get2 _ _ _ _ e, get_set_same c _ v h]
    · rw [has3 _ _ _ _ e] at h; rw [set3 _ _ _ _ _ e, get3 _ _ _ _ e, get_set_same d _ v h]

theorem div4_ne {n m : Nat} (h : m ≠ n) (e : Nat.mod n 4 = Nat.mod m 4) : Nat.div m 4 ≠ Nat.div n 4 := by
  intro h2
  have e : n % 4 = m % 4 := e
  have h2 : m / 4 = n / 4 := h2
  omega

theorem YT.get_set_ne : ∀ (t : YT) (n m : Nat) (v : AV), m ≠ n → (t.set n v).get m = t.get m
  | .leaf u, n, m, v, h => by
    cases n with
    | zero => cases m with
      | zero => exact absurd rfl h
      | succ m => rfl
    | succ n => rfl
  | .node a b c d, n, m, v, h => by
    rcases mod4 n with e | e | e | e
    · rw [set0 _ _ _ _ _ e]
      rcases mod4 m with e' | e' | e' | e'
      · rw [get0 _ _ _ _ e', get0 _ _ _ _ e', get_set_ne a _ _ v (div4_ne h (e.trans e'.symm))]
      · rw [get1 _ _ _ _ e', get1 _ _ _ _ e']
      · rw [get2 _ _ _ _ e', get2 _ _ _ _ e']
      · rw [get3 _ _ _ _ e', get3 _ _ _ _ e']
    · rw [set1 _ _ _ _ _ e]
      rcases mod4 m with e' | e' | e' | e'
      · rw [get0 _ _ _ _ e', get0 _ _ _ _ e']
      · rw [get1 _ _ _ _ e', get1 _ _ _ _ e', get_set_ne b _ _ v (div4_ne h (e.trans e'.symm))]
      · rw [get2 _ _ _ _ e', get2 _ _ _ _ e']
      · rw [get3 _ _ _ _ e', get3 _ _ _ _ e']
    · rw [set2 _ _ _ _ _ e]
      rcases mod4 m with e' | e' | e' | e'
      · rw [get0 _ _ _ _ e', get0 _ _ _ _ e']
      · rw [get1 _ _ _ _ e', get1 _ _ _ _ e']
      · rw [get2 _ _ _ _ e', get2 _ _ _ _ e', get_set_ne c _ _ v (div4_ne h (e.trans e'.symm))]
      · rw [get3 _ _ _ _ e', get3 _ _ _ _ e']
    · rw [set3 _ _ _ _ _ e]
      rcases mod4 m with e' | e' | e' | e'
      · rw [get0 _ _ _ _ e', get0 _ _ _ _ e']
      · rw [get1 _ _ _ _ e', get1 _ _ _ _ e']
      · rw [get2 _ _ _ _ e', get2 _ _ _ _ e']
      · rw [get3 _ _ _ _ e', get3 _ _ _ _ e', get_set_ne d _ _ v (div4_ne h (e.trans e'.symm))]

theorem YT.has_set : ∀ (t : YT) (n m : Nat) (v : AV), t.has m → (t.set n v).has m
  | .leaf u, n, m, v, h => by cases n <;> exact h
  | .node a b c d, n, m, v, h => by
    rcases mod4 m with e' | e' | e' | e' <;> rcases mod4 n with e | e | e | e <;>
      first
        | rw [set0 _ _ _ _ _ e]
        | rw [set1 _ _ _ _ _ e]
        | rw [set2 _ _ _ _ _ e]
        | rw [set3 _ _ _ _ _ e]
    all_goals first
        | (rw [has0 _ _ _ _ e'] at h ⊢; first | exact h | exact has_set a _ _ _ h)
        | (rw [has1 _ _ _ _ e'] at h ⊢; first | exact h | exact has_set b _ _ _ h)
        | (rw [has2 _ _ _ _ e'] at h ⊢; first | exact h | exact has_set c _ _ _ h)
        | (rw [has3 _ _ _ _ e'] at h ⊢; first | exact h | exact has_set d _ _ _ h)

noncomputable def YT.empty : Nat → YT
  | 0 => .leaf .top
  | n + 1 => let t := YT.empty n; .node t t t t

theorem YT.empty_get : ∀ (d n : Nat), (YT.empty d).get n = .top
  | 0, n => by cases n <;> rfl
  | d + 1, n => by
    rcases mod4 n with e | e | e | e
    · exact (get0 _ _ _ _ e).trans (empty_get d _)
    · exact (get1 _ _ _ _ e).trans (empty_get d _)
    · exact (get2 _ _ _ _ e).trans (empty_get d _)
    · exact (get3 _ _ _ _ e).trans (empty_get d _)

theorem YT.empty_has : ∀ (d n : Nat), n < 4 ^ d → (YT.empty d).has n
  | 0, n, h => by have : n = 0 := by simpa using h
                  exact this
  | d + 1, n, h => by
    have h2 : Nat.div n 4 < 4 ^ d := by
      show n / 4 < 4 ^ d
      rw [Nat.pow_succ] at h
      omega
    rcases mod4 n with e | e | e | e
    · rw [YT.empty, has0 _ _ _ _ e]; exact empty_has d _ h2
    · rw [YT.empty, has1 _ _ _ _ e]; exact empty_has d _ h2
    · rw [YT.empty, has2 _ _ _ _ e]; exact empty_has d _ h2
    · rw [YT.empty, has3 _ _ _ _ e]; exact empty_has d _ h2

/-- A tree and the slots it stands for. -/
structure YR (len : Nat) (t : YT) (fr : List AV) : Prop where
  size : fr.length = len
  has : ∀ n, n < len → t.has n
  get : ∀ n, t.get n = slot fr n

theorem slot_out : ∀ {l : List AV} {n : Nat}, l.length ≤ n → slot l n = .top
  | [], n, _ => by cases n <;> rfl
  | a :: l, 0, h => by simp at h
  | a :: l, n + 1, h => slot_out (l := l) (n := n) (by simpa using h)
theorem slot_set_eq : ∀ {l : List AV} {n : Nat} {v : AV}, n < l.length → slot (l.set n v) n = v
  | [], n, _, h => by simp at h
  | a :: l, 0, _, _ => rfl
  | a :: l, n + 1, v, h => slot_set_eq (l := l) (n := n) (by simpa using h)
theorem slot_set_ne' : ∀ {l : List AV} {n m : Nat} {v : AV}, m ≠ n → slot (l.set n v) m = slot l m
  | [], n, _, _, h => rfl
  | a :: l, 0, 0, _, h => absurd rfl h
  | a :: l, 0, m + 1, _, h => rfl
  | a :: l, n + 1, 0, _, h => rfl
  | a :: l, n + 1, m + 1, v, h => slot_set_ne' (l := l) (n := n) (m := m) (by omega)

theorem YR.set {len : Nat} {t : YT} {fr : List AV} (h : YR len t fr) {n : Nat} {v : AV} (hn : n < len) : YR len (t.set n v) (fr.set n v) where
  size := by simp [h.size]
  has m hm := YT.has_set _ _ _ _ (h.has m hm)
  get m := by
    by_cases e : m = n
    · subst e; rw [YT.get_set_same _ _ _ (h.has _ hn), slot_set_eq (by rw [h.size]; exact hn)]
    · rw [YT.get_set_ne _ _ _ _ e, slot_set_ne' e, h.get]

/-- The tree of the slots a call begins with. -/
noncomputable def yfill : List AV → Nat → YT → YT
  | [], _, t => t
  | a :: l, n, t => yfill l (n + 1) (t.set n a)
noncomputable def ydeep : Nat → Nat → Nat
  | 0, _ => 0
  | k + 1, n => match Nat.ble n 1 with | true => 0 | false => ydeep k (Nat.div (Nat.add n 3) 4) + 1

theorem ydeep_ok : ∀ (k n : Nat), n ≤ 4 ^ k → n ≤ 4 ^ ydeep k n
  | 0, n, h => h
  | k + 1, n, h => by
    simp only [ydeep]
    split
    · rename_i h1; simpa using h1
    · have h2 : (n + 3) / 4 ≤ 4 ^ k := by rw [Nat.pow_succ] at h; omega
      have h3 := ydeep_ok k _ h2
      rw [Nat.pow_succ]
      show n ≤ 4 ^ ydeep k ((n + 3) / 4) * 4
      omega

theorem slot_append_len : ∀ {l : List AV} {a : AV} {m : List AV}, slot (l ++ a :: m) l.length = a
  | [], _, _ => rfl
  | _ :: l, _, _ => slot_append_len (l := l)
theorem set_append_len : ∀ {l : List AV} {a b : AV} {m : List AV}, (l ++ a :: m).set l.length b = l ++ b :: m
  | [], _, _, _ => rfl
  | x :: l, _, _, _ => by simp [List.set_append]

theorem yfill_ok {len : Nat} : ∀ (args done : List AV) (t : YT), done.length + args.length ≤ len → YR len t (done ++ List.replicate (len - done.length) .top) → YR len (yfill args done.length t) (done ++ args ++ List.replicate (len - (done ++ args).length) .top)
  | [], done, t, _, h => by simpa [yfill] using h
  | a :: l, done, t, hl, h => by
    simp only [List.length_cons] at hl
    have e : len - done.length = (len - (done.length + 1)) + 1 := by omega
    have h2 := h.set (n := done.length) (v := a) (by omega)
    rw [e, List.replicate_succ, set_append_len] at h2
    have hle : (done ++ [a]).length + l.length ≤ len := by simp only [List.length_append, List.length_singleton]; omega
    have := yfill_ok l (done ++ [a]) (t.set done.length a) hle (by simpa using h2)
    simpa [yfill] using this
theorem slot_rep : ∀ (n m : Nat), slot (List.replicate n .top) m = .top
  | 0, m => by cases m <;> rfl
  | n + 1, 0 => rfl
  | n + 1, m + 1 => slot_rep n m

theorem YR.start {args : List AV} {n : Nat} (hn : n ≤ 4 ^ 8) (ha : args.length ≤ n) : YR n (yfill args 0 (YT.empty (ydeep 8 n))) (args ++ List.replicate (n - args.length) .top) := by
  have h0 : YR n (YT.empty (ydeep 8 n)) ([] ++ List.replicate (n - 0) .top) := by
    refine ⟨by simp, fun m hm => YT.empty_has _ _ (Nat.lt_of_lt_of_le hm (ydeep_ok 8 n hn)), fun m => ?_⟩
    rw [YT.empty_get]
    exact (slot_rep n m).symm
  have := yfill_ok args [] _ (by simpa using ha) h0
  simpa using this

structure YState where
  fr : YT
  hp : List OB

noncomputable def evalT (t : YT) : Operand → AV
  | .tmp n => t.get n
  | .const v => constAV v
  | .global g => .val (.pointer (some ⟨g, 0, none⟩))
  | .func f => .fn f []

theorem YR.eval {len : Nat} {t : YT} {fr : List AV} (h : YR len t fr) : evalT t = evalIn fr := by
  funext x
  cases x <;> simp only [evalT, evalIn, h.get]

noncomputable def yput (len : Nat) (t : YT) (d : Option Nat) (v : AV) : Option YT := match d with
  | none => some t
  | some n => match Nat.blt n len with | true => some (t.set n v) | false => none

theorem YR.put {len : Nat} {t t' : YT} {fr : List AV} (h : YR len t fr) {d : Option Nat} {v : AV} (hp : yput len t d v = some t') : YR len t' (putDst fr d v) := by
  unfold yput at hp
  split at hp
  · simp only [Option.some.injEq] at hp; subst hp; exact h
  · split at hp
    · rename_i hlt
      simp only [Option.some.injEq] at hp; subst hp
      exact h.set (by simpa using hlt)
    · cases hp

def appN (hp : List OB) : List OB → List OB
  | [] => hp
  | l => hp ++ l
theorem appN_eq (hp l : List OB) : appN hp l = hp ++ l := by cases l <;> simp [appN]

section
variable (E : XEnv) (xf : FuncId → List AV → List OB → Option (AV × List OB)) (len : Nat)

noncomputable def yexec (draw : Bool) (o : Oper) (t : YT) (hp : List OB) (tr : Trace) (k : YT → List OB → Trace → Option (YState × Trace)) : Option (YState × Trace) :=
  match yop E xf draw o.op (evalT t) hp with
  | some e => match yput len t o.dst e.v with
    | some t' => k t' (appN (setAll hp e.w) e.n) (foot hp e :: tr)
    | none => none
  | none => none
noncomputable def yskip (o : Oper) (t : YT) (hp : List OB) (tr : Trace) (k : YT → List OB → Trace → Option (YState × Trace)) : Option (YState × Trace) :=
  match yput len t o.dst (.val (.tuple #[])) with
  | some t' => k t' hp (([], []) :: tr)
  | none => none
noncomputable def yguard (draw : Bool) (all : Array Oper) (j : Nat) (want : Bool) (o : Oper) (t : YT) (hp : List OB) (tr : Trace) (k : YT → List OB → Trace → Option (YState × Trace)) : Option (YState × Trace) :=
  match (all[j]?).bind (·.dst) with
  | none => none
  | some d => match t.get d with
    | .val (.bool b) => match b == want with
      | true => yexec E xf len draw o t hp tr k
      | false => yskip len o t hp tr k
    | .val (.tuple _) => yskip len o t hp tr k
    | _ => none
noncomputable def yops (draw : Bool) (all : Array Oper) : List Oper → YT → List OB → Trace → Option (YState × Trace)
  | [], t, hp, tr => some (⟨t, hp⟩, tr)
  | o :: rest, t, hp, tr =>
    match o.guard with
    | none => yexec E xf len draw o t hp tr (yops draw all rest)
    | some (j, want) => yguard E xf len draw all j want o t hp tr (yops draw all rest)

def yloop (body : YState → Option (AExit × YState)) : Nat → YState → Option (AExit × YState)
  | 0, _ => none
  | n + 1, σ => match body σ with
    | some (.normal, σ') => yloop body n σ'
    | r => r

noncomputable def ycode (L : Nat) : Code → YState → Option (AExit × YState)
  | .skip, σ => some (.normal, σ)
  | .region _ ops draw, σ => match yops E xf len draw ops ops.toList σ.fr σ.hp [] with
    | some (σ', tr) => guardO (!draw || drawF ops tr.reverse) (some (.normal, σ'))
    | none => none
  | .seq x y, σ => match ycode L x σ with
    | some (.normal, σ') => ycode L y σ'
    | r => r
  | .cond c x y, σ => match evalT σ.fr c with
    | .val (.bool true) => ycode L x σ
    | .val (.bool false) => ycode L y σ
    | _ => none
  | .block id c, σ => match ycode L c σ with
    | some (.exit i, σ') => match i == id with | true => some (.normal, σ') | false => some (.exit i, σ')
    | r => r
  | .loop c, σ => yloop (ycode L c) L σ
  | .exit id, σ => some (.exit id, σ)
  | .ret, σ => some (.ret, σ)
  | .label _, σ => some (.normal, σ)
  | _, _ => none

noncomputable def yres (σ : YState) (r : ResultVar) : Option AV := match r with
  | .tmp t => some (σ.fr.get t)
  | .cell a t => match σ.fr.get a with
    | .optr b i f => match σ.hp[b]? with
      | some (.cells _ _ rows) => match rows[i]? with
        | some row => (xloaded E.P t (row.drop f) []).map (·.v)
        | none => none
      | _ => none
    | _ => none

noncomputable def yress (σ : YState) : List ResultVar → Option (List AV)
  | [] => some []
  | r :: rs => match yres E σ r with
    | some v => match yress σ rs with
      | some l => some (v :: l)
      | none => none
    | none => none

noncomputable def yret (own : Bool) (rs : List ResultVar) (fp : List OB) (σ : YState) : Option (AV × List OB) :=
  match yress E σ rs with
  | some vs =>
    match own with
    | false => match fp with
      | [] => guardO ((resF E.deep σ.hp (xone vs)).closed) (some (resF E.deep σ.hp (xone vs), []))
      | _ => none
    | true =>
      match reach σ.hp E.gcs ((σ.hp.take fp.length).flatMap OB.namesF ++ (xone vs).namesF) (List.range fp.length) with
      | some kp => guardO (kp.all fun b => Nat.blt b σ.hp.length) (some ((xone vs).backF kp, kp.map fun b => (σ.hp.getD b .dead).backF kp))
      | none => none
  | none => none
end

noncomputable def yfn (E : XEnv) (T : List (Fact E.P)) : Nat → FuncId → List AV → List OB → Option (AV × List OB)
  | 0, _, _, _ => none
  | n + 1, f, args, fp =>
    match match isNil fp with | true => known f args T | false => none with
    | some r => some (r, [])
    | none => match E.same f with
     | true => match args with
      | [x] => some (x, fp)
      | _ => none
     | false => match E.P.funcs[f]? with
      | some fn => match fn.body with
        | some c => guardO (Nat.ble args.length fn.ntmps && Nat.ble fn.ntmps 65536) <| match ycode E (yfn E T n) fn.ntmps 1000000 c ⟨yfill args 0 (YT.empty (ydeep 8 fn.ntmps)), fp⟩ with
          | some (.normal, σ) | some (.ret, σ) => yret E (E.own f) fn.results.toList fp σ
          | _ => none
        | none => none
      | none => none

/-- As the machine with a list of slots answers. -/
def YX (yf xf : FuncId → List AV → List OB → Option (AV × List OB)) : Prop := ∀ f args fp r, yf f args fp = some r → xf f args fp = some r

section
variable {E : XEnv} {yf xf : FuncId → List AV → List OB → Option (AV × List OB)} {len : Nat}

theorem ycall_x (hyx : YX yf xf) {draw : Bool} {f : FuncId} {args : List AV} {hp : List OB} {e : Eff} (h : xcall E yf draw f args hp = some e) : xcall E xf draw f args hp = some e := by
  unfold xcall at h ⊢
  split at h
  · simp only at h ⊢
    obtain ⟨h1, h⟩ := guardO_some h
    rw [h1]
    simp only [guardO]
    split at h
    · rename_i r hr
      rw [hyx _ _ _ _ hr]; exact h
    · cases h
  · split at h
    · rename_i bl hbl
      simp only [hbl] at h ⊢
      obtain ⟨h1, h⟩ := guardO_some h
      rw [h1]
      simp only [guardO]
      split at h
      · rename_i r fp' hr
        rw [hyx _ _ _ _ hr]; exact h
      · cases h
    · cases h

theorem yop_x (hyx : YX yf xf) {draw : Bool} {o : Oper} {ev : Operand → AV} {hp : List OB} {e : Eff} (h : xop E yf draw o ev hp = some e) : xop E xf draw o ev hp = some e := by
  obtain ⟨d, op, t, p, af, g⟩ := o
  cases op with
  | call c =>
    obtain ⟨callee, args, ats⟩ := c
    cases callee with
    | builtin b =>
      obtain ⟨l⟩ := args
      rcases l with _ | ⟨x, _ | ⟨y, _ | ⟨z, _ | ⟨u, l⟩⟩⟩⟩ <;> cases b <;> exact h
    | value f =>
      replace h : (match ev f with | .fn g caps => xcall E yf draw g (args.toList.map ev ++ caps) hp | .mv g fs => xcall E yf draw g (fs ++ args.toList.map ev) hp | _ => none) = some e := h
      show (match ev f with | .fn g caps => xcall E xf draw g (args.toList.map ev ++ caps) hp | .mv g fs => xcall E xf draw g (fs ++ args.toList.map ev) hp | _ => none) = some e
      split at h
      · exact ycall_x hyx h
      · exact ycall_x hyx h
      · cases h
    | invoke x name =>
      replace h : (match ev x with | .val (.iface t v) => (match E.meth t name with | some f => guardO (match v with | .int _ _ => true | _ => false) (xcall E yf draw f (.val v :: args.toList.map ev) hp) | none => none) | _ => none) = some e := h
      show (match ev x with | .val (.iface t v) => (match E.meth t name with | some f => guardO (match v with | .int _ _ => true | _ => false) (xcall E xf draw f (.val v :: args.toList.map ev) hp) | none => none) | _ => none) = some e
      split at h
      · split at h
        · rename_i hm
          obtain ⟨h1, h⟩ := guardO_some h
          simp only [hm, h1, guardO]
          exact ycall_x hyx h
        · cases h
      · cases h
  | makeFunc fn a b => cases fn <;> exact h
  | slice u x lo hi m => cases m <;> exact h
  | next it s => cases s <;> exact h
  | _ => exact h

theorem yops_x (hyx : YX yf xf) {draw : Bool} {all : Array Oper} : ∀ (rest : List Oper) (t : YT) (hp : List OB) (tr : Trace) (fr : List AV) (τ : YState) (tr' : Trace), yops E yf len draw all rest t hp tr = some (τ, tr') → YR len t fr →
    ∃ fr', xops E xf draw all rest ⟨fr, hp⟩ tr = some (⟨fr', τ.hp⟩, tr') ∧ YR len τ.fr fr'
  | [], t, hp, tr, fr, τ, tr', h, hR => by
    simp only [yops, Option.some.injEq, Prod.mk.injEq] at h
    obtain ⟨rfl, rfl⟩ := h
    exact ⟨fr, rfl, hR⟩
  | o :: rest, t, hp, tr, fr, τ, tr', h, hR => by
    have go : ∀ {e : Eff}, xop E yf draw o (evalT t) hp = some e → ∀ {t'}, yput len t o.dst e.v = some t' → yops E yf len draw all rest t' (appN (setAll hp e.w) e.n) (foot hp e :: tr) = some (τ, tr') →
        xop E xf draw o (evalIn fr) hp = some e ∧ ∃ fr', xops E xf draw all rest (AState.apply ⟨fr, hp⟩ o.dst e) (foot hp e :: tr) = some (⟨fr', τ.hp⟩, tr') ∧ YR len τ.fr fr' := by
      intro e he t' ht' hrest
      rw [hR.eval] at he
      refine ⟨yop_x hyx he, ?_⟩
      rw [appN_eq] at hrest
      exact yops_x hyx rest _ _ _ _ _ _ hrest (hR.put ht')
    have skip : ∀ {t'}, yput len t o.dst (.val (.tuple #[])) = some t' → yops E yf len draw all rest t' hp (([], []) :: tr) = some (τ, tr') →
        ∃ fr', xops E xf draw all rest ⟨putDst fr o.dst (.val (.tuple #[])), hp⟩ (([], []) :: tr) = some (⟨fr', τ.hp⟩, tr') ∧ YR len τ.fr fr' :=
      fun ht' hrest => yops_x hyx rest _ _ _ _ _ _ hrest (hR.put ht')
    simp only [yops, yguard, yexec, yskip, yop_eq] at h
    simp only [xops]
    split at h
    · rename_i hg
      simp only [hg]
      split at h
      · rename_i e he
        split at h
        · rename_i t' ht'
          obtain ⟨h1, h2⟩ := go he ht' h
          simp only [h1]
          exact h2
        · cases h
      · cases h
    · rename_i j want hg
      simp only [hg]
      split at h
      · cases h
      · rename_i d hd
        simp only [hd]
        rw [hR.get] at h
        split at h
        · rename_i b hb
          simp only [hb]
          split at h
          · rename_i hw
            split at h
            · rename_i e he
              split at h
              · rename_i t' ht'
                obtain ⟨h1, h2⟩ := go he ht' h
                simp only [hw, h1]
                exact h2
              · cases h
            · cases h
          · rename_i hw
            split at h
            · rename_i t' ht'
              simp only [hw]
              exact skip ht' h
            · cases h
        · rename_i us hb
          simp only [hb]
          split at h
          · rename_i t' ht'
            exact skip ht' h
          · cases h
        · cases h

theorem yloop_x {body : YState → Option (AExit × YState)} {body' : AState → Option (AExit × AState)}
    (hb : ∀ τ fr e τ', body τ = some (e, τ') → YR len τ.fr fr → ∃ fr', body' ⟨fr, τ.hp⟩ = some (e, ⟨fr', τ'.hp⟩) ∧ YR len τ'.fr fr') :
    ∀ (n : Nat) (τ : YState) (fr : List AV) (e : AExit) (τ' : YState), yloop body n τ = some (e, τ') → YR len τ.fr fr → ∃ fr', xloop body' n ⟨fr, τ.hp⟩ = some (e, ⟨fr', τ'.hp⟩) ∧ YR len τ'.fr fr'
  | 0, τ, fr, e, τ', h, _ => by simp [yloop] at h
  | n + 1, τ, fr, e, τ', h, hR => by
    simp only [yloop] at h
    simp only [xloop]
    split at h
    · rename_i τ1 h1
      obtain ⟨fr1, e1, hR1⟩ := hb _ _ _ _ h1 hR
      simp only [e1]
      exact yloop_x hb n τ1 fr1 e τ' h hR1
    · rename_i hne
      obtain ⟨fr1, e1, hR1⟩ := hb _ _ _ _ h hR
      rw [e1]
      cases e with
      | normal => exact absurd h (hne τ')
      | exit i => exact ⟨fr1, rfl, hR1⟩
      | ret => exact ⟨fr1, rfl, hR1⟩

theorem ycode_x (hyx : YX yf xf) (L : Nat) : ∀ (c : Code) (τ : YState) (fr : List AV) (e : AExit) (τ' : YState), ycode E yf len L c τ = some (e, τ') → YR len τ.fr fr → ∃ fr', xcode E xf L c ⟨fr, τ.hp⟩ = some (e, ⟨fr', τ'.hp⟩) ∧ YR len τ'.fr fr' := by
  intro c
  induction c with
  | skip => intro τ fr e τ' h hR; simp only [ycode, Option.some.injEq, Prod.mk.injEq] at h; obtain ⟨rfl, rfl⟩ := h; exact ⟨fr, rfl, hR⟩
  | region id ops draw =>
    intro τ fr e τ' h hR
    simp only [ycode] at h
    simp only [xcode]
    split at h
    · rename_i τ1 tr h1
      obtain ⟨h2, h⟩ := guardO_some h
      simp only [Option.some.injEq, Prod.mk.injEq] at h
      obtain ⟨rfl, rfl⟩ := h
      obtain ⟨fr1, e1, hR1⟩ := yops_x hyx _ _ _ _ _ _ _ h1 hR
      have h2' : (!draw || drawOk ops tr.reverse) = true := by
        cases draw
        · rfl
        · exact drawF_ok h2
      simp only [e1, h2', guardO]
      exact ⟨fr1, rfl, hR1⟩
    · cases h
  | seq x y ihx ihy =>
    intro τ fr e τ' h hR
    simp only [ycode] at h
    simp only [xcode]
    split at h
    · rename_i τ1 h1
      obtain ⟨fr1, e1, hR1⟩ := ihx _ _ _ _ h1 hR
      simp only [e1]
      exact ihy _ _ _ _ h hR1
    · rename_i hne
      obtain ⟨fr1, e1, hR1⟩ := ihx _ _ _ _ h hR
      rw [e1]
      cases e with
      | normal => exact absurd h (hne τ')
      | exit i => exact ⟨fr1, rfl, hR1⟩
      | ret => exact ⟨fr1, rfl, hR1⟩
  | cond x c1 c2 ih1 ih2 =>
    intro τ fr e τ' h hR
    simp only [ycode] at h
    simp only [xcode]
    rw [hR.eval] at h
    split at h
    · rename_i hx; simp only [hx]; exact ih1 _ _ _ _ h hR
    · rename_i hx; simp only [hx]; exact ih2 _ _ _ _ h hR
    · cases h
  | block id c ih =>
    intro τ fr e τ' h hR
    simp only [ycode] at h
    simp only [xcode]
    split at h
    · rename_i i τ1 h1
      obtain ⟨fr1, e1, hR1⟩ := ih _ _ _ _ h1 hR
      simp only [e1]
      split at h
      · rename_i hi
        simp only [Option.some.injEq, Prod.mk.injEq] at h
        obtain ⟨rfl, rfl⟩ := h
        simp only [hi]
        exact ⟨fr1, rfl, hR1⟩
      · rename_i hi
        simp only [Option.some.injEq, Prod.mk.injEq] at h
        obtain ⟨rfl, rfl⟩ := h
        simp only [hi]
        exact ⟨fr1, rfl, hR1⟩
    · rename_i hne
      obtain ⟨fr1, e1, hR1⟩ := ih _ _ _ _ h hR
      rw [e1]
      cases e with
      | normal => exact ⟨fr1, rfl, hR1⟩
      | exit i => exact absurd h (hne i τ')
      | ret => exact ⟨fr1, rfl, hR1⟩
  | loop c ih =>
    intro τ fr e τ' h hR
    simp only [ycode] at h
    simp only [xcode]
    exact yloop_x (fun τ fr e τ' h hR => ih τ fr e τ' h hR) L τ fr e τ' h hR
  | exit id => intro τ fr e τ' h hR; simp only [ycode, Option.some.injEq, Prod.mk.injEq] at h; obtain ⟨rfl, rfl⟩ := h; exact ⟨fr, rfl, hR⟩
  | ret => intro τ fr e τ' h hR; simp only [ycode, Option.some.injEq, Prod.mk.injEq] at h; obtain ⟨rfl, rfl⟩ := h; exact ⟨fr, rfl, hR⟩
  | label l => intro τ fr e τ' h hR; simp only [ycode, Option.some.injEq, Prod.mk.injEq] at h; obtain ⟨rfl, rfl⟩ := h; exact ⟨fr, rfl, hR⟩
  | _ => intro τ fr e τ' h; simp [ycode] at h

theorem yres_x {τ : YState} {fr : List AV} (hR : YR len τ.fr fr) (r : ResultVar) : yres E τ r = xres E ⟨fr, τ.hp⟩ r := by
  cases r <;> simp only [yres, xres, hR.get]
  rfl
theorem yress_x {τ : YState} {fr : List AV} (hR : YR len τ.fr fr) : ∀ rs : List ResultVar, yress E τ rs = rs.mapM (xres E ⟨fr, τ.hp⟩)
  | [] => rfl
  | r :: rs => by
    simp only [yress, List.mapM_cons, yres_x hR, yress_x hR rs]
    cases xres E ⟨fr, τ.hp⟩ r with
    | none => rfl
    | some v => cases rs.mapM (xres E ⟨fr, τ.hp⟩) <;> rfl
theorem yret_x {τ : YState} {fr : List AV} (hR : YR len τ.fr fr) (own : Bool) (rs : List ResultVar) (fp : List OB) : yret E own rs fp τ = xret E own rs fp ⟨fr, τ.hp⟩ := by
  unfold yret xret
  rw [yress_x hR]
  rfl

theorem yfn_x {E : XEnv} {T : List (Fact E.P)} : ∀ n, YX (yfn E T n) (xfn E T n)
  | 0, f, args, fp, r, h => by simp [yfn] at h
  | n + 1, f, args, fp, r, h => by
    revert h
    have rest : (match E.same f with
       | true => match args with
        | [x] => some (x, fp)
        | _ => none
       | false => match E.P.funcs[f]? with
        | some fn => match fn.body with
          | some c => guardO (Nat.ble args.length fn.ntmps && Nat.ble fn.ntmps 65536) <| match ycode E (yfn E T n) fn.ntmps 1000000 c ⟨yfill args 0 (YT.empty (ydeep 8 fn.ntmps)), fp⟩ with
            | some (.normal, σ) | some (.ret, σ) => yret E (E.own f) fn.results.toList fp σ
            | _ => none
          | none => none
        | none => none) = some r → (match E.same f with
       | true => match args with
        | [x] => some (x, fp)
        | _ => none
       | false => match E.P.funcs[f]? with
        | some fn => match fn.body with
          | some c => match xcode E (xfn E T n) 1000000 c ⟨args ++ List.replicate (fn.ntmps - args.length) .top, fp⟩ with
            | some (.normal, σ) | some (.ret, σ) => xret E (E.own f) fn.results.toList fp σ
            | _ => none
          | none => none
        | none => none) = some r := by
      intro h
      cases hsm : E.same f with
      | true => simp only [hsm] at h ⊢; exact h
      | false =>
        simp only [hsm] at h ⊢
        cases hf : E.P.funcs[f]? with
        | none => simp [hf] at h
        | some fn =>
          simp only [hf] at h ⊢
          cases hb : fn.body with
          | none => simp [hb] at h
          | some c =>
            simp only [hb] at h ⊢
            obtain ⟨h1, h⟩ := guardO_some h
            simp only [Bool.and_eq_true] at h1
            have hR := YR.start (args := args) (n := fn.ntmps) (Nat.le_of_ble_eq_true h1.2) (Nat.le_of_ble_eq_true h1.1)
            split at h
            · rename_i τ hx
              obtain ⟨fr', e1, hR1⟩ := ycode_x (yfn_x n) _ _ _ _ _ _ hx hR
              simp only [e1]
              rw [← yret_x hR1]; exact h
            · rename_i τ hx
              obtain ⟨fr', e1, hR1⟩ := ycode_x (yfn_x n) _ _ _ _ _ _ hx hR
              simp only [e1]
              rw [← yret_x hR1]; exact h
            · cases h
    intro h
    simp only [yfn] at h
    simp only [xfn]
    cases hn : isNil fp with
    | false => simp only [hn] at h ⊢; exact rest h
    | true =>
      cases hk : known f args T with
      | none => simp only [hn, hk] at h ⊢; exact rest h
      | some r' => simp only [hn, hk] at h ⊢; exact h
end

/-- A known call, out of a run. -/
theorem fact_of_yrun {E : XEnv} (hmix : E.P.follows .mixedOrders = true) (hent : Enters E.P) (hm : MethsOk E) (hs : Sames E) (T : List (Fact E.P)) (hT : T.all (fun x => x.r.closed) = true) (n : Nat) {f : FuncId} {args : List AV} {r : AV} (hu : underL 0 args = true) (h : yfn E T n f args [] = some (r, [])) : Pure E.P f args r :=
  fact_of_run hmix hent hm hs T hT n hu (yfn_x n f args [] (r, []) h)
end Go.Am
namespace Go.Am
open Go.RowKit (Below)
section
variable {P : Program}

/-- A call that leaves all older memory as it is. -/
theorem pure_of_calls {f : FuncId} {args : List AV} {r : AV} (hent : ∀ args w, (callFunc f args).run P w = .ok (.enter f args) w)
    (h : ∀ (w : World) (m : Mem) (β : Plc) (vs : List Value), (∀ B o, m B = some o → w.heap[B]? = some o) → RelL m β args vs → ∃ v, Rel m β r v ∧ Calls P f vs.toArray w fun e w' => e = .returned v ∧ Below w.heap.size w w') : Pure P f args r := by
  refine ⟨fun w m β vs hS hv => ?_⟩
  obtain ⟨v, hr, hc⟩ := h w m β vs hS.agree hv
  unfold CallsTo
  rw [hent]
  refine hc.mono fun e w' ⟨he, hb⟩ => ⟨v, he, m, β, Mem.le_refl m, Plc.le_refl β, ?_, hr⟩
  exact {
    agree := fun B o ho => by
      have hlt := hS.mem_lt ho
      rw [hb.block B hlt]; exact hS.agree B o ho
    blocks := fun b ob h => by simp at h
    inj := fun b b' L L' h => by obtain ⟨o, h, _⟩ := h; simp at h
    out := hS.out
    size := hb.size
    io := ⟨hb.os, hb.output⟩
    keep := fun B h _ => ⟨hb.block B h, rfl⟩
    own := fun b L h => by obtain ⟨o, h, _⟩ := h; simp at h }

/-- A function without a body, at given arguments. -/
theorem ext_pure {f : FuncId} {vs : List Value} {v : Value} (h : ∀ w, (callFunc f vs.toArray).run P w = .ok (.value v) w) : Pure P f (vs.map AV.val) (.val v) := by
  refine ⟨fun w m β us hS hv => ?_⟩
  have : us = vs := by
    have key : ∀ (vs us : List Value), RelL m β (vs.map AV.val) us → us = vs := by
      intro vs
      induction vs with
      | nil => intro us h; simpa [RelL] using h
      | cons v vs ih => intro us h; simp only [List.map_cons, RelL, Rel] at h; obtain ⟨u, us', rfl, rfl, h⟩ := h; rw [ih us' h]
    exact key vs us hv
  subst this
  unfold CallsTo
  rw [h w]
  exact ⟨m, β, Mem.le_refl m, Plc.le_refl β, hS, by simp [Rel]⟩

/-- strings.Join. -/
theorem join_pure {f : FuncId} (hent : ∀ args w, (callFunc f args).run P w = .ok (.enter f args) w)
    (hJ : ∀ (bk o c : Nat) (xs : List ByteArray) (sep : ByteArray) (w : World), (∀ (j : Nat) x, xs[j]? = some x → w.cell? ⟨bk, o + j, none⟩ = some (.string x)) → bk < w.heap.size → xs.length ≤ 140737488355328 → xs.length ≤ c →
      (Lib.join (xs.map (·.data.toList)) sep.data.toList).length ≤ 140737488355328 →
      Calls P f #[.slice (some ⟨bk, o, none⟩) xs.length c, .string sep] w fun e w' => e = .returned (.string ⟨(Lib.join (xs.map (·.data.toList)) sep.data.toList).toArray⟩) ∧ Below w.heap.size w w')
    (hN : ∀ (a : Option Addr) (c : Nat) (sep : ByteArray) (w : World), Calls P f #[.slice a 0 c, .string sep] w fun e w' => e = .returned (.string ⟨#[]⟩) ∧ w' = w)
    (xs : List (List UInt8)) (sep : List UInt8) (hl : xs.length ≤ 140737488355328) (hlen : (Lib.join xs sep).length ≤ 140737488355328) : Pure P f [.sl 1 (xs.map fun x => [AV.s x]), .s sep] (.s (Lib.join xs sep)) := by
  refine pure_of_calls hent fun w m β vs hag hv => ⟨S (Lib.join xs sep), by simp [Rel], ?_⟩
  simp only [RelL, Rel] at hv
  obtain ⟨v, _, rfl, ⟨a, cap, rfl, hcap, hrows⟩, u, _, rfl, rfl, rfl⟩ := hv
  rw [List.length_map] at hcap
  by_cases hx : xs = []
  · subst hx
    refine (hN a cap ⟨sep.toArray⟩ w).mono fun e w' ⟨he, hw⟩ => ⟨he, hw ▸ Below.refl _ _⟩
  · have hxs : (xs.map fun x => [AV.s x]) ≠ [] := by simpa using hx
    obtain ⟨ad, c, el, fz, rfl, h1, h2, h3, h4⟩ := hrows.resolve_left hxs
    obtain ⟨B, off, sp⟩ := ad
    simp only at h1 h2 h3 h4; subst h1
    have hB := hag _ _ h2
    have hlt : B < w.heap.size := (Array.getElem?_eq_some_iff.1 hB).1
    have := hJ B off cap (xs.map fun x => ⟨x.toArray⟩) ⟨sep.toArray⟩ w (fun j x hj => by
      rw [List.getElem?_map] at hj
      cases hq : xs[j]? with
      | none => simp [hq] at hj
      | some y =>
        simp [hq] at hj; subst hj
        obtain ⟨_, hR⟩ := h4.get (i := j) (r := [AV.s y]) (by simp [hq])
        simp only [RelL, Rel, Nat.mul_one] at hR
        obtain ⟨v, vs', e, rfl, _⟩ := hR
        have h0 : (((c.toList.drop off).drop j).take 1)[0]? = some (S y) := by rw [e]; rfl
        rw [mid_get, if_pos (by omega), List.getElem?_drop, Nat.add_zero] at h0
        rw [cell_of hB, ← Array.getElem?_toList]; exact h0) hlt (by simpa using hl) (by simpa using hcap) (by simpa [Function.comp_def] using hlen)
    simpa [Function.comp_def, S] using this
end
end Go.Am
namespace Go.Am
/-- A law's call: it answers so, and nothing that was there is turned. -/
theorem law_of_pure {P : Program} {f : FuncId} {vs : List Value} {args : List AV} {b : Value} (h : Pure P f args (.val b)) (w : World)
    (hargs : RelL (allOf w) (fun _ => none) args vs) (hent : ∀ as w, (callFunc f as).run P w = .ok (.enter f as) w) :
    Calls P f vs.toArray w fun e w' => e = .returned b ∧ ∀ may, w.keptBut w' may := by
  have h2 := h.ct w (allOf w) (fun _ => none) vs State.forLent hargs
  unfold CallsTo at h2
  rw [hent] at h2
  refine h2.mono fun e w' ⟨v, he, m', β', _, _, hS, hr⟩ => ?_
  simp only [Rel] at hr
  subst hr
  refine ⟨he, fun may => ⟨hS.io.1, hS.io.2, fun i hi => ?_⟩⟩
  have hk : w'.heap[i]? = w.heap[i]? := (hS.keep i hi (not_owned_nil _)).1
  rw [hk]
  split <;> simp_all
end Go.Am
