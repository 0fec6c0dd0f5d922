/- The logical machine: part V2. -/
import Derived.Test.YtclgmpflmeopmaaV1
set_option linter.unusedVariables false
set_option linter.unusedSimpArgs false
namespace Dv
open Go

/-! ## The operations, without types -/
inductive Opd where
  | t (n : Nat)
  | c (x : DV)
  | g (n : Nat)
  | f (n : Nat)

inductive I where
  | mv (x : Opd)
  | pick (c x y : Opd)
  | new (et : TypeId) (row : List DV)
  | box (et : TypeId) (x : Opd)
  | build (zero : List DV) (parts : List (Nat × Nat × Opd))
  | bsl (et esz : Nat) (parts : List Opd)
  | ld1 (x : Opd)
  | ldn (size : Nat) (x : Opd)
  | st (size : Nat) (x y : Opd)
  | nck (x : Opd)
  | bin (op : BinOp) (x y : Opd)
  | eqb (neg : Bool) (x y : Opd)
  | not (x : Opd)
  | cvt (k : IntKind) (x : Opd)
  | fad (off : Nat) (x : Opd)
  | fld1 (off : Nat) (x : Opd)
  | fldn (off size : Nat) (x : Opd)
  | ixa (esz : Nat) (x i : Opd)
  | ixr (len esz : Nat) (x i : Opd)
  | ix1 (len : Nat) (x i : Opd)
  | ixs (x i : Opd)
  | len (x : Opd)
  | lens (x : Opd)
  | mkf (f : Fn) (first captured : List Opd)
  | ext (x : Opd) (i : Nat)
  | app (et esz bytes : Nat) (x y : Opd)
  | min (x y : Opd)
  | isnp (neg : Bool) (x : Opd)
  | isns (neg : Bool) (x : Opd)
  | eqs (neg : Bool) (ks : List Nat) (x y : Opd)
  | neg (x : Opd)
  | ixn (len esz : Nat) (x i : Opd)
  | sli (esz : Nat) (x : Opd) (lo hi mx : Option Opd)
  | sls (x : Opd) (lo hi : Option Opd)
  | call (f : Opd) (args : List Opd)

structure IOp where
  dst : Option Nat
  op : I
  guard : Option (Nat × Bool) := none
  pre : List Nat := []

def Opd.tmps : Opd → List Nat
  | .t n => [n]
  | _ => []

def Opd.otmps : Option Opd → List Nat
  | some x => x.tmps
  | none => []

def I.tmps : I → List Nat
  | .mv x => x.tmps
  | .pick c x y => c.tmps ++ x.tmps ++ y.tmps
  | .new _ _ => []
  | .box _ x => x.tmps
  | .build _ parts => parts.flatMap fun p => p.2.2.tmps
  | .bsl _ _ parts => parts.flatMap Opd.tmps
  | .ld1 x => x.tmps
  | .ldn _ x => x.tmps
  | .st _ x y => x.tmps ++ y.tmps
  | .nck x => x.tmps
  | .bin _ x y => x.tmps ++ y.tmps
  | .eqb _ x y => x.tmps ++ y.tmps
  | .not x => x.tmps
  | .cvt _ x => x.tmps
  | .fad _ x => x.tmps
  | .fld1 _ x => x.tmps
  | .fldn _ _ x => x.tmps
  | .ixa _ x i => x.tmps ++ i.tmps
  | .ixr _ _ x i => x.tmps ++ i.tmps
  | .ix1 _ x i => x.tmps ++ i.tmps
  | .ixs x i => x.tmps ++ i.tmps
  | .len x => x.tmps
  | .lens x => x.tmps
  | .mkf _ a b => a.flatMap Opd.tmps ++ b.flatMap Opd.tmps
  | .ext x _ => x.tmps
  | .app _ _ _ x y => x.tmps ++ y.tmps
  | .min x y => x.tmps ++ y.tmps
  | .isnp _ x => x.tmps
  | .isns _ x => x.tmps
  | .eqs _ _ x y => x.tmps ++ y.tmps
  | .neg x => x.tmps
  | .ixn _ _ x i => x.tmps ++ i.tmps
  | .sli _ x lo hi mx => x.tmps ++ Opd.otmps lo ++ Opd.otmps hi ++ Opd.otmps mx
  | .sls x lo hi => x.tmps ++ Opd.otmps lo ++ Opd.otmps hi
  | .call f args => f.tmps ++ args.flatMap Opd.tmps

/-! ## What an operation does -/
structure Eff where
  r : LV
  rd : List Nat := []
  wr : List (Nat × LObj) := []
  nw : List LObj := []

def LV.int (n : Int) : LV := .d (.val (.int .i64 n))
def LV.bool (b : Bool) : LV := .d (.val (.bool b))
def LV.undef : LV := .d (.val Go.undef)

/-- A value's cells, if each is surely one. -/
def LV.cells : LV → Option (List LV)
  | .d (.val v) => if v.oneCell' then some [.d (.val v)] else none
  | .d (.agg cs) => some (cs.map .d)
  | .d x => some [.d x]
  | .ptr o c => some [.ptr o c]
  | .rp o n e r c => some [.rp o n e r c]
  | .ip r c => some [.ip r c]
  | .sl o n e l k => some [.sl o n e l k]
  | .fn f a b => some [.fn f a b]
  | .ifc t v => some [.ifc t v]
  | .agg cs => some cs
  | .anyb => some [.anyb]
  | .top => none
  | .tup _ => none

mutual
def LV.toD : LV → Option DV
  | .d x => some x
  | .fn f a b => match LV.toDs a, LV.toDs b with
    | some a, some b => some (.fn f a b)
    | _, _ => none
  | .ifc t v => match LV.toD v with
    | some v => some (.ifc t v)
    | none => none
  | _ => none
def LV.toDs : List LV → Option (List DV)
  | [] => some []
  | x :: xs => match LV.toD x, LV.toDs xs with
    | some x, some xs => some (x :: xs)
    | _, _ => none
end

/-- Cells put in the place of others. -/
def splice {α : Type} (l : List α) (o : Nat) (xs : List α) : List α := l.take o ++ xs ++ l.drop (o + xs.length)

def andI (k : IntKind) (a b : Int) : Int := k.wrap (BitVec.ofInt k.bits a &&& BitVec.ofInt k.bits b).toNat
def orI (k : IntKind) (a b : Int) : Int := k.wrap (BitVec.ofInt k.bits a ||| BitVec.ofInt k.bits b).toNat
def xorI (k : IntKind) (a b : Int) : Int := k.wrap (BitVec.ofInt k.bits a ^^^ BitVec.ofInt k.bits b).toNat
def andNotI (k : IntKind) (a b : Int) : Int := k.wrap (BitVec.ofInt k.bits a &&& ~~~ BitVec.ofInt k.bits b).toNat
def shlI (k : IntKind) (a b : Int) : Int := k.wrap (a * 2 ^ (Nat.min b.toNat k.bits))
def shrI (k : IntKind) (a b : Int) : Int := a.fdiv (2 ^ (Nat.min b.toNat k.bits))

def binV (op : BinOp) : Value → Value → Option Value
  | .int k a, .int k' b =>
    match op with
    | .add => if k = k' then some (.int k (k.wrap (a + b))) else none
    | .sub => if k = k' then some (.int k (k.wrap (a - b))) else none
    | .mul => if k = k' then some (.int k (k.wrap (a * b))) else none
    | .quo => if k = k' ∧ b ≠ 0 then some (.int k (k.wrap (a.tdiv b))) else none
    | .rem => if k = k' ∧ b ≠ 0 then some (.int k (a.tmod b)) else none
    | .and => if k = k' then some (.int k (andI k a b)) else none
    | .or => if k = k' then some (.int k (orI k a b)) else none
    | .xor => if k = k' then some (.int k (xorI k a b)) else none
    | .andNot => if k = k' then some (.int k (andNotI k a b)) else none
    | .shl => if 0 ≤ b then some (.int k (shlI k a b)) else none
    | .shr => if 0 ≤ b then some (.int k (shrI k a b)) else none
    | .eql => if k = k' then some (.bool (a == b)) else none
    | .neq => if k = k' then some (.bool (a != b)) else none
    | .lss => if k = k' then some (.bool (decide (a < b))) else none
    | .leq => if k = k' then some (.bool (decide (a ≤ b))) else none
    | .gtr => if k = k' then some (.bool (decide (a > b))) else none
    | .geq => if k = k' then some (.bool (decide (a ≥ b))) else none
  | .string a, .string b =>
    match op with
    | .add => if a.size + b.size ≤ 9223372036854775807 then some (.string (a ++ b)) else none
    | .eql => some (.bool (a.toList == b.toList))
    | .neq => some (.bool (!(a.toList == b.toList)))
    | .lss => some (.bool (Op.bytesLess a.toList b.toList))
    | .leq => some (.bool (Op.bytesLess a.toList b.toList || a.toList == b.toList))
    | .gtr => some (.bool (!(Op.bytesLess a.toList b.toList || a.toList == b.toList)))
    | .geq => some (.bool (!(Op.bytesLess a.toList b.toList)))
    | _ => none
  | _, _ => none

def eqV : Nat → Value → Value → Option Bool
  | 0, .int k a, .int k' b => if k = k' then some (a == b) else none
  | 1, .bool a, .bool b => some (a == b)
  | 2, .string a, .string b => some (a.toList == b.toList)
  | _, _, _ => none
def eqCells : List Nat → List LV → List LV → Option Bool
  | [], [], [] => some true
  | k :: ks, .d (.val a) :: xs, .d (.val b) :: ys => match eqV k a b, eqCells ks xs ys with
    | some p, some q => some (p && q)
    | _, _ => none
  | _, _, _ => none

/-- A bound of a slice expression. -/
def boundV (dflt : Nat) : Option LV → Option Nat
  | none => some dflt
  | some (.d (.val (.int _ i))) => if 0 ≤ i then some i.toNat else none
  | some _ => none

section
variable (G : Nat → Option (List DV)) (get : Nat → LV) (obj : Nat → OSt) (base : Nat)

def Opd.ev : Opd → LV
  | .t n => get n
  | .c x => .d x
  | .g n => match G n with | some row => .ip row 0 | none => .top
  | .f n => .d (.fn (.func n) [] [])

/-- The parts, laid into the cells. -/
def fillL : List LV → List (Nat × Nat × Opd) → Option (List LV)
  | cells, [] => some cells
  | cells, (off, size, x) :: rest => match (x.ev G get).cells with
    | some cs => if cs.length = size ∧ off + cs.length ≤ cells.length then fillL (splice cells off cs) rest else none
    | none => none

/-- Rows out of parts, each of esz data cells. -/
def rowsOf (esz : Nat) : List Opd → Option (List (List DV))
  | [] => some []
  | x :: xs => match (x.ev G get).cells with
    | some cs => match LV.toDs cs with
      | some ds => if ds.length = esz then (match rowsOf esz xs with | some r => some (ds :: r) | none => none) else none
      | none => none
    | none => none

/-- What a slice yields: its rows. -/
def srcRows (esz : Nat) : LV → Option (List (List DV) × List Nat)
  | .d (.lst e rows) => if e = esz then some (rows, []) else none
  | .d (.val (.slice none 0 0)) => some ([], [])
  | .d (.val (.string s)) => if esz = 1 then some (s.data.toList.map fun b => [.val (.int .u8 b.toNat)], []) else none
  | .sl o n e lo len => match obj o with
    | .live (.dat _ e' rows) => if e = esz ∧ e' = esz ∧ n = rows.length ∧ lo + len ≤ n then some ((rows.drop lo).take len, [o]) else none
    | .live (.frz _ e' rows) => if e = esz ∧ e' = esz ∧ n = rows.length ∧ lo + len ≤ n then some ((rows.drop lo).take len, [o]) else none
    | _ => none
  | _ => none

def effF : I → Option Eff
  | .mv x => some { r := x.ev G get }
  | .pick c x y => match c.ev G get with
    | .d (.val (.bool b)) => some { r := bif b then x.ev G get else y.ev G get }
    | _ => none
  | .new et row => some { r := .ptr base 0, nw := [.box et (row.map .d)] }
  | .box et x => match (x.ev G get).cells with
    | some cs => some { r := .ptr base 0, nw := [.box et cs] }
    | none => none
  | .build zero parts => match fillL G get (zero.map .d) parts with
    | some cs => some { r := .agg cs }
    | none => none
  | .bsl et esz parts => match rowsOf G get esz parts with
    | some rows => some { r := .sl base rows.length esz 0 rows.length, nw := [.dat et esz rows] }
    | none => none
  | .ld1 x => match x.ev G get with
    | .ptr o col => match obj o with
      | .live (.box et cells) => match cells[col]? with
        | some v => some { r := v, rd := [o] }
        | none => none
      | _ => none
    | .ip row col => match row[col]? with
      | some v => some { r := .d v }
      | none => none
    | .rp o n esz row col => match obj o with
      | .live (.dat et esz' rows) => if esz = esz' ∧ n = rows.length then (match rows[row]? with
        | some r => match r[col]? with
          | some v => some { r := .d v, rd := [o] }
          | none => none
        | none => none) else none
      | _ => none
    | _ => none
  | .ldn size x => match x.ev G get with
    | .ptr o col => match obj o with
      | .live (.box et cells) => if ((cells.drop col).take size).length = size then some { r := .agg ((cells.drop col).take size), rd := [o] } else none
      | _ => none
    | .ip row col => if ((row.drop col).take size).length = size then some { r := .agg (((row.drop col).take size).map .d) } else none
    | .rp o n esz row col => match obj o with
      | .live (.dat et esz' rows) => if esz = esz' ∧ n = rows.length then (match rows[row]? with
        | some r => if ((r.drop col).take size).length = size then some { r := .agg (((r.drop col).take size).map .d), rd := [o] } else none
        | none => none) else none
      | _ => none
    | _ => none
  | .st size x y => match (y.ev G get).cells with
    | some cs => if cs.length = size then (match x.ev G get with
      | .ptr o col => match obj o with
        | .live (.box et cells) => if col + cs.length ≤ cells.length then some { r := .undef, rd := [o], wr := [(o, .box et (splice cells col cs))] } else none
        | _ => none
      | .rp o n esz row col => match obj o with
        | .live (.dat et esz' rows) => if esz = esz' ∧ n = rows.length then (match LV.toDs cs with
          | some ds => match rows[row]? with
            | some r => if col + ds.length ≤ r.length then some { r := .undef, rd := [o], wr := [(o, .dat et esz' (rows.set row (splice r col ds)))] } else none
            | none => none
          | none => none) else none
        | _ => none
      | _ => none) else none
    | none => none
  | .nck x => match x.ev G get with
    | .ptr o col => some { r := .ptr o col }
    | .rp o n e r c => some { r := .rp o n e r c }
    | .ip r c => some { r := .ip r c }
    | _ => none
  | .bin op x y => match x.ev G get, y.ev G get with
    | .d (.val a), .d (.val b) => match binV op a b with
      | some v => some { r := .d (.val v) }
      | none => none
    | _, _ => none
  | .eqb neg x y => match x.ev G get, y.ev G get with
    | .d (.val (.bool a)), .d (.val (.bool b)) => some { r := .bool (bif neg then !(a == b) else a == b) }
    | _, _ => none
  | .not x => match x.ev G get with
    | .d (.val (.bool a)) => some { r := .bool (!a) }
    | _ => none
  | .cvt k x => match x.ev G get with
    | .d (.val (.int _ a)) => some { r := .d (.val (.int k (k.wrap a))) }
    | _ => none
  | .fad off x => match x.ev G get with
    | .ptr o col => some { r := .ptr o (col + off) }
    | .rp o n e r c => some { r := .rp o n e r (c + off) }
    | .ip r c => some { r := .ip r (c + off) }
    | _ => none
  | .fld1 off x => match x.ev G get with
    | .agg cs => match cs[off]? with
      | some v => some { r := v }
      | none => none
    | _ => none
  | .fldn off size x => match x.ev G get with
    | .agg cs => if ((cs.drop off).take size).length = size then some { r := .agg ((cs.drop off).take size) } else none
    | _ => none
  | .ixa esz x i => match i.ev G get with
    | .d (.val (.int _ i)) => if 0 ≤ i then (match x.ev G get with
      | .d (.lst e rows) => if e = esz then (match rows[i.toNat]? with
        | some r => some { r := .ip r 0 }
        | none => none) else none
      | .sl o n e lo len => match obj o with
        | .live (.frz et e' rows) => if e = esz ∧ e' = esz ∧ n = rows.length ∧ i.toNat < len then (match rows[lo + i.toNat]? with
          | some r => some { r := .ip r 0, rd := [o] }
          | none => none) else none
        | _ => if e = esz ∧ i.toNat < len then some { r := .rp o n e (lo + i.toNat) 0, rd := [o] } else none
      | _ => none) else none
    | _ => none
  | .ixr len esz x i => match i.ev G get with
    | .d (.val (.int _ i)) => if 0 ≤ i ∧ i.toNat < len then (match x.ev G get with
      | .ptr o col => some { r := .ptr o (col + i.toNat * esz) }
      | .rp o n e r c => some { r := .rp o n e r (c + i.toNat * esz) }
      | .ip r c => some { r := .ip r (c + i.toNat * esz) }
      | _ => none) else none
    | _ => none
  | .ix1 len x i => match i.ev G get with
    | .d (.val (.int _ i)) => if 0 ≤ i ∧ i.toNat < len then (match x.ev G get with
      | .agg cs => match cs[i.toNat]? with
        | some v => some { r := v }
        | none => none
      | _ => none) else none
    | _ => none
  | .ixs x i => match i.ev G get, x.ev G get with
    | .d (.val (.int _ i)), .d (.val (.string s)) => if 0 ≤ i then (match s.data.toList[i.toNat]? with
      | some b => some { r := .d (.val (.int .u8 b.toNat)) }
      | none => none) else none
    | _, _ => none
  | .len x => match x.ev G get with
    | .d (.lst e rows) => some { r := .int rows.length }
    | .d (.val (.slice none 0 0)) => some { r := .int 0 }
    | .sl o n e lo len => some { r := .int len }
    | _ => none
  | .lens x => match x.ev G get with
    | .d (.val (.string s)) => some { r := .int s.size }
    | _ => none
  | .mkf f a b => some { r := .fn f (a.map (·.ev G get)) (b.map (·.ev G get)) }
  | .ext x i => match x.ev G get with
    | .tup vs => match vs[i]? with
      | some v => some { r := v }
      | none => none
    | _ => none
  | .app et esz bytes x y => match srcRows obj esz (y.ev G get) with
    | some (new, rd) => (match x.ev G get with
      | .d (.val (.slice none 0 0)) => if new.length * bytes ≤ 70368744177664 then
          some { r := .sl base new.length esz 0 new.length, rd := rd, nw := [.dat et esz new] } else none
      | .sl o n e lo len => match obj o with
        | .live (.dat et' e' rows) => if et' = et ∧ e = esz ∧ e' = esz ∧ n = rows.length ∧ lo = 0 ∧ len = n ∧ (rows ++ new).length * bytes ≤ 70368744177664 then
          some { r := .sl o (rows.length + new.length) esz 0 (rows.length + new.length), rd := o :: rd, wr := [(o, .dat et' esz (rows ++ new))] } else none
        | _ => none
      | _ => none)
    | none => none
  | .min x y => match x.ev G get, y.ev G get with
    | .d (.val (.int k a)), .d (.val (.int _ b)) => some { r := .d (.val (.int k (if b < a then b else a))) }
    | _, _ => none
  | .isnp neg x => match x.ev G get with
    | .ptr _ _ => some { r := .bool neg }
    | .rp _ _ _ _ _ => some { r := .bool neg }
    | .ip _ _ => some { r := .bool neg }
    | .d (.val (.pointer none)) => some { r := .bool !neg }
    | _ => none
  | .isns neg x => match x.ev G get with
    | .d (.val (.slice none 0 0)) => some { r := .bool !neg }
    | .d (.lst _ rows) => some { r := if rows.length = 0 then .anyb else .bool neg }
    | .sl _ _ _ _ len => some { r := if len = 0 then .anyb else .bool neg }
    | _ => none
  | .eqs neg ks x y => match x.ev G get, y.ev G get with
    | .agg xs, .agg ys => match eqCells ks xs ys with
      | some b => some { r := .bool (bif neg then !b else b) }
      | none => none
    | _, _ => none
  | .neg x => match x.ev G get with
    | .d (.val (.int k a)) => some { r := .d (.val (.int k (k.wrap (0 - a)))) }
    | _ => none
  | .ixn len esz x i => match i.ev G get with
    | .d (.val (.int _ i)) => if 0 ≤ i ∧ i.toNat < len then (match x.ev G get with
      | .agg cs => if ((cs.drop (i.toNat * esz)).take esz).length = esz then some { r := .agg ((cs.drop (i.toNat * esz)).take esz) } else none
      | _ => none) else none
    | _ => none
  | .sli esz x lo hi mx => match x.ev G get with
    | .d (.lst e rows) => match boundV 0 (lo.map (·.ev G get)), boundV rows.length (hi.map (·.ev G get)), boundV rows.length (mx.map (·.ev G get)) with
      | some l, some h, some m => if e = esz ∧ l ≤ h ∧ h ≤ m ∧ m ≤ rows.length then some { r := .d (.lst esz ((rows.drop l).take (h - l))) } else none
      | _, _, _ => none
    | .sl o n e slo len => match boundV 0 (lo.map (·.ev G get)), boundV len (hi.map (·.ev G get)), boundV len (mx.map (·.ev G get)) with
      | some l, some h, some m => if e = esz ∧ l ≤ h ∧ h ≤ m ∧ m ≤ len then some { r := .sl o n e (slo + l) (h - l) } else none
      | _, _, _ => none
    | .d (.val (.slice none 0 0)) => match boundV 0 (lo.map (·.ev G get)), boundV 0 (hi.map (·.ev G get)), boundV 0 (mx.map (·.ev G get)) with
      | some l, some h, some m => if l ≤ h ∧ h ≤ m ∧ m ≤ 0 then some { r := .d (.val (.slice none 0 0)) } else none
      | _, _, _ => none
    | _ => none
  | .sls x lo hi => match x.ev G get with
    | .d (.val (.string s)) => match boundV 0 (lo.map (·.ev G get)), boundV s.size (hi.map (·.ev G get)) with
      | some l, some h => if l ≤ h ∧ h ≤ s.size then some { r := .d (.val (.string (s.extract l h))) } else none
      | _, _ => none
    | _ => none
  | .call _ _ => none
end
end Dv
