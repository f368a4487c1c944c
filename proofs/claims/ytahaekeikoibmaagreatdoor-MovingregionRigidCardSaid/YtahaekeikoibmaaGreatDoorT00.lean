/- Helpers for the proof: no statement of its own. -/
import Derived.Orders
import Derived.WalkKit
import Derived.Below
import Derived.Laws.AppendOwn
import Derived.Laws.CopyRow
import Derived.Laws.Rows
import Derived.Laws.StructEq
import Derived.Deep.MidRow
import Derived.CallsIn
import Derived.OrdersIn
import Derived.LoopNIn
import Derived.RangeFuncIn
import Derived.Scope
import Derived.Lib.Strings
import Derived.Lib.AppendStr
import Derived.Laws.BytesArg
set_option linter.unusedVariables false
set_option linter.unusedSimpArgs false
set_option linter.unnecessarySimpa false
set_option linter.deprecated false
namespace Go.Vse
inductive IV where
 | v (x : Value)
 | sl (n sz : Nat) (el : Nat → List IV)
 /-- a map of known entries, that is no more turned -/
 | mp (es : List (Int × Value))
 /-- the same, where the elements are abstract -/
 | mq (es : List (Int × IV))
inductive AV where
 | c (x : IV)
 | agg (l : List AV)
 | tup (l : List AV)
 | ptr (b off : Nat)
 | eptr (b k j sz : Nat)
 | msl (b n sz : Nat)
 /-- one's own slice, from an element on -/
 | ssl (b k n sz : Nat)
 | iptr (l : List IV)
 | fn (f : FuncId) (cap : List AV)
 /-- one's own map -/
 | omap (b : Nat)
 | any
inductive Ent where
 | cells (l : List AV) (t : TypeId)
 | arr (n sz : Nat) (el : Nat → List IV) (t : TypeId)
 /-- a map with ints as keys -/
 | mapE (es : List (Int × IV))
 /-- an iterator over a map that is no more turned, and which entries it has met -/
 | itE (es : List (Int × IV)) (seen : List Nat)
mutual
def noPtr : AV → Bool
 | .c _ => true
 | .agg l => noPtrs l
 | .tup l => noPtrs l
 | .iptr _ => true
 | .fn _ l => noPtrs l
 | _ => false
def noPtrs : List AV → Bool
 | [] => true
 | x :: l => noPtr x && noPtrs l
end
def cellOk : AV → Bool
 | .c (.v x) => x.oneCell'
 | .c (.sl _ _ _) => true
 | .c (.mp _) => true
 | .c (.mq _) => true
 | .omap _ => true
 | .ptr _ _ => true
 | .eptr _ _ _ _ => true
 | .msl _ _ _ => true
 | .ssl _ _ _ _ => true
 | .iptr _ => true
 | .fn _ _ => true
 | _ => false
abbrev Mem := Nat → Option Ent
def Mem.set (m : Mem) (k : Nat) (e : Option Ent) : Mem := fun j => bif Nat.beq j k then e else m j
structure St where
 tm : List AV
 mem : Mem
 nx : Nat
structure Eff where
 val : AV
 upd : List (Nat × Option Ent) := []
 conds : List Bool := []
 reads : List Nat := []
def applyUpd (m : Mem) : List (Nat × Option Ent) → Mem
 | [] => m
 | (k, e) :: l => applyUpd (m.set k e) l
def putTm (tm : List AV) (d : Option Tmp) (v : AV) : List AV :=
 match d with
 | some d => tm.set d v
 | none => tm
def St.apply (S : St) (d : Option Tmp) (r : Eff) : St := { S with tm := putTm S.tm d r.val, mem := applyUpd S.mem r.upd }
inductive Tr (α : Type) where
 | ret (a : α)
 | ite (c : Bool) (t e : Tr α)
 | need (p : Bool) (t : Tr α)
 /-- either may happen -/
 | both (a b : Tr α)
 | fail (why : String)
namespace Tr
def bind {α β : Type} : Tr α → (α → Tr β) → Tr β
 | .ret a, f => f a
 | .ite c t e, f => .ite c (t.bind f) (e.bind f)
 | .need p t, f => .need p (t.bind f)
 | .both a b, f => .both (a.bind f) (b.bind f)
 | .fail w, _ => .fail w
def sat {α : Type} (Q : α → Prop) : Tr α → Prop
 | .ret a => Q a
 | .ite c t e => (c = true → t.sat Q) ∧ (c = false → e.sat Q)
 | .need p t => p ∧ (p → t.sat Q)
 | .both a b => a.sat Q ∧ b.sat Q
 | .fail _ => False
def needs {α : Type} : List Bool → Tr α → Tr α
 | [], t => t
 | p :: l, t => .need p (needs l t)
end Tr
def ofCell (v : Value) : AV := .c (.v v)
def ofValue : Value → AV
 | .agg cs => .agg (cs.toList.map ofCell)
 | v => ofCell v
def cellsOf (v : Value) : List AV := v.cells.toList.map ofCell
def evalA (tm : List AV) : Operand → AV
 | .tmp t => tm.getD t .any
 | .const v => ofValue v
 | .global g => .c (.v (.pointer (some ⟨g, 0, none⟩)))
 | .func f => .c (.v (.func (.func f) #[] #[]))
def cellsA : AV → List AV
 | .agg l => l
 | a => [a]
def isAggP (P : Program) (t : TypeId) : Bool :=
 match P.underlying t with
 | some (.struct _) | some (.array _ _) => true
 | _ => false
def sizeP (P : Program) (t : TypeId) : Option Nat := (P.info? t).map (·.size)
def zeroP (P : Program) (t : TypeId) : Option Value := (P.info? t).bind (·.zero)
def rowA (n : Option Nat) (l : List AV) (off : Nat) : Option AV :=
 match n with
 | some n => bif Nat.ble (off + n) l.length then some (.agg ((l.drop off).take n)) else none
 | none => none
def partA (P : Program) (t : TypeId) (l : List AV) (off : Nat) : Option AV :=
 match P.underlying t with
 | some (.struct _) => rowA (sizeP P t) l off
 | some (.array _ _) => rowA (sizeP P t) l off
 | some _ => l[off]?
 | none => none
def intA (k : IntKind) (n : Int) : AV := .c (.v (.int k n))
def boolA (b : Bool) : AV := .c (.v (.bool b))
def intBin (op : BinOp) (k : IntKind) (a b : Int) : Option Eff :=
 match op with
 | .add => some { val := intA k (k.wrap (a + b)) }
 | .sub => some { val := intA k (k.wrap (a - b)) }
 | .mul => some { val := intA k (k.wrap (a * b)) }
 | .quo => some { val := intA k (k.wrap (a.tdiv b)), conds := [b ≠ 0] }
 | .rem => some { val := intA k (a.tmod b), conds := [b ≠ 0] }
 | .and => some { val := intA k (k.wrap (BitVec.ofInt k.bits a &&& BitVec.ofInt k.bits b).toNat) }
 | .or => some { val := intA k (k.wrap (BitVec.ofInt k.bits a ||| BitVec.ofInt k.bits b).toNat) }
 | .xor => some { val := intA k (k.wrap (BitVec.ofInt k.bits a ^^^ BitVec.ofInt k.bits b).toNat) }
 | .andNot => some { val := intA k (k.wrap (BitVec.ofInt k.bits a &&& ~~~ BitVec.ofInt k.bits b).toNat) }
 | .eql => some { val := boolA (a == b) }
 | .neq => some { val := boolA (a != b) }
 | .lss => some { val := boolA (decide (a < b)) }
 | .leq => some { val := boolA (decide (a ≤ b)) }
 | .gtr => some { val := boolA (decide (a > b)) }
 | .geq => some { val := boolA (decide (a ≥ b)) }
 | _ => none
def shiftA (op : BinOp) (k : IntKind) (a b : Int) : Option Eff :=
 match op with
 | .shl => some { val := intA k (k.wrap (a * 2 ^ (min b.toNat k.bits))), conds := [¬ b < 0] }
 | .shr => some { val := intA k (a.fdiv (2 ^ (min b.toNat k.bits))), conds := [¬ b < 0] }
 | _ => none
def strBin (op : BinOp) (a b : ByteArray) : Option Eff :=
 let eq := a.data.toList == b.data.toList
 let lt := Op.bytesLess a.data.toList b.data.toList
 match op with
 | .add => some { val := .c (.v (.string (a ++ b))), conds := [a.size + b.size ≤ 9223372036854775807] }
 | .eql => some { val := boolA eq }
 | .neq => some { val := boolA (!eq) }
 | .lss => some { val := boolA lt }
 | .leq => some { val := boolA (lt || eq) }
 | .gtr => some { val := boolA (!(lt || eq)) }
 | .geq => some { val := boolA (!lt) }
 | _ => none
def andAll : List Bool → Bool
 | [] => true
 | [b] => b
 | b :: l => b && andAll l
def eqA (P : Program) : Nat → TypeId → AV → AV → Option Bool
 | 0, _, _, _ => none
 | d + 1, t, x, y =>
  match P.underlying t, x, y with
  | some .bool, .c (.v (.bool a)), .c (.v (.bool b)) => some (a == b)
  | some (.int _), .c (.v (.int k a)), .c (.v (.int k' b)) => if k = k' then some (a == b) else none
  | some .string, .c (.v (.string a)), .c (.v (.string b)) => some (a.data.toList == b.data.toList)
  | some (.struct fs), .agg l, .agg m =>
   bif P.stoodInHeld t then none else
   (fs.toList.mapM fun f : Field => bif f.name == "_" then none else
    match partA P f.type l f.offset, partA P f.type m f.offset with
    | some a, some b => eqA P d f.type a b
    | _, _ => none).map andAll
  | some (.array n e), .agg l, .agg m =>
   match sizeP P e with
   | some sz =>
    ((List.range n).mapM fun i =>
     match partA P e l (i * sz), partA P e m (i * sz) with
     | some a, some b => eqA P d e a b
     | _, _ => none).map andAll
   | none => none
  | _, _, _ => none
def aggEq (P : Program) (op : BinOp) (t : TypeId) (l m : List AV) : Option Eff :=
 bif P.eqGuardType P.depth t then none else
  match eqA P 8 t (.agg l) (.agg m), op with
  | some b, .eql => some { val := boolA b }
  | some b, .neq => some { val := boolA (!b) }
  | _, _ => none
def ptrCmp (P : Program) (op : BinOp) (t : TypeId) (same : Bool) : Option Eff :=
 match op, P.underlying t with
 | .eql, some (.pointer _) => some { val := boolA same }
 | .neq, some (.pointer _) => some { val := boolA (!same) }
 | _, _ => none
def slCmp (P : Program) (op : BinOp) (t : TypeId) (n : Nat) : Option Eff :=
 match op, P.underlying t with
 | .eql, some (.slice _) => some { val := boolA false, conds := [decide (n ≠ 0)] }
 | .neq, some (.slice _) => some { val := boolA true, conds := [decide (n ≠ 0)] }
 | _, _ => none
def slLit (P : Program) (op : BinOp) (t : TypeId) (same : Bool) : Option Eff :=
 match op, P.underlying t with
 | .eql, some (.slice _) => some { val := boolA same }
 | .neq, some (.slice _) => some { val := boolA (!same) }
 | _, _ => none
def binA (P : Program) (op : BinOp) (t : TypeId) (x y : AV) : Option Eff :=
 match x, y with
 | .c (.v (.int k a)), .c (.v (.int k' b)) =>
  match op with
  | .shl | .shr => shiftA op k a b
  | _ => if k = k' then intBin op k a b else none
 | .c (.v (.string a)), .c (.v (.string b)) => strBin op a b
 | .c (.v (.bool a)), .c (.v (.bool b)) =>
  match op, P.underlying t with
  | .eql, some .bool => some { val := boolA (a == b) }
  | .neq, some .bool => some { val := boolA (!(a == b)) }
  | _, _ => none
 | .agg l, .agg m => aggEq P op t l m
 | .c (.v (.pointer none)), .c (.v (.pointer none)) => ptrCmp P op t true
 | .ptr _ _, .c (.v (.pointer none)) => ptrCmp P op t false
 | .eptr _ _ _ _, .c (.v (.pointer none)) => ptrCmp P op t false
 | .iptr _, .c (.v (.pointer none)) => ptrCmp P op t false
 | .c (.sl n _ _), .c (.v (.slice none 0 0)) => slCmp P op t n
 | .c (.v (.slice none 0 0)), .c (.v (.slice none 0 0)) => slLit P op t true
 | .c (.v (.slice (some _) _ _)), .c (.v (.slice none 0 0)) => slLit P op t false
 | _, _ => none
def unA (op : UnOp) (x : AV) : Option Eff :=
 match op, x with
 | .not, .c (.v (.bool b)) => some { val := boolA (!b) }
 | .neg, .c (.v (.int k n)) => some { val := intA k (k.wrap (0 - n)) }
 | .xor, .c (.v (.int k n)) => some { val := intA k (k.wrap (BitVec.ofInt k.bits (if k.signed then -1 else k.max) ^^^ BitVec.ofInt k.bits n).toNat) }
 | _, _ => none
def convA (P : Program) (src dst : TypeId) (x : AV) : Option Eff :=
 match P.underlying src, P.underlying dst, x with
 | some _, some (.int k), .c (.v (.int _ n)) => some { val := intA k (k.wrap n) }
 | some _, some .string, .c (.v (.string s)) => some { val := .c (.v (.string s)) }
 | _, _, _ => none
def placesA (P : Program) (fs : Array Field) : Option (List (Nat × Nat)) := fs.toList.mapM (fun f => (P.info? f.type).map fun i => (f.offset, i.size))
def fillA (places : List (Nat × Nat)) : List AV → List (Nat × AV) → Option (List AV)
 | cells, [] => some cells
 | cells, (i, x) :: rest =>
  match places[i]? with
  | none => none
  | some (off, n) =>
   let l := cellsA x
   bif Nat.beq l.length n && Nat.ble (off + n) cells.length && l.all cellOk then fillA places (cells.take off ++ l ++ cells.drop (off + n)) rest else none
def buildA (P : Program) (t : TypeId) (parts : List (Nat × AV)) : Option Eff :=
 match P.underlying t, zeroP P t with
 | some (.struct fs), some z =>
  match placesA P fs with
  | some places =>
   match fillA places (cellsOf z) parts with
   | some l => some { val := .agg l }
   | none => none
  | none => none
 | some (.array n e), some z =>
  match sizeP P e with
  | some sz =>
   match fillA ((List.range n).map fun i => (i * sz, sz)) (cellsOf z) parts with
   | some l => some { val := .agg l }
   | none => none
  | none => none
 | _, _ => none
def newEnt (slot : Nat) (t : TypeId) (l : List AV) : Option Eff :=
 some { val := .ptr slot 0, upd := [(slot, some (.cells l t))] }
def zeroLike : Value → Value → Bool
 | .int .u8 0, .int .u8 0 => true
 | .int .i64 0, .int .i64 0 => true
 | .bool false, .bool false => true
 | .slice none 0 0, .slice none 0 0 => true
 | _, _ => false
def allocArr (slot : Nat) (t : TypeId) (n sz : Nat) (ze z : Value) : Option Eff :=
 bif Nat.beq z.cells.toList.length (n * sz) && ze.cells.toList.all (·.oneCell') && (List.range (n * sz)).all (fun j => zeroLike (z.cells.toList.getD j undef) (ze.cells.toList.getD (j % sz) undef)) then
   some { val := .eptr slot 0 0 sz, upd := [(slot, some (.arr n sz (fun _ => ze.cells.toList.map .v) t))] }
 else none
def byteP (P : Program) (e : TypeId) : Bool :=
 match P.underlying e with
 | some (.int .u8) => true
 | _ => false
def ivs (l : List IV) : List AV := l.map .c
def toIV : AV → Option IV
 | .c x => some x
 | _ => none
def loadA (P : Program) (m : Mem) (t : TypeId) (x : AV) : Option Eff :=
 match x with
 | .ptr b off =>
  match m b with
  | some (.cells l _) =>
   match partA P t l off with
   | some v => some { val := v, reads := [b] }
   | none => none
  | _ => none
 | .eptr b k j sz =>
  match m b with
  | some (.arr n sz' el _) =>
   bif Nat.beq sz sz' then
    match partA P t (ivs (el k)) j with
    | some v => some { val := v, conds := [k < n], reads := [b] }
    | none => none
   else none
  | _ => none
 | .iptr l =>
  match partA P t (ivs l) 0 with
  | some v => some { val := v }
  | none => none
 | .c (.v (.pointer (some _))) =>
  match sizeP P t, P.underlying t with
  | some 0, some (.struct _) => some { val := .agg [] }
  | _, _ => none
 | _ => none
def spliceE (el : Nat → List IV) (k j : Nat) (c : List IV) : Nat → List IV := fun i =>
 if i = k then (el i).take j ++ c ++ (el i).drop (j + c.length) else el i
def storeB (P : Program) (m : Mem) (t : TypeId) (x v : AV) : Option Eff :=
 match x with
 | .ptr b off =>
  match m b, sizeP P t with
  | some (.cells l e), some n =>
   let c := cellsA v
   bif Nat.beq c.length n && Nat.ble (off + n) l.length && c.all cellOk then
    some { val := .c (.v undef), upd := [(b, some (.cells (l.take off ++ c ++ l.drop (off + n)) e))], reads := [b] }
   else none
  | _, _ => none
 | .eptr b k j sz =>
  match m b, sizeP P t with
  | some (.arr n sz' el e), some p =>
   match (cellsA v).mapM toIV with
   | some c =>
    bif Nat.beq sz sz' && Nat.beq c.length p && Nat.ble (j + p) sz && (cellsA v).all cellOk then
     some { val := .c (.v undef), upd := [(b, some (.arr n sz (spliceE el k j c) e))], conds := [k < n], reads := [b] }
    else none
   | none => none
  | _, _ => none
 | _ => none
def storeA (P : Program) (m : Mem) (t : TypeId) (x v : AV) : Option Eff :=
 match x, v with
 | .eptr b k j sz, .msl c n s =>
  match m c with
  | some (.arr n' s' el _) =>
   bif Nat.beq s s' && !Nat.beq b c then
    (storeB P (m.set c none) t (.eptr b k j sz) (.c (.sl n s el))).map fun r => { r with upd := (c, none) :: r.upd, conds := decide (n ≤ n') :: r.conds, reads := c :: r.reads }
   else none
  | _ => none
 | x, v => storeB P m t x v
def fieldAddrA (P : Program) (t : TypeId) (x : AV) (f : Nat) : Option Eff :=
 match P.underlying t with
 | some (.struct fs) =>
  match fs[f]? with
  | some f =>
   match sizeP P f.type with
   | some (_ + 1) =>
    match x with
    | .ptr b off => some { val := .ptr b (off + f.offset) }
    | .eptr b k j sz => some { val := .eptr b k (j + f.offset) sz }
    | .iptr l => bif Nat.blt f.offset l.length then some { val := .iptr (l.drop f.offset) } else none
    | _ => none
   | _ => none
  | none => none
 | _ => none
def fieldA (P : Program) (t : TypeId) (x : AV) (f : Nat) : Option Eff :=
 match P.underlying t, x with
 | some (.struct fs), .agg l =>
  match fs[f]? with
  | some f => (partA P f.type l f.offset).map fun v => { val := v }
  | none => none
 | _, _ => none
abbrev Spec := Nat → Mem → List AV → Option Eff
mutual
/-- a value as it is seen from outside: one's own slices as what they hold -/
def viewA (m : Mem) : AV → AV × List Bool
 | .msl b n sz =>
  match m b with
  | some (.arr n' sz' el _) => bif Nat.beq sz sz' then (.c (.sl n sz el), [n ≤ n']) else (.msl b n sz, [])
  | _ => (.msl b n sz, [])
 | .omap b =>
  match m b with
  | some (.mapE es) => (.c (.mq es), [])
  | _ => (.omap b, [])
 | .agg l => (.agg (viewL m l).1, (viewL m l).2)
 | .tup l => (.tup (viewL m l).1, (viewL m l).2)
 | x => (x, [])
def viewL (m : Mem) : List AV → List AV × List Bool
 | [] => ([], [])
 | x :: l => ((viewA m x).1 :: (viewL m l).1, (viewA m x).2 ++ (viewL m l).2)
end
mutual
/-- the slots of one's own slices in a value -/
def idsA : AV → List Nat
 | .msl b _ _ => [b]
 | .omap b => [b]
 | .agg l => idsL l
 | .tup l => idsL l
 | _ => []
def idsL : List AV → List Nat
 | [] => []
 | x :: l => idsA x ++ idsL l
end
mutual
/-- no slice in it -/
def plainA : AV → Bool
 | .c (.v _) => true
 | .agg l => plainL l
 | .tup l => plainL l
 | _ => false
def plainL : List AV → Bool
 | [] => true
 | x :: l => plainA x && plainL l
end
def pureSpec (s : List AV → Option (AV × List Bool)) : Spec := fun _ m args =>
 bif noPtrs (viewL m args).1 then
  match s (viewL m args).1 with
  | some (v, cs) => some { val := v, conds := (viewL m args).2 ++ cs, upd := bif plainA v then [] else (idsL args).map fun b => (b, none), reads := idsL args }
  | none => none
 else none
def indexA (P : Program) (t : TypeId) (x y : AV) : Option Eff :=
 match P.underlying t, x, y with
 | some .string, .c (.v (.string s)), .c (.v (.int _ i)) =>
  some { val := intA .u8 (s.data.toList.getD i.toNat 0).toNat, conds := [0 ≤ i ∧ i < (s.data.toList.length : Int)] }
 | some (.array n e), .agg l, .c (.v (.int _ i)) =>
  match sizeP P e with
  | some sz => (partA P e l (i.toNat * sz)).map fun v => { val := v, conds := [0 ≤ i ∧ i < (n : Int)] }
  | none => none
 | _, _, _ => none
def indexAddrA (P : Program) (m : Mem) (t : TypeId) (x y : AV) : Option Eff :=
 match P.underlying t, y with
 | some (.slice e), .c (.v (.int _ i)) =>
  match x, sizeP P e with
  | .msl b n sz, some p => bif Nat.beq p sz then some { val := .eptr b i.toNat 0 sz, conds := [0 ≤ i ∧ i < (n : Int)] } else none
  | .c (.sl n sz el), some p => bif Nat.beq p sz then some { val := .iptr (el i.toNat), conds := [0 ≤ i ∧ i < (n : Int)] } else none
  | .ssl b k n sz, some p => bif Nat.beq p sz then some { val := .eptr b (k + i.toNat) 0 sz, conds := [0 ≤ i ∧ i < (n : Int)] } else none
  | _, _ => none
 | some (.array n e), .c (.v (.int _ i)) =>
  match x, sizeP P e with
  | .eptr b 0 0 sz, some p => bif Nat.beq sz p then some { val := .eptr b i.toNat 0 sz, conds := [0 ≤ i ∧ i < (n : Int)] } else none
  | .ptr b off, some p => some { val := .ptr b (off + i.toNat * p), conds := [0 ≤ i ∧ i < (n : Int)] }
  | _, _ => none
 | _, _ => none
def viewSl (m : Mem) (x : AV) : Option (Nat × Nat × (Nat → List IV) × List Bool × List Nat) :=
 match x with
 | .c (.sl n sz el) => some (n, sz, el, [], [])
 | .c (.v (.slice none 0 0)) => some (0, 0, fun _ => [], [], [])
 | .c (.v (.slice (some _) 0 _)) => some (0, 0, fun _ => [], [], [])
 | .msl b n sz =>
  match m b with
  | some (.arr n' sz' el _) => bif Nat.beq sz sz' then some (n, sz, el, [n ≤ n'], [b]) else none
  | _ => none
 | _ => none
def byteOf : List IV → UInt8
 | [.v (.int .u8 x)] => UInt8.ofNat x.toNat
 | _ => 0
def byteEl (l : List UInt8) : Nat → List IV := fun k => [.v (.int .u8 ((l.getD k 0).toNat : Nat))]
def bytesOf (n : Nat) (el : Nat → List IV) : List UInt8 := (List.range n).map fun k => byteOf (el k)
def isByte : List IV → Bool
 | [.v (.int .u8 x)] => decide (0 ≤ x) && decide (x < 256)
 | _ => false
def isBytes (n : Nat) (el : Nat → List IV) : Bool := (List.range n).all fun k => isByte (el k)
def joinE (n : Nat) (el el' : Nat → List IV) : Nat → List IV := fun k => if k < n then el k else el' (k - n)
def bytesP (P : Program) (t : TypeId) : Option Nat := (P.info? t).map (·.bytes)
def appDst (m : Mem) (e : TypeId) (p : Nat) (x : AV) : Option (Nat × (Nat → List IV) × List Bool × List Nat) :=
 match x with
 | .c (.v (.slice none 0 0)) => some (0, (fun _ => []), [], [])
 | .msl b n sz =>
  match m b with
  | some (.arr n' sz' el e') => bif Nat.beq sz p && Nat.beq sz' p && Nat.beq e e' then some (n, el, [n ≤ n'], [b]) else none
  | _ => none
 | _ => none
def appSrc (P : Program) (m : Mem) (t u e : TypeId) (p by_ : Nat) (y : AV) : Option (Nat × (Nat → List IV) × List Bool × List Nat) :=
 bif Nat.beq t u then
   match viewSl m y with
   | some (k, sz, el, cs, rs) => bif Nat.beq sz p || Nat.beq k 0 then some (k, el, cs, rs) else none
   | none => none
 else
   match P.underlying u, P.underlying e, y with
   | some .string, some (.int .u8), .c (.v (.string s)) => bif Nat.beq p 1 && Nat.beq by_ 1 then some (s.data.toList.length, byteEl s.data.toList, [], []) else none
   | some (.int _), _, .c (.v (.int _ n)) =>
     match zeroP P e with
     | some z => bif Nat.beq z.cells.size p && z.cells.toList.all (·.oneCell') then
         some (n.toNat, (fun _ => z.cells.toList.map .v), [decide (0 ≤ n), decide (n ≤ 9223372036854775807), decide (n.toNat * by_ ≤ 140737488355328)], []) else none
     | none => none
   | _, _, _ => none
def appendA (P : Program) (slot : Nat) (m : Mem) (ts : List TypeId) (x y : AV) : Option Eff :=
 match ts with
 | [t, u] =>
   match P.underlying t with
   | some (.slice e) =>
     match sizeP P e, bytesP P e, zeroP P e with
     | some (p + 1), some by_, some z =>
       bif Nat.beq z.cells.size (p + 1) then
         match appDst m e (p + 1) x, appSrc P m t u e (p + 1) by_ y with
         | some (n, el, c1, r1), some (k, el', c2, r2) =>
           some { val := .msl slot (n + k) (p + 1), upd := r1.map (fun b => (b, none)) ++ [(slot, some (.arr (n + k) (p + 1) (joinE n el el') e))],
                  conds := c1 ++ c2 ++ [decide (n + k ≤ 9223372036854775807), decide ((n + k) * by_ ≤ 140737488355328)], reads := r1 ++ r2 }
         | _, _ => none
       else none
     | _, _, _ => none
   | _ => none
 | _ => none
def copyA (P : Program) (m : Mem) (ts : List TypeId) (x y : AV) : Option Eff :=
 match ts, x with
 | [t, u], .msl b n sz =>
  match P.underlying t with
  | some (.slice e) =>
   match sizeP P e, m b, bif Nat.beq t u then viewSl m y else none with
   | some p, some (.arr n' sz' el e'), some (k, sz2, el', cs, rs) =>
    bif Nat.beq sz p && Nat.beq sz' p && Nat.beq sz2 p && (rs.all fun r => !Nat.beq r b) then
     some { val := intA .i64 (min k n : Nat), upd := [(b, some (.arr n' sz' (fun i => if i < min k n then el' i else el i) e'))], conds := decide (n ≤ n') :: cs, reads := b :: rs }
    else none
   | _, _, _ => none
  | _ => none
 | _, _ => none
def lenA (P : Program) (t : TypeId) (x : AV) : Option Eff :=
 match P.underlying t, x with
 | some .string, .c (.v (.string s)) => some { val := intA .i64 (s.data.toList.length : Nat) }
 | some (.slice _), .c (.sl n _ _) => some { val := intA .i64 (n : Nat) }
 | some (.slice _), .c (.v (.slice none 0 0)) => some { val := intA .i64 0 }
 | some (.slice _), .msl _ n _ => some { val := intA .i64 (n : Nat) }
 | some (.slice _), .ssl _ _ n _ => some { val := intA .i64 (n : Nat) }
 | some (.array n _), _ => some { val := intA .i64 (n : Nat) }
 | _, _ => none
def minA (x y : AV) : Option Eff :=
 match x, y with
 | .c (.v (.int k a)), .c (.v (.int _ b)) => some { val := intA k (if b < a then b else a) }
 | _, _ => none
def maxA (x y : AV) : Option Eff :=
 match x, y with
 | .c (.v (.int k a)), .c (.v (.int _ b)) => some { val := intA k (if b > a then b else a) }
 | _, _ => none
def capA (P : Program) (t : TypeId) (x : AV) : Option Eff :=
 match P.underlying t, x with
 | some (.slice _), .c (.v (.slice none 0 0)) => some { val := intA .i64 0 }
 | _, _ => none
def clearA (P : Program) (m : Mem) (t : TypeId) (x : AV) : Option Eff :=
 match P.underlying t, x with
 | some (.slice e), .ssl b k _ sz =>
   match sizeP P e, zeroP P e, m b with
   | some p, some z, some (.arr n' sz' el e') =>
     bif Nat.beq p sz && (Nat.beq sz' sz && (Nat.ble k n' && (Nat.beq z.cells.size sz && z.cells.toList.all (·.oneCell')))) then some { val := .tup [], upd := [(b, some (.arr k sz el e'))], reads := [b] } else none
   | _, _, _ => none
 | _, _ => none
def builtinA (P : Program) (slot : Nat) (m : Mem) (b : Builtin) (ts : List TypeId) (xs : List AV) : Option Eff :=
 match b, ts, xs with
 | .len, [t], [x] => lenA P t x
 | .append, ts, [x, y] => appendA P slot m ts x y
 | .copy, ts, [x, y] => copyA P m ts x y
 | .min, _, [x, y] => minA x y
 | .max, _, [x, y] => maxA x y
 | .cap, [t], [x] => capA P t x
 | .clear, [t], [x] => clearA P m t x
 | _, _, _ => none
def makeSliceA (P : Program) (slot : Nat) (t : TypeId) (x y : AV) : Option Eff :=
 match P.underlying t, x, y with
 | some (.slice e), .c (.v (.int .i64 n)), .c (.v (.int .i64 k)) =>
   match sizeP P e, bytesP P e, zeroP P e with
   | some (p + 1), some by_, some z =>
     bif Nat.beq z.cells.size (p + 1) && z.cells.toList.all (·.oneCell') then
       some { val := .msl slot n.toNat (p + 1), upd := [(slot, some (.arr n.toNat (p + 1) (fun _ => z.cells.toList.map .v) e))],
              conds := [n = k, 0 ≤ n, n ≤ 9223372036854775807, (by_ : Int) * n ≤ 140737488355328] }
     else none
   | _, _, _ => none
 | _, _, _ => none
def buildSliceA (P : Program) (slot : Nat) (t : TypeId) (n : Nat) (parts : List (Nat × AV)) : Option Eff :=
 match P.underlying t with
 | some (.slice e) =>
  match sizeP P e, zeroP P e with
  | some (p + 1), some z =>
   bif Nat.beq n 0 && parts.isEmpty then some { val := .msl slot 0 (p + 1), upd := [(slot, some (.arr 0 (p + 1) (fun _ => []) e))] } else
   match fillA ((List.range n).map fun i => (i * (p + 1), p + 1)) ((List.range (n * (p + 1))).map fun j => AV.c (.v (z.cells[j % z.cells.size]!))) parts with
   | some l =>
    match l.mapM toIV with
    | some c => bif Nat.ble (n * (p + 1)) 16777216 && Nat.beq z.cells.size (p + 1) && l.all cellOk && !Nat.beq n 0 then
      some { val := .msl slot n (p + 1), upd := [(slot, some (.arr n (p + 1) (fun k => (c.drop (k * (p + 1))).take (p + 1)) e))] } else none
    | none => none
   | none => none
  | _, _ => none
 | _ => none
def sliceA (P : Program) (m : Mem) (t : TypeId) (x : AV) (lo hi : Option AV) : Option Eff :=
 match P.underlying t, x with
 | some .string, .c (.v (.string s)) =>
  match lo, hi with
  | none, none => some { val := .c (.v (.string s)) }
  | some (.c (.v (.int _ l))), none => some { val := .c (.v (.string ⟨⟨s.data.toList.drop l.toNat⟩⟩)), conds := [0 ≤ l ∧ l ≤ (s.data.toList.length : Int)] }
  | none, some (.c (.v (.int _ h))) => some { val := .c (.v (.string ⟨⟨s.data.toList.take h.toNat⟩⟩)), conds := [0 ≤ h ∧ h ≤ (s.data.toList.length : Int)] }
  | some (.c (.v (.int _ l))), some (.c (.v (.int _ h))) => some { val := .c (.v (.string ⟨⟨(s.data.toList.take h.toNat).drop l.toNat⟩⟩)), conds := [0 ≤ l ∧ l ≤ h ∧ h ≤ (s.data.toList.length : Int)] }
  | _, _ => none
 | some (.slice e), .msl b n sz =>
  match sizeP P e, lo, hi with
  | some _, none, some (.c (.v (.int _ h))) => some { val := .msl b h.toNat sz, conds := [0 ≤ h ∧ h ≤ (n : Int)] }
  | some p, some (.c (.v (.int _ l))), none => bif Nat.beq p sz then (bif Nat.beq l.toNat n then some { val := .any, conds := [0 ≤ l] } else some { val := .ssl b l.toNat (n - l.toNat) sz, conds := [0 ≤ l ∧ l < (n : Int)] }) else none
  | _, _, _ => none
 | some (.slice e), .c (.sl n sz el) =>
  match sizeP P e with
  | some p =>
   bif Nat.beq p sz then
    match lo, hi with
    | none, some (.c (.v (.int _ h))) => some { val := .c (.sl h.toNat sz el), conds := [0 ≤ h ∧ h ≤ (n : Int)] }
    | some (.c (.v (.int _ l))), none => some { val := .c (.sl (n - l.toNat) sz fun k => el (k + l.toNat)), conds := [0 ≤ l ∧ l ≤ (n : Int)] }
    | some (.c (.v (.int _ l))), some (.c (.v (.int _ h))) => some { val := .c (.sl (h.toNat - l.toNat) sz fun k => el (k + l.toNat)), conds := [0 ≤ l ∧ l ≤ h ∧ h ≤ (n : Int)] }
    | _, _ => none
   else none
  | none => none
 | some (.slice e), .c (.v (.slice none 0 0)) =>
  match sizeP P e, lo, hi with
  | some _, none, some (.c (.v (.int _ h))) => some { val := .c (.v (.slice none 0 0)), conds := [0 ≤ h ∧ h ≤ 0] }
  | _, _, _ => none
 | some (.array n e), .eptr b 0 0 sz =>
  match sizeP P e, m b, lo, hi with
  | some p, some (.arr n' sz' el _), none, some (.c (.v (.int _ h))) =>
   bif Nat.beq sz p && Nat.beq sz' p && Nat.beq n n' && !Nat.beq n 0 then some { val := .c (.sl h.toNat sz el), upd := [(b, none)], conds := [0 ≤ h ∧ h ≤ (n : Int)], reads := [b] } else none
  | _, _, _, _ => none
 | some (.array n e), .ptr b 0 =>
  match sizeP P e, m b, lo, hi with
  | some p, some (.cells l _), none, some (.c (.v (.int _ h))) =>
   match l.mapM toIV with
   | some c => bif Nat.beq l.length (n * p) && !Nat.beq n 0 && l.all cellOk then some { val := .c (.sl h.toNat p fun k => (c.drop (k * p)).take p), upd := [(b, none)], conds := [0 ≤ h ∧ h ≤ (n : Int)], reads := [b] } else none
   | none => none
  | _, _, _, _ => none
 | _, _ => none
def convMA (P : Program) (m : Mem) (src dst : TypeId) (x : AV) : Option Eff :=
 match P.underlying src, P.underlying dst with
 | some (.slice e), some .string =>
  match P.underlying e, viewSl m x with
  | some (.int .u8), some (n, sz, el, cs, rs) =>
   bif Nat.beq sz 1 || Nat.beq n 0 then some { val := .c (.v (.string ⟨⟨bytesOf n el⟩⟩)), conds := cs ++ [isBytes n el], reads := rs } else none
  | _, _ => none
 | _, _ => convA P src dst x
def unitFirst : List Value → Bool
 | [.agg cs] => cs.isEmpty
 | _ => false
def yieldNo : FuncId := 1000000000
def askΓ (Γ : FuncId → Option Spec) (f : FuncId) : Option Spec := bif Nat.beq f yieldNo then none else Γ f
def yieldV (l : Nat) : Value := .func (.yield l) #[] #[]
def methodP (P : Program) (t : TypeId) (name : String) : Option FuncId :=
 match P.info? t, P.underlying t with
 | some i, some (.struct _) =>
   match i.methods.find? (·.name == name) with
   | some m =>
     match m.func with
     | some (f, false) => bif m.path.isEmpty then some f else none
     | _ => none
   | none => none
 | _, _ => none
def callA (P : Program) (Γ : FuncId → Option Spec) (slot : Nat) (tm : List AV) (m : Mem) (c : Call) : Option Eff :=
 match c.callee with
 | .builtin b => builtinA P slot m b c.argTypes.toList (c.args.toList.map (evalA tm))
 | .value f =>
  match evalA tm f with
  | .c (.v (.func (.func f) first cap)) => bif first.isEmpty && cap.isEmpty then (askΓ Γ f).bind fun s => s slot m (c.args.toList.map (evalA tm)) else
   bif unitFirst first.toList && cap.isEmpty then (askΓ Γ f).bind fun s => s slot m (.agg [] :: c.args.toList.map (evalA tm)) else none
  | .c (.v (.func (.yield l) first cap)) => bif first.isEmpty && (cap.isEmpty && (P.funcs[yieldNo]?).isNone) then (Γ yieldNo).bind fun s => s slot m (.c (.v (yieldV l)) :: c.args.toList.map (evalA tm)) else none
  | .fn f cap => (askΓ Γ f).bind fun s => s slot m (c.args.toList.map (evalA tm) ++ cap)
  | _ => none
 | .invoke recv name =>
  match evalA tm recv with
  | .c (.v (.iface t u)) =>
   match methodP P t name with
   | some f => (askΓ Γ f).bind fun s => s slot m (ofValue u :: c.args.toList.map (evalA tm))
   | none => none
  | _ => none
def findMp (n : Int) : List (Int × Value) → Option Value
 | [] => none
 | p :: l => bif decide (n = p.1) then some p.2 else findMp n l
def lookupA (P : Program) (t : TypeId) (x y : AV) (ok : Bool) : Option Eff :=
 match P.underlying t, x, y with
 | some (.map k e), .c (.mp es), .c (.v (.int .i64 n)) =>
  match P.underlying k, zeroP P e with
  | some (.int .i64), some z =>
   let v := match findMp n es with | some v => v | none => z
   some { val := bif ok then .tup [ofValue v, boolA (findMp n es).isSome] else ofValue v }
  | _, _ => none
 | _, _, _ => none
def isIntMap (P : Program) (t : TypeId) : Bool :=
 match P.underlying t with
 | some (.map k _) => match P.underlying k with | some (.int .i64) => true | _ => false
 | _ => false
def hintA : Option AV → Bool
 | none => true
 | some (.c (.v (.int _ _))) => true
 | _ => false
def makeMapA (P : Program) (slot : Nat) (t : TypeId) (x : Option AV) : Option Eff :=
 bif isIntMap P t && hintA x then some { val := .omap slot, upd := [(slot, some (.mapE []))] } else none
def mapUpdateA (P : Program) (m : Mem) (t : TypeId) (x k v : AV) : Option Eff :=
 match x, k, v with
 | .omap b, .c (.v (.int .i64 n)), .c y =>
  match m b with
  | some (.mapE es) => bif isIntMap P t && cellOk (.c y) then some { val := .c (.v undef), upd := [(b, some (.mapE (es ++ [(n, y)])))], conds := [es.all fun p => !decide (p.1 = n)], reads := [b] } else none
  | _ => none
 | _, _, _ => none
def rangeA (P : Program) (slot : Nat) (t : TypeId) (x : AV) : Option Eff :=
 match x with
 | .c (.mq es) => bif isIntMap P t then some { val := .ptr slot 0, upd := [(slot, some (.itE es []))] } else none
 | _ => none
def nextA (m : Mem) (x : AV) : Option (List Eff) :=
 match x with
 | .ptr b 0 =>
  match m b with
  | some (.itE es seen) =>
   match (List.range es.length).filter fun i => !(seen.any fun j => Nat.beq i j) with
   | [] => some [{ val := .tup [boolA false], reads := [b] }]
   | i :: l => some ((i :: l).map fun i => { val := .tup [boolA true, intA .i64 (es.getD i (0, .v undef)).1, .c (es.getD i (0, .v undef)).2], upd := [(b, some (.itE es (seen ++ [i])))], reads := [b] })
  | _ => none
 | _ => none
def entryA (m : Mem) (x : AV) : Option Eff :=
 match x with
 | .ptr b 0 =>
  match m b with
  | some (.itE es seen) =>
   match seen.getLast? with
   | some i => some { val := .tup [intA .i64 (es.getD i (0, .v undef)).1, .c (es.getD i (0, .v undef)).2], reads := [b] }
   | none => none
  | _ => none
 | _ => none
def buildSliceB (P : Program) (slot : Nat) (m : Mem) (t : TypeId) (n : Nat) (xs : List (Nat × AV)) : Option Eff :=
 bif xs.any fun p => !(idsA p.2).isEmpty then
  (buildSliceA P slot t n (xs.map fun p => (p.1, (viewA m p.2).1))).map fun r =>
   { r with conds := (xs.map fun p => (viewA m p.2).2).flatten ++ r.conds, upd := ((xs.map fun p => idsA p.2).flatten.map fun b => (b, none)) ++ r.upd, reads := (xs.map fun p => idsA p.2).flatten }
 else buildSliceA P slot t n xs
def valOp (P : Program) (Γ : FuncId → Option Spec) (slot : Nat) (o : Oper) (tm : List AV) (m : Mem) : Option Eff :=
 let e := evalA tm
 match o.op with
 | .move x | .assign x => some { val := e x }
 | .pick c a b =>
  match e c with
  | .c (.v (.bool t)) =>
   match e a, e b with
   | .c (.v (.bool x)), .c (.v (.bool y)) => some { val := boolA (bif t then x else y) }
   | x, y => some { val := bif t then x else y }
  | _ => none
 | .alloc t =>
  match zeroP P t with
  | some z =>
   match P.underlying t with
   | some (.array n e) =>
    match sizeP P e, zeroP P e with
    | some (p + 1), some ze => bif Nat.ble z.cells.size 16 && !byteP P e then newEnt slot t (cellsOf z) else bif Nat.beq ze.cells.size (p + 1) then allocArr slot t n (p + 1) ze z else none
    | _, _ => none
   | _ => newEnt slot t (cellsOf z)
  | none => none
 | .box t x => bif (cellsA (e x)).all cellOk then newEnt slot t (cellsA (e x)) else none
 | .build t ps => buildA P t (ps.toList.map fun (i, x) => (i, e x))
 | .load t a => loadA P m t (e a)
 | .store t a x => storeA P m t (e a) (e x)
 | .nilCheck x =>
  match e x with
  | .ptr b off => some { val := .ptr b off }
  | .eptr b k j sz => some { val := .eptr b k j sz }
  | .iptr l => some { val := .iptr l }
  | .c (.v (.func (.method name) first cap)) =>
   match first.toList with
   | [.iface t u] => bif (methodP P t name).isSome then some { val := .c (.v (.func (.method name) #[.iface t u] cap)) } else none
   | _ => none
  | _ => none
 | .binOp op t x y _ => binA P op t (e x) (e y)
 | .unOp op _ x => unA op (e x)
 | .convert s d x => convMA P m s d (e x)
 | .makeSlice t x y => makeSliceA P slot t (e x) (e y)
 | .buildSlice t n ps => buildSliceB P slot m t n (ps.toList.map fun (i, x) => (i, e x))
 | .indexAddr t x i => indexAddrA P m t (e x) (e i)
 | .slice t x lo hi mx => bif mx.isNone then sliceA P m t (e x) (lo.map e) (hi.map e) else none
 | .makeFunc fn first cap =>
  match fn with
  | .func f => bif first.isEmpty then some { val := .fn f (cap.toList.map e) } else
    match first.toList.map e, cap.toList with
    | [.agg []], [] => some { val := .c (.v (.func (.func f) #[.agg #[]] #[])) }
    | _, _ => none
  | .method name =>
   match first.toList.map e, cap.toList with
   | [.c (.v (.iface t u))], [] => some { val := .c (.v (.func (.method name) #[.iface t u] #[])) }
   | _, _ => none
  | _ => none
 | .makeInterface t x =>
  match P.underlying t, e x with
  | some (.struct _), .agg [] => some { val := .c (.v (.iface t (.agg #[]))) }
  | _, _ => none
 | .fieldAddr t x f => fieldAddrA P t (e x) f
 | .field t x f => fieldA P t (e x) f
 | .index t x i => indexA P t (e x) (e i)
 | .lookup t x i ok => lookupA P t (e x) (e i) ok
 | .extract x i =>
  match e x with
  | .tup l => (l[i]?).map fun v => { val := v }
  | _ => none
 | .call c => callA P Γ slot tm m c
 | .makeMap t r => makeMapA P slot t (r.map e)
 | .mapUpdate t x k v => mapUpdateA P m t (e x) (e k) (e v)
 | .range t x => rangeA P slot t (e x)
 | .entry x => entryA m (e x)
 | _ => none
def isSource (ops : List Oper) (j : Nat) : Bool := ops.any fun o => match o.guard with | some (k, _) => Nat.beq k j | none => false
def wantedA (ops : List Oper) (tm : List AV) (o : Oper) : Option Bool :=
 match o.guard with
 | none => some true
 | some (j, want) =>
   match (ops[j]?).bind (·.dst) with
   | some d =>
     match tm.getD d .any with
     | .c (.v (.bool b)) => some (b == want)
     | .c (.v (.tuple _)) => some false
     | _ => none
   | none => none
structure Did where
 idx : Nat
 reads : List Nat
 writes : List Nat
def execOps (P : Program) (Γ : FuncId → Option Spec) (all : List Oper) (base : Nat) : List Oper → Nat → St → List Did → Tr (St × List Did)
 | [], _, S, ds => .ret (S, ds)
 | o :: rest, i, S, ds =>
   match wantedA all S.tm o with
   | none => .fail "guard"
   | some false => execOps P Γ all base rest (i + 1) (S.apply o.dst { val := .c (.v undef) }) ({ idx := i, reads := [], writes := [] } :: ds)
   | some true =>
     match valOp P Γ (base + i) o S.tm S.mem with
     | none => .fail o.pos
     | some r =>
       let d : Did := { idx := i, reads := r.reads, writes := r.upd.map (·.1) }
       Tr.needs r.conds <|
         bif isSource all i then
           match r.val with
           | .c (.v (.bool b)) =>
             .ite b (execOps P Γ all base rest (i + 1) (S.apply o.dst { r with val := boolA true }) (d :: ds))
               (execOps P Γ all base rest (i + 1) (S.apply o.dst { r with val := boolA false }) (d :: ds))
           | _ => .fail "source"
         else execOps P Γ all base rest (i + 1) (S.apply o.dst r) (d :: ds)
def disjoint (l m : List Nat) : Bool := l.all fun x => !(m.any fun y => Nat.beq x y)
def edgesOk (ops : List Oper) : Bool := ops.zipIdx.all fun p => p.1.after.toList.all fun e => !Region.binds .any e || Nat.blt e.on p.2
def reachB (ops : List Oper) : Nat → Nat → Nat → Bool
 | 0, _, _ => false
 | n + 1, i, j => match ops[i]? with | some oi => oi.after.toList.any (fun e => Region.binds .any e && (Nat.beq e.on j || reachB ops n e.on j)) | none => false
def apartD (ops : List Oper) (a b : Did) : Bool :=
 match ops[a.idx]?, ops[b.idx]? with
 | some oa, some ob =>
  (ob.after.toList.any (fun e => Region.binds .any e && Nat.beq e.on a.idx) ||
   (Oper.apart ops.toArray oa ob && disjoint a.writes b.reads && disjoint a.writes b.writes && disjoint a.reads b.writes)) || reachB ops 6 b.idx a.idx
 | _, _ => false
def apartAll (ops : List Oper) (a : Did) : List Did → Bool
 | [] => true
 | b :: l => apartD ops a b && apartAll ops a l
def indepL (ops : List Oper) : List Did → Bool
 | [] => true
 | a :: l => apartAll ops a l && indepL ops l
def orderedB (ob : Oper) (i : Nat) : Bool := ob.after.toList.any (fun e => Region.binds .any e && Nat.beq e.on i)
def stat1 (arr : Array Oper) (i : Nat) (oa ob : Oper) : Bool := orderedB ob i || Oper.apart arr oa ob
def statA (arr : Array Oper) (i : Nat) (oa : Oper) : List Oper → Bool
 | [] => true
 | ob :: l => stat1 arr i oa ob && statA arr i oa l
def statL (arr : Array Oper) : Nat → List Oper → Bool
 | _, [] => true
 | i, o :: l => statA arr i o l && statL arr (i + 1) l
def idxOk : Nat → List Did → Bool
 | _, [] => true
 | i, d :: l => Nat.beq d.idx i && idxOk (i + 1) l
def memD (ops : List Oper) (a b : Did) : Bool :=
 bif a.writes.isEmpty && b.writes.isEmpty then true else
 ((match ops[b.idx]? with | some ob => orderedB ob a.idx | none => false) || (disjoint a.writes b.reads && disjoint a.writes b.writes && disjoint a.reads b.writes)) || reachB ops 6 b.idx a.idx
def memA (ops : List Oper) (a : Did) : List Did → Bool
 | [] => true
 | b :: l => memD ops a b && memA ops a l
def memL (ops : List Oper) : List Did → Bool
 | [] => true
 | a :: l => memA ops a l && memL ops l
def indep (ops : List Oper) (ds : List Did) : Bool :=
 Region.noSelect ops.toArray && edgesOk ops && statL ops.toArray 0 ops && (Nat.ble ds.length ops.length && idxOk 0 ds.reverse && memL ops ds.reverse)
def blanks (S : St) (n : Nat) : St := { S with nx := S.nx + n }
def execRegion (P : Program) (Γ : FuncId → Option Spec) (ops : List Oper) (draw : Bool) (S : St) : Tr St :=
 (execOps P Γ ops S.nx ops 0 (blanks S ops.length) []).bind fun (S', ds) =>
  bif !draw || indep ops ds then .ret S' else .fail "order"
mutual
/-- two values as one, where that can be said -/
def mergeV (c : Bool) : AV → AV → Option AV
 | .c (.v (.bool a)), .c (.v (.bool b)) => some (.c (.v (.bool (bif c then a else b))))
 | .c (.v (.int k a)), .c (.v (.int k' b)) => if k = k' then some (.c (.v (.int k (bif c then a else b)))) else none
 | .c (.v (.string a)), .c (.v (.string b)) => some (.c (.v (.string (bif c then a else b))))
 | .ptr b o, .ptr b' o' => bif Nat.beq b b' && Nat.beq o o' then some (.ptr b o) else none
 | .agg l, .agg m => (mergeVs c l m).map .agg
 | .tup l, .tup m => (mergeVs c l m).map .tup
 | _, _ => none
def mergeVs (c : Bool) : List AV → List AV → Option (List AV)
 | [], [] => some []
 | x :: l, y :: m =>
  match mergeV c x y, mergeVs c l m with
  | some z, some n => some (z :: n)
  | _, _ => none
 | _, _ => none
end
def mergeAV (c : Bool) (x y : AV) : AV := (mergeV c x y).getD .any
def mergeL (c : Bool) : List AV → List AV → Option (List AV)
 | [], [] => some []
 | x :: l, y :: m => (mergeL c l m).map fun n => mergeAV c x y :: n
 | _, _ => none
def flat (ops : List Oper) (draw : Bool) (dsts : List Tmp) (n0 : Nat) : Tr (St × List Did) → Option (Bool × List AV)
 | .ret (S, ds) => bif ((ds.take (ds.length - n0)).all fun d => d.writes.isEmpty) && (!draw || indep ops ds) then some (true, dsts.map fun t => S.tm.getD t .any) else none
 | .need p t =>
  match flat ops draw dsts n0 t with
  | some (q, l) => some (p && q, l)
  | none => none
 | .both _ _ => none
 | .ite c a b =>
  match flat ops draw dsts n0 a, flat ops draw dsts n0 b with
  | some (p, l), some (q, m) =>
   match mergeL c l m with
   | some n => some (bif c then p else q, n)
   | none => none
  | _, _ => none
 | .fail _ => none
def putAll : List AV → List Tmp → List AV → List AV
 | tm, t :: l, v :: vs => putAll (tm.set t v) l vs
 | tm, _, _ => tm
def firstSource (all : List Oper) : List Oper → Nat → Nat
 | [], i => i
 | _ :: l, i => bif isSource all i then i else firstSource all l (i + 1)
def checked (ops : List Oper) (draw : Bool) (p : St × List Did) : Tr St := bif !draw || indep ops p.2 then .ret p.1 else .fail "order"
def execRegionG (P : Program) (Γ : FuncId → Option Spec) (ops : List Oper) (draw : Bool) (S : St) : Tr St :=
 let i0 := firstSource ops ops 0
 (execOps P Γ ops S.nx (ops.take i0) 0 (blanks S ops.length) []).bind fun p =>
   let T := execOps P Γ ops S.nx (ops.drop i0) i0 p.1 p.2
   let dsts := (ops.drop i0).filterMap (·.dst)
   match flat ops draw dsts p.2.length T with
   | some (c, vs) => .need c (.ret { p.1 with tm := putAll p.1.tm dsts vs })
   | none => T.bind (checked ops draw)
def roundsN (N : Nat) : Nat := bif Nat.ble 1000 N then N - 1000 else N
def regionN (P : Program) (Γ : FuncId → Option Spec) (N : Nat) (ops : List Oper) (draw : Bool) (S : St) : Tr St :=
 bif Nat.ble 1000 N && ops.any (fun o => o.guard.isSome) then execRegionG P Γ ops draw S else execRegion P Γ ops draw S
def bothL {α : Type} : List (Tr α) → Tr α
 | [] => .fail "none"
 | [t] => t
 | t :: l => .both t (bothL l)
def isNext (o : Oper) : Option Operand :=
 match o.op, o.guard with
 | .next x false, none => some x
 | _, _ => none
def regionM (P : Program) (Γ : FuncId → Option Spec) (N : Nat) (ops : List Oper) (draw : Bool) (S : St) : Tr St :=
 match ops with
 | o :: rest =>
  match isNext o with
  | some x =>
   bif draw || isSource ops 0 then .fail "next" else
   match nextA S.mem (evalA S.tm x) with
   | some rs => bothL (rs.map fun r => (execOps P Γ ops S.nx rest 1 ((blanks S ops.length).apply o.dst r) []).bind fun p => .ret p.1)
   | none => .fail "next"
  | none => regionN P Γ N ops draw S
 | [] => regionN P Γ N ops draw S
inductive Ex where
 | normal | exit (id : Nat) | ret
def loopN (f : St → Tr (Ex × St)) : Nat → St → Tr (Ex × St)
 | 0, _ => .fail "rounds"
 | n + 1, S => (f S).bind fun (e, S) =>
  match e with
  | .normal => loopN f n S
  | e => .ret (e, S)
def exec (P : Program) (Γ : FuncId → Option Spec) (L : Nat → Option (St → Tr (Ex × St))) (N : Nat) : Code → St → Tr (Ex × St)
 | .skip, S => .ret (.normal, S)
 | .region _ ops draw, S => (regionM P Γ N ops.toList draw S).bind fun S => .ret (.normal, S)
 | .seq a b, S => (exec P Γ L N a S).bind fun (e, S) =>
  match e with
  | .normal => exec P Γ L N b S
  | e => .ret (e, S)
 | .cond c a b, S =>
  match evalA S.tm c with
  | .c (.v (.bool t)) => .ite t (exec P Γ L N a S) (exec P Γ L N b S)
  | _ => .fail "cond"
 | .block id body, S =>
  match L id with
  | some g => g S
  | none => (exec P Γ L N body S).bind fun (e, S) =>
   match e with
   | .exit j => bif Nat.beq j id then .ret (.normal, S) else .ret (.exit j, S)
   | e => .ret (e, S)
 | .loop body, S => loopN (fun S => exec P Γ L N body S) (roundsN N) S
 | .scope body, S => exec P Γ L N body S
 | .exit id, S => .ret (.exit id, S)
 | .ret, S => .ret (.ret, S)
 | _, _ => .fail "code"
def resultA (P : Program) (S : St) : ResultVar → Option AV
 | .tmp t => some (S.tm.getD t .any)
 | .cell a t =>
  match loadA P S.mem t (S.tm.getD a .any) with
  | some r =>
   match r.conds with
   | [] => some r.val
   | _ => none
  | none => none
def resultsA (P : Program) (S : St) (rs : List ResultVar) : Option AV :=
 match rs with
 | [r] => resultA P S r
 | rs => (rs.mapM (resultA P S)).map .tup
def start (args : List AV) (ntmps : Nat) : St := { tm := args ++ List.replicate (ntmps - args.length) (.c (.v undef)), mem := fun _ => none, nx := 0 }
def execFn (P : Program) (Γ : FuncId → Option Spec) (L : Nat → Option (St → Tr (Ex × St))) (N : Nat) (fn : Func) (args : List AV) : Tr AV :=
 match fn.body with
 | none => .fail "body"
 | some c => (exec P Γ L N c (start args fn.ntmps)).bind fun (e, S) =>
  match e with
  | .exit _ => .fail "exit"
  | _ =>
   match resultsA P S fn.results.toList with
   | some v => Tr.needs (viewA S.mem v).2 (.ret (viewA S.mem v).1)
   | none => .fail "results"
end Go.Vse
namespace Go.Vse
open Go.RowKit
theorem dec {p : Prop} [Decidable p] (h : decide p = true) : p := of_decide_eq_true h
def cellD (w : World) (a : Addr) : Value := (w.cell? a).getD undef
theorem cell_of_cellD {w : World} {a : Addr} (h : (w.cell? a).isSome = true) : w.cell? a = some (cellD w a) := by
 cases hc : w.cell? a with
 | none => rw [hc] at h; cases h
 | some v => simp [cellD, hc]
def me0 : MapEntry := { key := undef, val := undef, born := 0 }
def mz : Int × IV := (0, .v undef)
structure KeysOk (es : List (Int × IV)) (entries : Array MapEntry) (clock : Nat) : Prop where
 size : entries.size = es.length
 clock : clock = es.length
 key : ∀ i, i < es.length → (entries.getD i me0).key = .int .i64 (es.getD i mz).1
 born : ∀ i, i < es.length → (entries.getD i me0).born = i
 one : ∀ i, i < es.length → (entries.getD i me0).val.oneCell' = true
inductive IRel (A : Nat → Prop) (w : World) : IV → Value → Prop
 | v (x : Value) : IRel A w (.v x) x
 | nil (sz : Nat) (el : Nat → List IV) : IRel A w (.sl 0 sz el) (.slice none 0 0)
 /-- nothing, wherever its address points -/
 | zero (sz : Nat) (el : Nat → List IV) (a : Addr) : IRel A w (.sl 0 sz el) (.slice (some a) 0 0)
 | sl (n sz : Nat) (el : Nat → List IV) (b off cap : Nat) (hA : ¬ A b) (hb : b < w.heap.size) (hn : n ≤ cap)
   (hl : ∀ k, k < n → (el k).length = sz)
   (hs : ∀ k j, k < n → j < sz → (w.cell? ⟨b, off + (k * sz + j), none⟩).isSome = true ∧ (cellD w ⟨b, off + (k * sz + j), none⟩).oneCell' = true)
   (h : ∀ k j, k < n → j < sz → IRel A w ((el k).getD j (.v undef)) (cellD w ⟨b, off + (k * sz + j), none⟩)) :
   IRel A w (.sl n sz el) (.slice (some ⟨b, off, none⟩) n cap)
 | mp (es : List (Int × Value)) (b clock : Nat) (entries : Array MapEntry) (hA : ¬ A b) (hb : b < w.heap.size) (hh : w.heap[b]? = some (.map entries clock))
   (he : entries.toList.map (fun e => (e.key, e.val)) = es.map fun p => (Value.int .i64 p.1, p.2)) : IRel A w (.mp es) (.map (some b))
 | mq (es : List (Int × IV)) (b clock : Nat) (entries : Array MapEntry) (hA : ¬ A b) (hb : b < w.heap.size) (hh : w.heap[b]? = some (.map entries clock)) (hk : KeysOk es entries clock)
   (hv : ∀ i, i < es.length → IRel A w (es.getD i mz).2 (entries.getD i me0).val) : IRel A w (.mq es) (.map (some b))
abbrev Bmap := Nat → Option Nat
inductive ARel (A : Nat → Prop) (B : Bmap) (w : World) : AV → Value → Prop
 | c (x : IV) (v : Value) : IRel A w x v → ARel A B w (.c x) v
 | agg (l : List AV) (cs : Array Value) : cs.size = l.length → (∀ j, j < l.length → ARel A B w (l.getD j .any) (cs.getD j undef)) → ARel A B w (.agg l) (.agg cs)
 | tup (l : List AV) (cs : Array Value) : cs.size = l.length → (∀ j, j < l.length → ARel A B w (l.getD j .any) (cs.getD j undef)) → ARel A B w (.tup l) (.tuple cs)
 | ptr (b off β : Nat) : B b = some β → ARel A B w (.ptr b off) (.pointer (some ⟨β, off, none⟩))
 | eptr (b k j sz β : Nat) : B b = some β → ARel A B w (.eptr b k j sz) (.pointer (some ⟨β, k * sz + j, none⟩))
 | msl (b n sz cap β : Nat) : B b = some β → n ≤ cap → cap ≤ maxLen → (∃ C t fz, w.heap[β]? = some (.cells C t fz) ∧ C.size = cap * sz) →
   ARel A B w (.msl b n sz) (.slice (some ⟨β, 0, none⟩) n cap)
 | ssl (b k n sz cap β : Nat) : B b = some β → n ≤ cap → 0 < n → (∃ C t fz, w.heap[β]? = some (.cells C t fz) ∧ (k + n) * sz ≤ C.size) →
   ARel A B w (.ssl b k n sz) (.slice (some ⟨β, k * sz, none⟩) n cap)
 | mnil (b sz : Nat) : ARel A B w (.msl b 0 sz) (.slice none 0 0)
 | iptr (l : List IV) (b off : Nat) : ¬ A b → b < w.heap.size →
   (∀ j, j < l.length → (w.cell? ⟨b, off + j, none⟩).isSome = true ∧ IRel A w (l.getD j (.v undef)) (cellD w ⟨b, off + j, none⟩)) → ARel A B w (.iptr l) (.pointer (some ⟨b, off, none⟩))
 | fn (f : FuncId) (l : List AV) (cs : Array Value) : cs.size = l.length → (∀ j, j < l.length → ARel A B w (l.getD j .any) (cs.getD j undef)) →
   ARel A B w (.fn f l) (.func (.func f) #[] cs)
 | omap (b β : Nat) : B b = some β → ARel A B w (.omap b) (.map (some β))
 | any (v : Value) : ARel A B w .any v
structure Trans (A : Nat → Prop) (w w' : World) : Prop where
 size : w.heap.size ≤ w'.heap.size
 out : ∀ b, b < w.heap.size → ¬ A b → w'.heap[b]? = w.heap[b]?
 own : ∀ b, A b → ∀ C t fz, w.heap[b]? = some (.cells C t fz) → ∃ C' t' fz', w'.heap[b]? = some (.cells C' t' fz') ∧ C'.size = C.size
theorem Trans.refl (A : Nat → Prop) (w : World) : Trans A w w := ⟨Nat.le_refl _, fun _ _ _ => rfl, fun _ _ C t fz h => ⟨C, t, fz, h, rfl⟩⟩
theorem lt_of_heap {w : World} {b : Nat} {o : Obj} (h : w.heap[b]? = some o) : b < w.heap.size := (Array.getElem?_eq_some_iff.1 h).1
theorem Trans.of_below {A : Nat → Prop} {w w' : World} (h : Below w.heap.size w w') : Trans A w w' :=
 ⟨h.size, fun b hb _ => h.block b hb, fun b _ C t fz hc => ⟨C, t, fz, by rw [h.block b (lt_of_heap hc)]; exact hc, rfl⟩⟩
theorem IRel.trans {A A' : Nat → Prop} {w w' : World} (ht : Trans A w w') (hA : ∀ b, b < w.heap.size → A' b → A b) {x : IV} {v : Value}
  (h : IRel A w x v) : IRel A' w' x v := by
 induction h with
 | v x => exact .v x
 | nil sz el => exact .nil sz el
 | zero sz el a => exact .zero sz el a
 | sl n sz el b off cap hA0 hb hn hl hs h ih =>
  have he : ∀ k j, w'.cell? ⟨b, off + (k * sz + j), none⟩ = w.cell? ⟨b, off + (k * sz + j), none⟩ := fun k j => World.cell?_of_block (ht.out b hb hA0)
  refine .sl n sz el b off cap (fun h' => hA0 (hA b hb h')) (Nat.lt_of_lt_of_le hb ht.size) hn hl (fun k j hk hj => ?_) fun k j hk hj => ?_
  ·have := hs k j hk hj
   unfold cellD at *
   rw [he]; exact this
  ·have := ih k j hk hj
   unfold cellD at *
   rw [he]; exact this
 | mp es b clock entries hA0 hb hh he => exact .mp es b clock entries (fun h' => hA0 (hA b hb h')) (Nat.lt_of_lt_of_le hb ht.size) (by rw [ht.out b hb hA0]; exact hh) he
 | mq es b clock entries hA0 hb hh hk hv ih => exact .mq es b clock entries (fun h' => hA0 (hA b hb h')) (Nat.lt_of_lt_of_le hb ht.size) (by rw [ht.out b hb hA0]; exact hh) hk ih
theorem ARel.trans {A A' : Nat → Prop} {B B' : Bmap} {w w' : World} (ht : Trans A w w') (hA : ∀ b, b < w.heap.size → A' b → A b)
  (hB : ∀ s β, B s = some β → B' s = some β) {x : AV} {v : Value} (h : ARel A B w x v) : ARel A' B' w' x v := by
 induction h with
 | c x v h => exact .c x v (h.trans ht hA)
 | agg l cs hs _ ih => exact .agg l cs hs ih
 | tup l cs hs _ ih => exact .tup l cs hs ih
 | ptr b off β h => exact .ptr b off β (hB _ _ h)
 | eptr b k j sz β h => exact .eptr b k j sz β (hB _ _ h)
 | msl b n sz cap β h hn hm hc =>
  obtain ⟨C, t, fz, hc, hle⟩ := hc
  refine .msl b n sz cap β (hB _ _ h) hn hm ?_
  by_cases ha : A β
  ·obtain ⟨C', t', fz', hc', hs⟩ := ht.own β ha C t fz hc
   exact ⟨C', t', fz', hc', by omega⟩
  ·exact ⟨C, t, fz, by rw [ht.out β (lt_of_heap hc) ha]; exact hc, hle⟩
 | ssl b k n sz cap β h hn h0 hc =>
  obtain ⟨C, t, fz, hc, hle⟩ := hc
  refine .ssl b k n sz cap β (hB _ _ h) hn h0 ?_
  by_cases ha : A β
  ·obtain ⟨C', t', fz', hc', hs⟩ := ht.own β ha C t fz hc
   exact ⟨C', t', fz', hc', by omega⟩
  ·exact ⟨C, t, fz, by rw [ht.out β (lt_of_heap hc) ha]; exact hc, hle⟩
 | mnil b sz => exact .mnil b sz
 | iptr l b off hn hb h =>
  refine .iptr l b off (fun h' => hn (hA b hb h')) (Nat.lt_of_lt_of_le hb ht.size) fun j hj => ?_
  have he : w'.cell? ⟨b, off + j, none⟩ = w.cell? ⟨b, off + j, none⟩ := World.cell?_of_block (ht.out b hb hn)
  obtain ⟨hx, hr⟩ := h j hj
  have hr' := hr.trans ht hA
  unfold cellD at *
  rw [he]
  exact ⟨hx, hr'⟩
 | fn f l cs hs _ ih => exact .fn f l cs hs ih
 | omap b β h => exact .omap b β (hB _ _ h)
 | any v => exact .any v
theorem noPtrs_getD {l : List AV} (h : noPtrs l = true) : ∀ j, j < l.length → noPtr (l.getD j .any) = true := by
 induction l with
 | nil => intro j hj; simp at hj
 | cons x l ih =>
  intro j hj
  simp only [noPtrs, Bool.and_eq_true] at h
  cases j with
  | zero => simpa using h.1
  | succ j => simpa using ih h.2 j (by simpa using hj)
theorem ARel.noPtr {A : Nat → Prop} {B : Bmap} {w : World} {x : AV} {v : Value} (h : ARel A B w x v) (hn : Vse.noPtr x = true) (B' : Bmap) : ARel A B' w x v := by
 induction h with
 | c x v h => exact .c x v h
 | agg l cs hs _ ih => exact .agg l cs hs fun j hj => ih j hj (noPtrs_getD (by simpa [Vse.noPtr] using hn) j hj)
 | tup l cs hs _ ih => exact .tup l cs hs fun j hj => ih j hj (noPtrs_getD (by simpa [Vse.noPtr] using hn) j hj)
 | ptr b off β h => simp [Vse.noPtr] at hn
 | eptr b k j sz β h => simp [Vse.noPtr] at hn
 | msl b n sz cap β h _ _ _ => simp [Vse.noPtr] at hn
 | ssl b k n sz cap β h _ _ _ => simp [Vse.noPtr] at hn
 | mnil b sz => exact .mnil b sz
 | iptr l b off hA hb h => exact .iptr l b off hA hb h
 | fn f l cs hs _ ih => exact .fn f l cs hs fun j hj => ih j hj (noPtrs_getD (by simpa [Vse.noPtr] using hn) j hj)
 | omap b β h => simp [Vse.noPtr] at hn
 | any v => exact .any v
theorem ARel.oneCell {A : Nat → Prop} {B : Bmap} {w : World} {x : AV} {v : Value} (h : ARel A B w x v) (hc : cellOk x = true) : v.oneCell' = true := by
 cases h with
 | c x v h =>
  cases h with
  | v x => simpa [cellOk] using hc
  | nil => rfl
  | zero => rfl
  | sl => rfl
  | mp => rfl
  | mq => rfl
 | agg l cs => simp [cellOk] at hc
 | tup l cs => simp [cellOk] at hc
 | any v => simp [cellOk] at hc
 | _ => rfl
inductive EntRel (A : Nat → Prop) (B : Bmap) (w : World) : Ent → Option Obj → Prop
 | cells (l : List AV) (t : TypeId) (cs : Array Value) : cs.size = l.length → (∀ j, j < l.length → ARel A B w (l.getD j .any) (cs.getD j undef)) →
   EntRel A B w (.cells l t) (some (.cells cs t (0, 0)))
 | arr (n sz : Nat) (el : Nat → List IV) (t : TypeId) (cs : Array Value) : n * sz ≤ cs.size → (∀ k, k < n → (el k).length = sz) →
   (∀ k j, k < n → j < sz → (cs.getD (k * sz + j) undef).oneCell' = true ∧ IRel A w ((el k).getD j (.v undef)) (cs.getD (k * sz + j) undef)) → EntRel A B w (.arr n sz el t) (some (.cells cs t (0, 0)))
 | mapE (es : List (Int × IV)) (entries : Array MapEntry) (clock : Nat) : KeysOk es entries clock → (∀ i, i < es.length → IRel A w (es.getD i mz).2 (entries.getD i me0).val) → EntRel A B w (.mapE es) (some (.map entries clock))
 | itE (es : List (Int × IV)) (seen : List Nat) (b : Nat) : IRel A w (.mq es) (.map (some b)) → (∀ i ∈ seen, i < es.length) → EntRel A B w (.itE es seen) (some (.mapIter (some b) es.length seen.toArray es.length))
theorem EntRel.trans {A A' : Nat → Prop} {B B' : Bmap} {w w' : World} (ht : Trans A w w') (hA : ∀ b, b < w.heap.size → A' b → A b)
  (hB : ∀ s β, B s = some β → B' s = some β) {e : Ent} {o : Option Obj} (h : EntRel A B w e o) : EntRel A' B' w' e o := by
 cases h with
 | cells l t cs hs h => exact .cells l t cs hs fun j hj => (h j hj).trans ht hA hB
 | arr n sz el t cs hs hl h => exact .arr n sz el t cs hs hl fun k j hk hj => ⟨(h k j hk hj).1, (h k j hk hj).2.trans ht hA⟩
 | mapE es entries clock hk hv => exact .mapE es entries clock hk fun i hi => (hv i hi).trans ht hA
 | itE es seen b h hs => exact .itE es seen b (h.trans ht hA) hs
theorem EntRel.isCells {A : Nat → Prop} {B : Bmap} {w : World} {n sz : Nat} {el : Nat → List IV} {t : TypeId} {o : Option Obj} (h : EntRel A B w (.arr n sz el t) o) : ∃ cs t, o = some (.cells cs t (0, 0)) := by
 cases h with
 | arr n sz el t cs _ _ _ => exact ⟨cs, t, rfl⟩
structure Ctx where
 A0 : Nat → Prop
 X : Nat → Prop
 w0 : World
 k : Nat
 B0 : Bmap
structure Ctx.Ok (C : Ctx) : Prop where
 a0 : ∀ b, C.A0 b → b < C.w0.heap.size
 x : ∀ b, C.X b → b < C.w0.heap.size
 disj : ∀ b, C.A0 b → ¬ C.X b
structure Kept (X : Nat → Prop) (a w : World) : Prop where
 os : w.os = a.os
 tape : w.tape = a.tape
 output : w.output = a.output
 size : a.heap.size ≤ w.heap.size
 block : ∀ k, k < a.heap.size → ¬ X k → w.heap[k]? = a.heap[k]?
 rows : ∀ (k : Nat) (D : Array Value) (t : TypeId) (fz : Nat × Nat), a.heap[k]? = some (.cells D t fz) → ∃ D' t' fz', w.heap[k]? = some (.cells D' t' fz') ∧ D'.size = D.size
theorem Kept.refl (X : Nat → Prop) (w : World) : Kept X w w := ⟨rfl, rfl, rfl, Nat.le_refl _, fun _ _ _ => rfl, fun _ D t fz h => ⟨D, t, fz, h, rfl⟩⟩
theorem Kept.trans {X Y : Nat → Prop} {a b c : World} (h : Kept X a b) (k : Kept Y b c) (hY : ∀ i, i < a.heap.size → Y i → X i) : Kept X a c :=
 ⟨k.os.trans h.os, k.tape.trans h.tape, k.output.trans h.output, Nat.le_trans h.size k.size, fun i hi hx => (k.block i (Nat.lt_of_lt_of_le hi h.size) (fun hy => hx (hY i hi hy))).trans (h.block i hi hx),
  fun i D t fz hD => by
   obtain ⟨D', t', fz', h1, h2⟩ := h.rows i D t fz hD
   obtain ⟨D2, t2, fz2, h3, h4⟩ := k.rows i D' t' fz' h1
   exact ⟨D2, t2, fz2, h3, h4.trans h2⟩⟩
theorem Kept.of_below {w w' : World} (h : Below w.heap.size w w') (X : Nat → Prop) : Kept X w w' :=
 ⟨h.os, h.tape, h.output, h.size, fun k hk _ => h.block k hk, fun k D t fz hD => ⟨D, t, fz, by rw [h.block k (lt_of_heap hD)]; exact hD, rfl⟩⟩
theorem Kept.below {w w' : World} (h : Kept (fun _ => False) w w') : Below w.heap.size w w' := ⟨h.os, h.tape, h.output, h.size, fun k hk => h.block k hk (fun h => h)⟩
def ownOf (A0 : Nat → Prop) (B : Bmap) (m : Mem) (b : Nat) : Prop := A0 b ∨ ∃ s e, m s = some e ∧ B s = some b
def Ent.none0 : Ent → Prop
 | .arr n _ _ _ => n = 0
 | _ => False
structure Holds (C : Ctx) (B : Bmap) (S : St) (a : Act) (w : World) : Prop where
 defers : a.defers = []
 size : a.tmps.size = S.tm.length
 tm : ∀ t, t < S.tm.length → ARel (ownOf C.A0 B S.mem) B w (S.tm.getD t .any) (a.tmps.getD t undef)
 mem : ∀ s e, S.mem s = some e → (∃ β, B s = some β ∧ EntRel (ownOf C.A0 B S.mem) B w e w.heap[β]?) ∨ (B s = none ∧ e.none0)
 inj : ∀ s s' e e' β, S.mem s = some e → S.mem s' = some e' → B s = some β → B s' = some β → s = s'
 kept : Kept C.X C.w0 w
 old : ∀ s β, B s = some β → (C.w0.heap.size ≤ β ∨ C.X β) ∧ β < w.heap.size
 fresh : ∀ s, S.nx ≤ s → B s = none
 base : ∀ s, s < C.k → B s = C.B0 s
 kle : C.k ≤ S.nx
def Between (C : Ctx) (S : St) (s : Nat) : Prop := C.k ≤ s ∧ s < S.nx
end Go.Vse
namespace Go.Vse
open Go.RowKit
def Rels (A : Nat → Prop) (B : Bmap) (w : World) (l : List AV) (cs : List Value) : Prop :=
 cs.length = l.length ∧ ∀ j, j < l.length → ARel A B w (l.getD j .any) (cs.getD j undef)
section
variable {A : Nat → Prop} {B : Bmap} {w : World}
theorem Rels.nil : Rels A B w [] [] := ⟨rfl, fun j hj => by simp at hj⟩
theorem Rels.cons {x : AV} {v : Value} {l : List AV} {cs : List Value} (h : ARel A B w x v) (hl : Rels A B w l cs) : Rels A B w (x :: l) (v :: cs) :=
 ⟨by simp [hl.1], fun j hj => by
  cases j with
  | zero => simpa using h
  | succ j => simpa using hl.2 j (by simpa using hj)⟩
theorem Rels.head {x : AV} {l : List AV} {cs : List Value} (h : Rels A B w (x :: l) cs) : ∃ v cs', cs = v :: cs' ∧ ARel A B w x v ∧ Rels A B w l cs' := by
 obtain ⟨hl, h⟩ := h
 cases cs with
 | nil => simp at hl
 | cons v cs' =>
  refine ⟨v, cs', rfl, by simpa using h 0 (by simp), by simpa using hl, fun j hj => by simpa using h (j + 1) (by simpa using hj)⟩
theorem Rels.nil_inv {cs : List Value} (h : Rels A B w [] cs) : cs = [] := List.eq_nil_of_length_eq_zero (by simpa using h.1)
theorem Rels.append {l m : List AV} {cs ds : List Value} (h : Rels A B w l cs) (k : Rels A B w m ds) : Rels A B w (l ++ m) (cs ++ ds) := by
 refine ⟨by simp [h.1, k.1], fun j hj => ?_⟩
 by_cases hlt : j < l.length
 ·have := h.2 j hlt
  simpa [List.getD_eq_getElem?_getD, List.getElem?_append_left hlt, List.getElem?_append_left (show j < cs.length by rw [h.1]; exact hlt)] using this
 ·have := k.2 (j - l.length) (by simp at hj; omega)
  simpa [List.getD_eq_getElem?_getD, List.getElem?_append_right (Nat.le_of_not_lt hlt), List.getElem?_append_right (show cs.length ≤ j by rw [h.1]; omega), h.1] using this
theorem Rels.take {l : List AV} {cs : List Value} (h : Rels A B w l cs) (n : Nat) : Rels A B w (l.take n) (cs.take n) := by
 refine ⟨by simp [h.1], fun j hj => ?_⟩
 have hj' : j < n ∧ j < l.length := by simp at hj; omega
 have := h.2 j hj'.2
 simpa [List.getD_eq_getElem?_getD, List.getElem?_take, hj'.1] using this
theorem Rels.drop {l : List AV} {cs : List Value} (h : Rels A B w l cs) (n : Nat) : Rels A B w (l.drop n) (cs.drop n) := by
 refine ⟨by simp [h.1], fun j hj => ?_⟩
 have := h.2 (n + j) (by simp at hj; omega)
 simpa [List.getD_eq_getElem?_getD, List.getElem?_drop] using this
theorem Rels.get {l : List AV} {cs : List Value} (h : Rels A B w l cs) {i : Nat} {x : AV} (hx : l[i]? = some x) : ∃ v, cs[i]? = some v ∧ ARel A B w x v := by
 have hlt : i < l.length := (List.getElem?_eq_some_iff.1 hx).1
 have := h.2 i hlt
 refine ⟨cs[i]'(by rw [h.1]; exact hlt), List.getElem?_eq_getElem _, ?_⟩
 simpa [List.getD_eq_getElem?_getD, hx, List.getElem?_eq_getElem (show i < cs.length by rw [h.1]; exact hlt)] using this
theorem Rels.get' {l : List AV} {cs : List Value} (h : Rels A B w l cs) {i : Nat} {v : Value} (hv : cs[i]? = some v) : ∃ x, l[i]? = some x ∧ ARel A B w x v := by
 have hlt : i < cs.length := (List.getElem?_eq_some_iff.1 hv).1
 have hlt' : i < l.length := by rw [← h.1]; exact hlt
 refine ⟨l[i], List.getElem?_eq_getElem _, ?_⟩
 have := h.2 i hlt'
 simpa [List.getD_eq_getElem?_getD, hv, List.getElem?_eq_getElem hlt'] using this
theorem ARel.agg_iff {l : List AV} {cs : Array Value} : ARel A B w (.agg l) (.agg cs) ↔ Rels A B w l cs.toList := by
 constructor
 · intro h
   cases h with
   | agg _ _ hs h => exact ⟨by simpa using hs, fun j hj => by simpa [Array.getD_eq_getD_getElem?, List.getD_eq_getElem?_getD] using h j hj⟩
 · intro h
   exact .agg l cs (by simpa using h.1) fun j hj => by simpa [Array.getD_eq_getD_getElem?, List.getD_eq_getElem?_getD] using h.2 j hj
theorem ARel.agg_inv {l : List AV} {v : Value} (h : ARel A B w (.agg l) v) : ∃ cs : List Value, v = .agg cs.toArray ∧ Rels A B w l cs := by
 cases h with
 | agg _ cs hs h => exact ⟨cs.toList, by simp, (ARel.agg_iff.1 (.agg l cs hs h))⟩
theorem ARel.agg_mk {l : List AV} {cs : List Value} (h : Rels A B w l cs) : ARel A B w (.agg l) (.agg cs.toArray) := ARel.agg_iff.2 (by simpa using h)
theorem ARel.tup_inv {l : List AV} {v : Value} (h : ARel A B w (.tup l) v) : ∃ cs : List Value, v = .tuple cs.toArray ∧ Rels A B w l cs := by
 cases h with
 | tup _ cs hs h => exact ⟨cs.toList, by simp, ⟨by simpa using hs, fun j hj => by simpa [Array.getD_eq_getD_getElem?, List.getD_eq_getElem?_getD] using h j hj⟩⟩
theorem ARel.tup_mk {l : List AV} {cs : List Value} (h : Rels A B w l cs) : ARel A B w (.tup l) (.tuple cs.toArray) :=
 .tup l cs.toArray (by simpa using h.1) fun j hj => by simpa [Array.getD_eq_getD_getElem?, List.getD_eq_getElem?_getD] using h.2 j hj
theorem ARel.fn_inv {f : FuncId} {l : List AV} {v : Value} (h : ARel A B w (.fn f l) v) : ∃ cs : List Value, v = .func (.func f) #[] cs.toArray ∧ Rels A B w l cs := by
 cases h with
 | fn _ _ cs hs h => exact ⟨cs.toList, by simp, ⟨by simpa using hs, fun j hj => by simpa [Array.getD_eq_getD_getElem?, List.getD_eq_getElem?_getD] using h j hj⟩⟩
theorem ARel.fn_mk {f : FuncId} {l : List AV} {cs : List Value} (h : Rels A B w l cs) : ARel A B w (.fn f l) (.func (.func f) #[] cs.toArray) :=
 .fn f l cs.toArray (by simpa using h.1) fun j hj => by simpa [Array.getD_eq_getD_getElem?, List.getD_eq_getElem?_getD] using h.2 j hj
theorem ARel.ptr_inv {b off : Nat} {v : Value} (h : ARel A B w (.ptr b off) v) : ∃ β, B b = some β ∧ v = .pointer (some ⟨β, off, none⟩) := by
 cases h with
 | ptr _ _ β hβ => exact ⟨β, hβ, rfl⟩
theorem ARel.plain {x v : Value} (h : ARel A B w (.c (.v x)) v) : v = x := by
 cases h with
 | c _ _ h => cases h; rfl
theorem ARel.lit (x : Value) : ARel A B w (.c (.v x)) x := .c _ _ (.v x)
theorem rel_cells {x : AV} {v : Value} (h : ARel A B w x v) (hx : (cellsA x).all cellOk = true ∨ ∃ l, x = .agg l) : Rels A B w (cellsA x) v.cells.toList := by
 cases x with
 | agg l =>
   obtain ⟨cs, rfl, hr⟩ := h.agg_inv
   simpa [cellsA, Value.cells] using hr
 | tup l => rcases hx with hx | ⟨_, hx⟩ <;> simp [cellsA, cellOk] at hx
 | any => rcases hx with hx | ⟨_, hx⟩ <;> simp [cellsA, cellOk] at hx
 | c i =>
   have h1 : v.oneCell' = true := by
     rcases hx with hx | ⟨_, hx⟩
     · exact h.oneCell (by simpa [cellsA] using hx)
     · cases hx
   have : v.cells = #[v] := by cases v <;> first | rfl | (simp [Value.oneCell'] at h1)
   rw [this]; exact .cons h .nil
 | _ =>
   have h1 : v.oneCell' = true := h.oneCell rfl
   have : v.cells = #[v] := by cases v <;> first | rfl | (simp [Value.oneCell'] at h1)
   rw [this]; exact .cons h .nil
theorem rels_oneCell {l : List AV} {cs : List Value} (h : Rels A B w l cs) (hl : l.all cellOk = true) : ∀ v ∈ cs, v.oneCell' = true := by
 intro v hv
 obtain ⟨i, hi⟩ := List.getElem?_of_mem hv
 obtain ⟨x, hx, hr⟩ := h.get' hi
 exact hr.oneCell (List.all_eq_true.1 hl x (List.mem_of_getElem? hx))
theorem rel_ofCell (v : Value) : ARel A B w (ofCell v) v := by
 exact .lit v
theorem rels_ofCells (l : List Value) : Rels A B w (l.map ofCell) l :=
 ⟨by simp, fun j hj => by
  have hj' : j < l.length := by simpa using hj
  simpa [List.getD_eq_getElem?_getD, hj'] using rel_ofCell l[j]⟩
theorem rel_ofValue (v : Value) : ARel A B w (ofValue v) v := by
 unfold ofValue
 split
 ·rename_i cs
  have := ARel.agg_mk (rels_ofCells (A := A) (B := B) (w := w) cs.toList)
  simpa using this
 ·exact rel_ofCell v
end
theorem eval_rel {C : Ctx} {B : Bmap} {S : St} {a : Act} {w : World} (H : Holds C B S a w) (x : Operand) :
  ARel (ownOf C.A0 B S.mem) B w (evalA S.tm x) (a.eval x) := by
 cases x with
 | tmp t =>
  simp only [evalA, Act.eval]
  by_cases ht : t < S.tm.length
  ·exact H.tm t ht
  ·simp only [List.getD_eq_getElem?_getD, List.getElem?_eq_none (Nat.le_of_not_lt ht), Option.getD_none]
   exact .any _
 | const v => exact rel_ofValue v
 | global g => exact .lit _
 | func f => exact .lit _
theorem evals_rel {C : Ctx} {B : Bmap} {S : St} {a : Act} {w : World} (H : Holds C B S a w) (l : List Operand) :
  Rels (ownOf C.A0 B S.mem) B w (l.map (evalA S.tm)) (l.map a.eval) := by
 induction l with
 | nil => exact .nil
 | cons x l ih => exact .cons (eval_rel H x) ih
theorem Holds.put {C : Ctx} {B : Bmap} {S : St} {a : Act} {w : World} (H : Holds C B S a w) {x : AV} {v : Value} (d : Option Tmp)
  (h : ARel (ownOf C.A0 B S.mem) B w x v) : Holds C B { S with tm := putTm S.tm d x } (a.put d v) w := by
 cases d with
 | none => exact { H with }
 | some d =>
  refine { defers := H.defers, size := ?_, tm := ?_, mem := H.mem, inj := H.inj, kept := H.kept, old := H.old, fresh := H.fresh, base := H.base, kle := H.kle }
  ·simpa [putTm, Act.put] using H.size
  ·intro t ht
   have ht' : t < S.tm.length := by simpa [putTm] using ht
   by_cases hd : d = t
   ·subst hd
    simpa [putTm, Act.put, List.getD_eq_getElem?_getD, Array.getD_eq_getD_getElem?, ht', H.size] using h
   ·have := H.tm t ht'
    simpa [putTm, Act.put, List.getD_eq_getElem?_getD, Array.getD_eq_getD_getElem?, List.getElem?_set_ne hd, Array.getElem?_setIfInBounds_ne hd] using this
theorem own_lt {C : Ctx} (hC : C.Ok) {B : Bmap} {S : St} {a : Act} {w : World} (H : Holds C B S a w) : ∀ b, ownOf C.A0 B S.mem b → b < w.heap.size := by
 intro b hb
 rcases hb with hb | ⟨s, e, _, h⟩
 ·exact Nat.lt_of_lt_of_le (hC.a0 b hb) H.kept.size
 ·exact (H.old s b h).2
theorem Holds.move {C : Ctx} {B : Bmap} {S : St} {a : Act} {w w' : World} (H : Holds C B S a w) (hb : Below w.heap.size w w') :
  Holds C B S a w' := by
 have ht : Trans (ownOf C.A0 B S.mem) w w' := .of_below hb
 refine { defers := H.defers, size := H.size, tm := fun t h => (H.tm t h).trans ht (fun _ _ h => h) (fun _ _ h => h), mem := ?_, inj := H.inj, kept := H.kept.trans (Kept.of_below hb (fun _ => False)) (fun _ _ h => h.elim), old := ?_, fresh := H.fresh, base := H.base, kle := H.kle }
 ·intro s e he
  rcases H.mem s e he with ⟨β, h1, h3⟩ | h
  ·refine .inl ⟨β, h1, ?_⟩
   rw [hb.block β (H.old s β h1).2]
   exact h3.trans ht (fun _ _ h => h) (fun _ _ h => h)
  ·exact .inr h
 ·intro s β h
  exact ⟨(H.old s β h).1, Nat.lt_of_lt_of_le (H.old s β h).2 hb.size⟩
def setB (B : Bmap) (s β : Nat) : Bmap := fun j => if j = s then some β else B j
theorem mem_set_eq (m : Mem) (s : Nat) (e : Option Ent) (j : Nat) : (m.set s e) j = if j = s then e else m j := by
 unfold Mem.set
 by_cases h : j = s
 ·subst h; simp
 ·have : Nat.beq j s = false := by
   cases hb : Nat.beq j s
   ·rfl
   ·exact absurd (Nat.eq_of_beq_eq_true hb) h
  simp [this, h]
theorem Holds.alloc {C : Ctx} {B : Bmap} {S : St} {a : Act} {w : World} (H : Holds C B S a w) (hC : C.Ok) {s : Nat} (hs : B s = none) (hnx : Between C S s)
  {e : Ent} {ob : Obj} (he : EntRel (ownOf C.A0 B S.mem) B w e (some ob)) :
  Holds C (setB B s w.heap.size) { S with mem := S.mem.set s (some e) } a (w.alloc ob) := by
 have hbel : Below w.heap.size w (w.alloc ob) := (Below.refl _ _).alloc (Nat.le_refl _) _
 have ht : Trans (ownOf C.A0 B S.mem) w (w.alloc ob) := .of_below hbel
 have hB : ∀ j β, B j = some β → setB B s w.heap.size j = some β := by
  intro j β hj
  unfold setB
  split
  ·rename_i h; subst h; rw [hs] at hj; cases hj
  ·exact hj
 have hA : ∀ b, b < w.heap.size → ownOf C.A0 (setB B s w.heap.size) (S.mem.set s (some e)) b → ownOf C.A0 B S.mem b := by
  intro b hb h
  rcases h with h | ⟨j, e', h1, h2⟩
  ·exact .inl h
  ·rw [mem_set_eq] at h1
   unfold setB at h2
   by_cases hj : j = s
   ·subst hj; simp at h2; omega
   ·simp only [hj, if_false] at h1 h2; exact .inr ⟨j, e', h1, h2⟩
 have h0 : C.w0.heap.size ≤ w.heap.size := H.kept.size
 refine { defers := H.defers, size := H.size, tm := fun t h => (H.tm t h).trans ht hA hB, mem := ?_, inj := ?_, kept := H.kept.trans (Kept.of_below hbel (fun _ => False)) (fun _ _ h => h.elim), old := ?_, fresh := ?_, base := ?_, kle := H.kle }
 ·intro j e' hj
  simp only [mem_set_eq] at hj
  by_cases hjs : j = s
  ·subst hjs
   simp only [if_true, Option.some.injEq] at hj
   subst hj
   refine .inl ⟨w.heap.size, by simp [setB], ?_⟩
   rw [show (w.alloc ob).heap[w.heap.size]? = some ob by show (w.heap.push _)[w.heap.size]? = _; simp]
   exact he.trans ht hA hB
  ·simp only [hjs, if_false] at hj
   rcases H.mem j e' hj with ⟨β, h1, h3⟩ | ⟨h1, h2⟩
   ·refine .inl ⟨β, hB _ _ h1, ?_⟩
    rw [hbel.block β (H.old j β h1).2]
    exact h3.trans ht hA hB
   ·exact .inr ⟨by simp [setB, hjs, h1], h2⟩
 ·intro j j' e1 e2 β m1 m2 h1 h2
  simp only [mem_set_eq] at m1 m2
  unfold setB at h1 h2
  by_cases hj : j = s <;> by_cases hj' : j' = s
  ·rw [hj, hj']
  ·simp only [hj, hj', if_true, if_false, Option.some.injEq] at h1 h2
   subst h1; exact absurd (H.old j' _ h2).2 (Nat.lt_irrefl _)
  ·simp only [hj, hj', if_true, if_false, Option.some.injEq] at h1 h2
   subst h2; exact absurd (H.old j _ h1).2 (Nat.lt_irrefl _)
  ·simp only [hj, hj', if_false] at h1 h2 m1 m2; exact H.inj j j' e1 e2 β m1 m2 h1 h2
 ·intro j β h
  unfold setB at h
  by_cases hj : j = s
  ·simp only [hj, if_true, Option.some.injEq] at h; subst h; exact ⟨.inl h0, by rw [World.size_alloc]; omega⟩
  ·simp only [hj, if_false] at h; exact ⟨(H.old j β h).1, Nat.lt_of_lt_of_le (H.old j β h).2 hbel.size⟩
 ·intro j hj
  have : j ≠ s := by rintro rfl; exact absurd hj (Nat.not_le.2 hnx.2)
  unfold setB
  simp only [this, if_false]
  exact H.fresh j hj
 ·intro j hj
  have : j ≠ s := by rintro rfl; exact absurd hj (Nat.not_lt.2 hnx.1)
  unfold setB
  simp only [this, if_false]
  exact H.base j hj
theorem Holds.drop {C : Ctx} {B : Bmap} {S : St} {a : Act} {w : World} (H : Holds C B S a w) (s : Nat) : Holds C B { S with mem := S.mem.set s none } a w := by
 have hA : ∀ b, b < w.heap.size → ownOf C.A0 B (S.mem.set s none) b → ownOf C.A0 B S.mem b := by
  intro b _ h
  rcases h with h | ⟨j, e2, h1, h2⟩
  ·exact .inl h
  ·rw [mem_set_eq] at h1
   by_cases hj : j = s
   ·simp [hj] at h1
   ·simp only [hj, if_false] at h1; exact .inr ⟨j, e2, h1, h2⟩
 refine { defers := H.defers, size := H.size, tm := fun t h => (H.tm t h).trans (Trans.refl _ _) hA (fun _ _ h => h), mem := ?_, inj := ?_, kept := H.kept, old := H.old, fresh := H.fresh, base := H.base, kle := H.kle }
 rotate_left
 ·intro j j' e1 e2 β m1 m2 h1 h2
  simp only [mem_set_eq] at m1 m2
  by_cases hj : j = s
  ·simp [hj] at m1
  ·by_cases hj' : j' = s
   ·simp [hj'] at m2
   ·simp only [hj, hj', if_false] at m1 m2; exact H.inj j j' e1 e2 β m1 m2 h1 h2
 intro j e hj
 simp only [mem_set_eq] at hj
 by_cases hjs : j = s
 ·simp [hjs] at hj
 ·simp only [hjs, if_false] at hj
  rcases H.mem j e hj with ⟨β, h1, h3⟩ | h
  ·exact .inl ⟨β, h1, h3.trans (Trans.refl _ _) hA (fun _ _ h => h)⟩
  ·exact .inr h
theorem Holds.turn {C : Ctx} {B : Bmap} {S : St} {a : Act} {w w' : World} (H : Holds C B S a w) {s β : Nat} {e e' : Ent} (hm : S.mem s = some e) (hβ : B s = some β)
  (hk : Kept (fun b => b = β) w w') {cs cs' : Array Value} {t t' : TypeId} {fz fz' : Nat × Nat} (hc : w.heap[β]? = some (.cells cs t fz)) (hc' : w'.heap[β]? = some (.cells cs' t' fz')) (hsz : cs'.size = cs.size)
  (he : EntRel (ownOf C.A0 B S.mem) B w' e' w'.heap[β]?) : Holds C B { S with mem := S.mem.set s (some e') } a w' := by
 have hown : ownOf C.A0 B S.mem β := .inr ⟨s, e, hm, hβ⟩
 have hlt : β < w.heap.size := lt_of_heap hc
 have ht : Trans (ownOf C.A0 B S.mem) w w' := by
  refine ⟨hk.size, fun b hb hn => hk.block b hb (by rintro rfl; exact hn hown), fun b _ D t2 fz2 hD => ?_⟩
  by_cases hbb : b = β
  ·subst hbb
   rw [hc] at hD
   simp only [Option.some.injEq, Obj.cells.injEq] at hD
   obtain ⟨rfl, rfl, rfl⟩ := hD
   exact ⟨cs', t', fz', hc', hsz⟩
  ·exact ⟨D, t2, fz2, by rw [hk.block b (lt_of_heap hD) hbb]; exact hD, rfl⟩
 have hA : ∀ b, b < w.heap.size → ownOf C.A0 B (S.mem.set s (some e')) b → ownOf C.A0 B S.mem b := by
  intro b _ h
  rcases h with h | ⟨j, e2, h1, h2⟩
  ·exact .inl h
  ·rw [mem_set_eq] at h1
   by_cases hj : j = s
   ·subst hj; exact .inr ⟨j, e, hm, h2⟩
   ·simp only [hj, if_false] at h1; exact .inr ⟨j, e2, h1, h2⟩
 have hA' : ∀ b, b < w'.heap.size → ownOf C.A0 B (S.mem.set s (some e')) b → ownOf C.A0 B S.mem b := by
  intro b _ h
  rcases h with h | ⟨j, e2, h1, h2⟩
  ·exact .inl h
  ·rw [mem_set_eq] at h1
   by_cases hj : j = s
   ·subst hj; exact .inr ⟨j, e, hm, h2⟩
   ·simp only [hj, if_false] at h1; exact .inr ⟨j, e2, h1, h2⟩
 refine { defers := H.defers, size := H.size, tm := fun t h => (H.tm t h).trans ht hA (fun _ _ h => h), mem := ?_, inj := ?_, kept := ?_, old := fun j γ h => ⟨(H.old j γ h).1, Nat.lt_of_lt_of_le (H.old j γ h).2 hk.size⟩, fresh := H.fresh, base := H.base, kle := H.kle }
 ·intro j e2 hj
  simp only [mem_set_eq] at hj
  by_cases hjs : j = s
  ·subst hjs
   simp only [if_true, Option.some.injEq] at hj
   subst hj
   exact .inl ⟨β, hβ, he.trans (Trans.refl _ _) hA' (fun _ _ h => h)⟩
  ·simp only [hjs, if_false] at hj
   rcases H.mem j e2 hj with ⟨γ, h1, h3⟩ | h
   ·refine .inl ⟨γ, h1, ?_⟩
    rw [hk.block γ (H.old j γ h1).2 (by rintro rfl; exact hjs (H.inj j s _ _ γ hj hm h1 hβ))]
    exact h3.trans ht hA (fun _ _ h => h)
   ·exact .inr h
 ·have live : ∀ j e2, (S.mem.set s (some e')) j = some e2 → ∃ e3, S.mem j = some e3 := by
   intro j e2 hj
   rw [mem_set_eq] at hj
   by_cases hjs : j = s
   ·subst hjs; exact ⟨e, hm⟩
   ·simp only [hjs, if_false] at hj; exact ⟨e2, hj⟩
  intro j j' e1 e2 γ m1 m2 h1 h2
  obtain ⟨e3, m1⟩ := live j e1 m1
  obtain ⟨e4, m2⟩ := live j' e2 m2
  exact H.inj j j' e3 e4 γ m1 m2 h1 h2
 ·refine H.kept.trans hk fun i hi hib => ?_
  subst hib
  rcases (H.old s i hβ).1 with h | h
  ·exact absurd hi (Nat.not_lt.2 h)
  ·exact h
theorem kept_setRow (w : World) (β : Nat) (cs : Array Value) {cur : Array Value} {t : TypeId} {fz : Nat × Nat} (hc : w.heap[β]? = some (.cells cur t fz)) (hsz : cs.size = cur.size) : Kept (fun b => b = β) w (w.setRow β cs) :=
 ⟨rfl, rfl, rfl, by simp, fun k _ hk => setRow_other w β k cs hk, fun k D t' fz' hD => by
  by_cases hk : k = β
  ·subst hk
   rw [hc] at hD
   simp only [Option.some.injEq, Obj.cells.injEq] at hD
   obtain ⟨rfl, rfl, rfl⟩ := hD
   exact ⟨cs, t, fz, setRow_heap w k cur cs t fz hc, hsz⟩
  ·exact ⟨D, t', fz', by rw [setRow_other w β k cs hk]; exact hD, rfl⟩⟩
theorem Holds.setRow {C : Ctx} {B : Bmap} {S : St} {a : Act} {w : World} (H : Holds C B S a w) {s β : Nat} {e e' : Ent} (hm : S.mem s = some e) (hβ : B s = some β)
  {cs cs' : Array Value} {t : TypeId} (hc : w.heap[β]? = some (.cells cs t (0, 0))) (hsz : cs'.size = cs.size)
  (he : EntRel (ownOf C.A0 B S.mem) B w e' (some (.cells cs' t (0, 0)))) : Holds C B { S with mem := S.mem.set s (some e') } a (w.setRow β cs') := by
 have hown : ownOf C.A0 B S.mem β := .inr ⟨s, e, hm, hβ⟩
 have hc' := setRow_heap w β cs cs' t (0, 0) hc
 have ht : Trans (ownOf C.A0 B S.mem) w (w.setRow β cs') := by
  refine ⟨by simp, fun b hb hn => setRow_other w β b cs' (by rintro rfl; exact hn hown), fun b _ D t' fz hD => ?_⟩
  by_cases hbb : b = β
  ·subst hbb
   rw [hc] at hD
   simp only [Option.some.injEq, Obj.cells.injEq] at hD
   obtain ⟨rfl, rfl, rfl⟩ := hD
   exact ⟨cs', t, (0, 0), hc', hsz⟩
  ·exact ⟨D, t', fz, by rw [setRow_other w β b cs' hbb]; exact hD, rfl⟩
 refine H.turn hm hβ (kept_setRow w β cs' hc hsz) hc hc' hsz ?_
 rw [hc']
 exact he.trans ht (fun _ _ h => h) (fun _ _ h => h)
end Go.Vse
namespace Go.Vse
open Go.RowKit
variable {P : Program} {A : Nat → Prop} {B : Bmap} {w : World}
theorem run_size {t n : Nat} (h : sizeP P t = some n) : (sizeOf t).run P w = .ok n w := by
 unfold sizeP at h
 cases hi : P.info? t with
 | none => simp [hi] at h
 | some i => simp only [hi, Option.map_some, Option.some.injEq] at h; simp [sizeOf, typeInfo, hi, h]
theorem run_zero {t : Nat} {z : Value} (h : zeroP P t = some z) : (zeroValue t).run P w = .ok z w := by
 unfold zeroP at h
 cases hi : P.info? t with
 | none => simp [hi] at h
 | some i => simp only [hi, Option.bind_some] at h; simp [zeroValue, typeInfo, hi, h]
theorem run_isAgg' {t : Nat} {d : TypeDesc} (h : P.underlying t = some d) : (isAgg t).run P w = .ok (isAggP P t) w := by
 unfold isAgg isAggP
 rw [Sem.run_bind, run_underlying h]
 simp only [h, Result.andThen_ok]
 cases d <;> rfl
theorem partA_cases {t : Nat} {l : List AV} {off : Nat} {x : AV} (h : partA P t l off = some x) : ∃ d, P.underlying t = some d ∧
  ((isAggP P t = true ∧ ∃ n, sizeP P t = some n ∧ off + n ≤ l.length ∧ x = .agg ((l.drop off).take n)) ∨ (isAggP P t = false ∧ l[off]? = some x)) := by
 have row : ∀ {n : Option Nat}, rowA n l off = some x → ∃ m, n = some m ∧ off + m ≤ l.length ∧ x = .agg ((l.drop off).take m) := by
  intro n hn
  unfold rowA at hn
  cases n with
  | none => simp at hn
  | some n =>
   simp only [] at hn
   cases hb : Nat.ble (off + n) l.length with
   | false => simp [hb] at hn
   | true =>
    simp only [hb, cond_true, Option.some.injEq] at hn
    exact ⟨n, rfl, by simpa using hb, hn.symm⟩
 unfold partA at h
 unfold isAggP
 cases hu : P.underlying t with
 | none => simp [hu] at h
 | some d =>
  refine ⟨d, rfl, ?_⟩
  rw [hu] at h
  cases d <;> first
   | exact .inl ⟨rfl, row h⟩
   | exact .inr ⟨rfl, h⟩
theorem run_part {t : Nat} {l : List AV} {cs : List Value} (hr : Rels A B w l cs) {off : Nat} {x : AV} (h : partA P t l off = some x) :
  ∃ v, (part t cs.toArray off).run P w = .ok v w ∧ ARel A B w x v := by
 obtain ⟨d, hu, h⟩ := partA_cases h
 unfold part
 rw [Sem.run_bind, run_isAgg' hu, Result.andThen_ok]
 rcases h with ⟨hag, n, hs, hle, rfl⟩ | ⟨hag, hx⟩
 ·refine ⟨.agg ((cs.drop off).take n).toArray, ?_, ARel.agg_mk ((hr.drop off).take n)⟩
  simp only [hag, if_true, Sem.run_bind, run_size hs, Result.andThen_ok, Sem.run_pure]
  congr 2
  apply Array.ext'
  simp [List.extract_eq_take_drop, List.take_drop]
 ·obtain ⟨v, hv, hrel⟩ := hr.get hx
  refine ⟨v, ?_, hrel⟩
  simp [hag, hv]
theorem toList_data (s : ByteArray) : s.toList = s.data.toList := ByteArray.toList_eq s
theorem andAll_cons (b : Bool) (l : List Bool) : andAll (b :: l) = (b && andAll l) := by cases l <;> simp [andAll]
theorem eqFields_sound {d : Nat} {l m : List AV} {cs ds : List Value} (hl : Rels A B w l cs) (hm : Rels A B w m ds)
   (ih : ∀ t x y b vx vy, eqA P d t x y = some b → ARel A B w x vx → ARel A B w y vy → ∀ d', d ≤ d' → (Op.equalIn d' t vx vy).run P w = .ok b w) {d' : Nat} (hd : d ≤ d') :
   ∀ (fs : List Field) (bs : List Bool), (fs.mapM fun f : Field => bif f.name == "_" then none else
       match partA P f.type l f.offset, partA P f.type m f.offset with
       | some a, some b => eqA P d f.type a b
       | _, _ => none) = some bs → (Op.eqFields d' cs.toArray ds.toArray fs).run P w = .ok (andAll bs) w
 | [], bs, h => by simp at h; subst h; simp [Op.eqFields, andAll]
 | f :: fs, bs, h => by
   simp only [List.mapM_cons, Option.bind_eq_bind, Option.pure_def] at h
   cases hn : f.name == "_" with
   | true => simp [hn] at h
   | false =>
     have hne : f.name ≠ "_" := by simpa using hn
     simp only [hn, cond_false] at h
     cases ha : partA P f.type l f.offset with
     | none => simp [ha] at h
     | some a =>
       cases hb : partA P f.type m f.offset with
       | none => simp [ha, hb] at h
       | some b =>
         simp only [ha, hb] at h
         cases he : eqA P d f.type a b with
         | none => simp [he] at h
         | some r =>
           simp only [he, Option.bind_some] at h
           cases hrest : (fs.mapM fun f : Field => bif f.name == "_" then none else
             match partA P f.type l f.offset, partA P f.type m f.offset with
             | some a, some b => eqA P d f.type a b
             | _, _ => none) with
           | none => rw [hrest] at h; simp at h
           | some rs =>
             rw [hrest] at h
             simp only [Option.bind_some, Option.some.injEq] at h
             subst h
             obtain ⟨va, hva, hra⟩ := run_part hl ha
             obtain ⟨vb, hvb, hrb⟩ := run_part hm hb
             have h1 := ih f.type a b r va vb he hra hrb d' hd
             have h2 := eqFields_sound hl hm ih hd fs rs hrest
             simp only [Op.eqFields, hne, ne_eq, not_false_eq_true, if_true, Sem.run_bind, hva, hvb, h1, Result.andThen_ok, Sem.run_ite, andAll_cons]
             cases r <;> simp [h2]
theorem eqElems_sound {d : Nat} {e sz : Nat} {l m : List AV} {cs ds : List Value} (hl : Rels A B w l cs) (hm : Rels A B w m ds)
   (ih : ∀ t x y b vx vy, eqA P d t x y = some b → ARel A B w x vx → ARel A B w y vy → ∀ d', d ≤ d' → (Op.equalIn d' t vx vy).run P w = .ok b w) {d' : Nat} (hd : d ≤ d') :
   ∀ (is : List Nat) (bs : List Bool), (is.mapM fun i =>
       match partA P e l (i * sz), partA P e m (i * sz) with
       | some a, some b => eqA P d e a b
       | _, _ => none) = some bs →
     (forIn (m := Sem) is ((none, ()) : Option Bool × Unit) fun i r => do
         let x ← part e cs.toArray (i * sz)
         let y ← part e ds.toArray (i * sz)
         let b ← Op.equalIn d' e x y
         if (!b) = true then pure (ForInStep.done (some false, ())) else pure (ForInStep.yield (none, ()))).run P w = .ok (if andAll bs = true then (none, ()) else (some false, ())) w
 | [], bs, h => by simp at h; subst h; simp [andAll]
 | i :: is, bs, h => by
   simp only [List.mapM_cons, Option.bind_eq_bind, Option.pure_def] at h
   cases ha : partA P e l (i * sz) with
   | none => simp [ha] at h
   | some a =>
     cases hb : partA P e m (i * sz) with
     | none => simp [ha, hb] at h
     | some b =>
       simp only [ha, hb] at h
       cases he : eqA P d e a b with
       | none => simp [he] at h
       | some r =>
         simp only [he, Option.bind_some] at h
         cases hrest : (is.mapM fun i =>
           match partA P e l (i * sz), partA P e m (i * sz) with
           | some a, some b => eqA P d e a b
           | _, _ => none) with
         | none => rw [hrest] at h; simp at h
         | some rs =>
           rw [hrest] at h
           simp only [Option.bind_some, Option.some.injEq] at h
           subst h
           obtain ⟨va, hva, hra⟩ := run_part hl ha
           obtain ⟨vb, hvb, hrb⟩ := run_part hm hb
           have h1 := ih e a b r va vb he hra hrb d' hd
           have h2 := eqElems_sound hl hm ih hd is rs hrest
           simp only [List.forIn_cons, Sem.run_bind, hva, hvb, h1, Result.andThen_ok, Sem.run_ite, andAll_cons]
           cases r with
           | true =>
             simp only [Bool.not_true, Bool.false_eq_true, if_false, Sem.run_pure, Result.andThen_ok, Bool.true_and]
             exact h2
           | false => simp
theorem eqA_sound : ∀ (d t : Nat) (x y : AV) (b : Bool) (vx vy : Value), eqA P d t x y = some b → ARel A B w x vx → ARel A B w y vy → ∀ d', d ≤ d' →
   (Op.equalIn d' t vx vy).run P w = .ok b w
 | 0, _, _, _, _, _, _, h, _, _, _, _ => by simp [eqA] at h
 | d + 1, t, x, y, b, vx, vy, h, hx, hy, d', hd => by
   obtain ⟨e, rfl⟩ : ∃ e, d' = e + 1 := ⟨d' - 1, by omega⟩
   have hd' : d ≤ e := by omega
   have ih := fun t x y b vx vy => eqA_sound d t x y b vx vy
   unfold eqA at h
   split at h
   · rename_i a b' hu
     obtain rfl := hx.plain
     obtain rfl := hy.plain
     simp only [Option.some.injEq] at h
     subst h
     exact run_equalIn_bool' w e t a b' hu
   · rename_i k0 k a k' b' hu
     obtain rfl := hx.plain
     obtain rfl := hy.plain
     split at h
     · rename_i hk
       subst hk
       simp only [Option.some.injEq] at h
       subst h
       exact run_equalIn_int w e t k k0 a b' hu
     · cases h
   · rename_i a b' hu
     obtain rfl := hx.plain
     obtain rfl := hy.plain
     simp only [Option.some.injEq] at h
     subst h
     rw [run_equalIn_string w e t a b' hu, toList_data, toList_data]
   · rename_i fs l m hu
     cases hst : P.stoodInHeld t with
     | true => simp [hst] at h
     | false =>
       simp only [hst, cond_false, Option.map_eq_some_iff] at h
       obtain ⟨bs, h, rfl⟩ := h
       obtain ⟨cs, rfl, hl⟩ := hx.agg_inv
       obtain ⟨ds, rfl, hm⟩ := hy.agg_inv
       have hf : P.fieldsOf t = fs := by simp [Program.fieldsOf, hu]
       rw [run_equalIn_agg w e t cs.toArray ds.toArray (by rw [hf]; exact hu) hst, hf]
       exact eqFields_sound hl hm ih hd' fs.toList bs h
   · rename_i n el l m hu
     cases hs : sizeP P el with
     | none => simp [hs] at h
     | some sz =>
       simp only [hs, Option.map_eq_some_iff] at h
       obtain ⟨bs, h, rfl⟩ := h
       obtain ⟨cs, rfl, hl⟩ := hx.agg_inv
       obtain ⟨ds, rfl, hm⟩ := hy.agg_inv
       have := eqElems_sound (e := el) (sz := sz) hl hm ih hd' (List.range n) bs h
       simp only [Op.equalIn, Sem.run_bind, run_underlying hu, Result.andThen_ok, run_size hs]
       rw [Std.Legacy.Range.forIn_eq_forIn_range']
       simp only [Std.Legacy.Range.size, List.range_eq_range'] at this ⊢
       simp only [Nat.sub_zero, Nat.add_sub_cancel, Nat.div_one] 
       rw [this, Result.andThen_ok]
       cases andAll bs <;> simp
   · cases h
end Go.Vse
namespace Go.Vse
open Go.RowKit
variable {P : Program} {A : Nat → Prop} {B : Bmap} {w : World}
theorem run_eqGuard_other (op : BinOp) (t : TypeId) (x y : Operand) (a b : Value) (h1 : a ≠ .nilIface) (h2 : ∀ c, a ≠ .agg c) :
  (eqGuard op t x y a b).run P w = .ok () w := by
 unfold eqGuard
 cases a <;> first
  | exact absurd rfl h1
  | exact absurd rfl (h2 _)
  | (cases op <;> rfl)
theorem intBin_sound {op : BinOp} {k : IntKind} {a b : Int} {r : Eff} (h : intBin op k a b = some r) (hc : ∀ p ∈ r.conds, p) (t : TypeId) (hns : op ≠ .shl) (hnr : op ≠ .shr) :
  r.upd = [] ∧ ∃ v, (binOp op t (.int k a) (.int k b)).run P w = .ok v w ∧ ARel A B w r.val v := by
 cases op <;> simp only [intBin, Option.some.injEq] at h <;> (try cases h) <;> refine ⟨rfl, _, ?_, ARel.lit _⟩ <;>
  simp only [binOp, ne_eq, not_true_eq_false, if_false, Op.intArith, Op.intCmp, Op.intBits, Op.intDiv, Sem.run_pure] <;> first
   | rfl
   | (have := dec (hc (decide (b ≠ 0)) (by simp)); simp [this])
theorem shiftA_sound {op : BinOp} {k k' : IntKind} {a b : Int} {r : Eff} (h : shiftA op k a b = some r) (hc : ∀ p ∈ r.conds, p) (t : TypeId) :
  r.upd = [] ∧ ∃ v, (binOp op t (.int k a) (.int k' b)).run P w = .ok v w ∧ ARel A B w r.val v := by
 cases op <;> simp only [shiftA, Option.some.injEq] at h <;> (try cases h) <;> refine ⟨rfl, _, ?_, ARel.lit _⟩ <;>
  (have := dec (hc (decide (¬ b < 0)) (by simp)); simp [binOp, Op.shift, this])
theorem strBin_sound {op : BinOp} {a b : ByteArray} {r : Eff} (h : strBin op a b = some r) (hc : ∀ p ∈ r.conds, p) (t : TypeId) :
   r.upd = [] ∧ ∃ v, (binOp op t (.string a) (.string b)).run P w = .ok v w ∧ ARel A B w r.val v := by
 cases op <;> simp only [strBin, Option.some.injEq] at h <;> (try cases h) <;> refine ⟨rfl, _, ?_, ARel.lit _⟩ <;> first
   | (simp [binOp, Op.stringOp, toList_data]; done)
   | (have := dec (hc (decide (a.size + b.size ≤ 9223372036854775807)) (by simp))
      simp only [binOp, Op.stringOp]
      rw [if_neg]
      · rfl
      · simp only [IntKind.max, IntKind.bits, IntKind.signed]; simp; omega)
theorem aggEq_sound {op : BinOp} {t : TypeId} {l m : List AV} {r : Eff} (h : aggEq P op t l m = some r) {vx vy : Value} (hx : ARel A B w (.agg l) vx) (hy : ARel A B w (.agg m) vy) (xo yo : Operand) :
  r.upd = [] ∧ ∃ v, (do eqGuard op t xo yo vx vy; binOp op t vx vy : Sem Value).run P w = .ok v w ∧ ARel A B w r.val v := by
 unfold aggEq at h
 cases hg : P.eqGuardType P.depth t with
 | true => simp [hg] at h
 | false =>
  simp only [hg, cond_false] at h
  obtain ⟨cs, rfl, hl⟩ := hx.agg_inv
  obtain ⟨ds, rfl, hm⟩ := hy.agg_inv
  cases he : eqA P 8 t (.agg l) (.agg m) with
  | none => simp [he] at h
  | some b =>
   have hq := eqA_sound 8 t _ _ b _ _ he hx hy 10000 (by omega)
   cases op <;> simp only [he] at h <;> (try cases h) <;> refine ⟨rfl, _, ?_, ARel.lit _⟩ <;>
    simp only [Sem.run_bind, run_eqGuard_agg w _ t xo yo _ _ hg, Result.andThen_ok, run_eql_struct, run_neq_struct, hq]
theorem run_equalIn_ptr (w : World) (d : Nat) (t e : TypeId) (x : Option Addr) (hu : P.underlying t = some (.pointer e)) : (Op.equalIn (d + 1) t (.pointer x) (.pointer none)).run P w = .ok (x.isNone) w := by
 cases x <;> simp [Op.equalIn, Sem.run_bind, run_underlying hu]
theorem ptrCmp_sound {op : BinOp} {t : TypeId} {x : Option Addr} {r : Eff} (h : ptrCmp P op t x.isNone = some r) (xo yo : Operand) :
  r.upd = [] ∧ ∃ v, (do eqGuard op t xo yo (.pointer x) (.pointer none); binOp op t (.pointer x) (.pointer none) : Sem Value).run P w = .ok v w ∧ ARel A B w r.val v := by
 rw [Sem.run_bind, run_eqGuard_other op t xo yo _ _ (by simp) (by simp), Result.andThen_ok]
 unfold ptrCmp at h
 split at h
 ·rename_i e hu
  cases h
  exact ⟨rfl, _, by simp [binOp, Op.equal, Op.maxDepth, run_equalIn_ptr w 9999 t e x hu], ARel.lit _⟩
 ·rename_i e hu
  cases h
  exact ⟨rfl, _, by simp [binOp, Op.equal, Op.maxDepth, run_equalIn_ptr w 9999 t e x hu], ARel.lit _⟩
 ·cases h
theorem run_equalIn_slnil (w : World) (d : Nat) (t e : TypeId) (x : Addr) (n c : Nat) (hu : P.underlying t = some (.slice e)) : (Op.equalIn (d + 1) t (.slice (some x) n c) (.slice none 0 0)).run P w = .ok false w := by
 simp [Op.equalIn, Sem.run_bind, run_underlying hu]
theorem slCmp_sound {op : BinOp} {t : TypeId} {n sz : Nat} {el : Nat → List IV} {r : Eff} (h : slCmp P op t n = some r) (hc : ∀ p ∈ r.conds, p) {v : Value} (hx : ARel A B w (.c (.sl n sz el)) v) (xo yo : Operand) :
  r.upd = [] ∧ ∃ u, (do eqGuard op t xo yo v (.slice none 0 0); binOp op t v (.slice none 0 0) : Sem Value).run P w = .ok u w ∧ ARel A B w r.val u := by
 have key : n ≠ 0 → ∃ x c, v = .slice (some x) n c := by
  intro hn
  cases hx with
  | c _ _ hi =>
   cases hi with
   | nil => exact absurd rfl hn
   | zero => exact absurd rfl hn
   | sl _ _ _ b off cap _ _ _ _ _ _ => exact ⟨_, _, rfl⟩
 unfold slCmp at h
 split at h
 ·rename_i e hu
  cases h
  obtain ⟨x, c, rfl⟩ := key (dec (hc (decide (n ≠ 0)) (by simp)))
  rw [Sem.run_bind, run_eqGuard_other _ t xo yo _ _ (by simp) (by simp), Result.andThen_ok]
  exact ⟨rfl, _, by simp [binOp, Op.equal, Op.maxDepth, run_equalIn_slnil w 9999 t e x n c hu], ARel.lit _⟩
 ·rename_i e hu
  cases h
  obtain ⟨x, c, rfl⟩ := key (dec (hc (decide (n ≠ 0)) (by simp)))
  rw [Sem.run_bind, run_eqGuard_other _ t xo yo _ _ (by simp) (by simp), Result.andThen_ok]
  exact ⟨rfl, _, by simp [binOp, Op.equal, Op.maxDepth, run_equalIn_slnil w 9999 t e x n c hu], ARel.lit _⟩
 ·cases h
theorem run_equalIn_slnn (w : World) (d : Nat) (t e : TypeId) (hu : P.underlying t = some (.slice e)) : (Op.equalIn (d + 1) t (.slice none 0 0) (.slice none 0 0)).run P w = .ok true w := by
 simp [Op.equalIn, Sem.run_bind, run_underlying hu]
theorem slLit_sound {op : BinOp} {t : TypeId} {same : Bool} {r : Eff} (h : slLit P op t same = some r) {x : Option Addr} {n c : Nat} (he : ∀ e, P.underlying t = some (.slice e) → (Op.equalIn 10000 t (.slice x n c) (.slice none 0 0)).run P w = .ok same w) (xo yo : Operand) :
  r.upd = [] ∧ ∃ u, (do eqGuard op t xo yo (.slice x n c) (.slice none 0 0); binOp op t (.slice x n c) (.slice none 0 0) : Sem Value).run P w = .ok u w ∧ ARel A B w r.val u := by
 unfold slLit at h
 split at h
 ·rename_i e hu
  cases h
  rw [Sem.run_bind, run_eqGuard_other _ t xo yo _ _ (by simp) (by simp), Result.andThen_ok]
  exact ⟨rfl, _, by simp [binOp, Op.equal, Op.maxDepth, he e hu], ARel.lit _⟩
 ·rename_i e hu
  cases h
  rw [Sem.run_bind, run_eqGuard_other _ t xo yo _ _ (by simp) (by simp), Result.andThen_ok]
  exact ⟨rfl, _, by simp [binOp, Op.equal, Op.maxDepth, he e hu], ARel.lit _⟩
 ·cases h
theorem binA_sound {op : BinOp} {t : TypeId} {x y : AV} {r : Eff} (h : binA P op t x y = some r) (hc : ∀ p ∈ r.conds, p) {vx vy : Value} (hx : ARel A B w x vx) (hy : ARel A B w y vy) (xo yo : Operand) :
  r.upd = [] ∧ ∃ v, (do eqGuard op t xo yo vx vy; binOp op t vx vy : Sem Value).run P w = .ok v w ∧ ARel A B w r.val v := by
 unfold binA at h
 split at h
 ·rename_i k a k' b
  obtain rfl := hx.plain
  obtain rfl := hy.plain
  rw [Sem.run_bind, run_eqGuard_other op t xo yo _ _ (by simp) (by simp), Result.andThen_ok]
  split at h
  ·exact shiftA_sound h hc t
  ·exact shiftA_sound h hc t
  ·rename_i h1 h2
   split at h
   ·rename_i hk; subst hk
    exact intBin_sound h hc t h1 h2
   ·cases h
 ·rename_i a b
  obtain rfl := hx.plain
  obtain rfl := hy.plain
  rw [Sem.run_bind, run_eqGuard_other op t xo yo _ _ (by simp) (by simp), Result.andThen_ok]
  exact strBin_sound h hc t
 ·rename_i a b
  obtain rfl := hx.plain
  obtain rfl := hy.plain
  rw [Sem.run_bind, run_eqGuard_other op t xo yo _ _ (by simp) (by simp), Result.andThen_ok]
  split at h
  ·rename_i hu
   cases h
   exact ⟨rfl, _, by simp [binOp, Op.equal, Op.maxDepth, run_equalIn_bool' w 9999 t a b hu], ARel.lit _⟩
  ·rename_i hu
   cases h
   exact ⟨rfl, _, by simp [binOp, Op.equal, Op.maxDepth, run_equalIn_bool' w 9999 t a b hu], ARel.lit _⟩
  ·cases h
 ·exact aggEq_sound h hx hy xo yo
 ·obtain rfl := hx.plain
  obtain rfl := hy.plain
  exact ptrCmp_sound (x := none) h xo yo
 ·obtain rfl := hy.plain
  cases hx with
  | ptr _ _ β _ => exact ptrCmp_sound (x := some _) h xo yo
 ·obtain rfl := hy.plain
  cases hx with
  | eptr _ _ _ _ β _ => exact ptrCmp_sound (x := some _) h xo yo
 ·obtain rfl := hy.plain
  cases hx with
  | iptr _ b off _ _ _ => exact ptrCmp_sound (x := some _) h xo yo
 ·obtain rfl := hy.plain
  exact slCmp_sound h hc hx xo yo
 ·obtain rfl := hx.plain
  obtain rfl := hy.plain
  exact slLit_sound h (x := none) (n := 0) (c := 0) (fun e => run_equalIn_slnn w 9999 t e) xo yo
 ·rename_i x n c
  obtain rfl := hx.plain
  obtain rfl := hy.plain
  exact slLit_sound h (x := some x) (n := n) (c := c) (fun e hu => run_equalIn_slnil w 9999 t e x n c hu) xo yo
 ·cases h
theorem unA_sound {op : UnOp} {x : AV} {r : Eff} (h : unA op x = some r) {vx : Value} (hx : ARel A B w x vx) :
  r.upd = [] ∧ ∃ v, (Op.unary op vx).run P w = .ok v w ∧ ARel A B w r.val v := by
 unfold unA at h
 split at h
 ·obtain rfl := hx.plain; cases h; exact ⟨rfl, _, rfl, ARel.lit _⟩
 ·obtain rfl := hx.plain; cases h; exact ⟨rfl, _, rfl, ARel.lit _⟩
 ·obtain rfl := hx.plain; cases h; exact ⟨rfl, _, rfl, ARel.lit _⟩
 ·cases h
theorem convA_sound {s d : TypeId} {x : AV} {r : Eff} (h : convA P s d x = some r) {vx : Value} (hx : ARel A B w x vx) :
  r.upd = [] ∧ ∃ v, (convert s d vx).run P w = .ok v w ∧ ARel A B w r.val v := by
 unfold convA at h
 split at h
 ·rename_i ds k k' n hs hd
  obtain rfl := hx.plain; cases h
  refine ⟨rfl, _, ?_, ARel.lit _⟩
  unfold convert
  simp only [Sem.run_bind, run_underlying hs, run_underlying hd, Result.andThen_ok]
  simp [Conv.intToInt]
 ·rename_i ds s' hs hd
  obtain rfl := hx.plain; cases h
  refine ⟨rfl, _, ?_, ARel.lit _⟩
  unfold convert
  simp only [Sem.run_bind, run_underlying hs, run_underlying hd, Result.andThen_ok]
  rfl
 ·cases h
end Go.Vse
namespace Go.Vse
open Go.RowKit
variable {P : Program} {A : Nat → Prop} {B : Bmap} {w : World}
theorem fold_set : ∀ (vs : List Value) (k off : Nat) (cs : Array Value), off + k + vs.length ≤ cs.size →
   (vs.zipIdx k).foldl (fun (cs : Array Value) (p : Value × Nat) => cs.setIfInBounds (off + p.2) p.1) cs = (cs.toList.take (off + k) ++ vs ++ cs.toList.drop (off + k + vs.length)).toArray
 | [], k, off, cs, h => by simp
 | v :: vs, k, off, cs, h => by
   simp only [List.zipIdx_cons, List.foldl_cons]
   rw [fold_set vs (k + 1) off (cs.setIfInBounds (off + k) v) (by simp at h ⊢; omega)]
   congr 1
   have e := list_seg_step cs.toList (off + k) v vs (by simp at h ⊢; omega)
   simpa [Array.toList_setIfInBounds, Nat.add_assoc] using e
theorem fill_sound {places : List (Nat × Nat)} {place : Nat → Option (Nat × Nat)} (hp : ∀ i p, places[i]? = some p → place i = some p) : ∀ (parts : List (Nat × AV)) (vparts : List (Nat × Value)) (l l' : List AV) (cs : List Value),
   fillA places l parts = some l' → Rels A B w l cs → vparts.length = parts.length →
   (∀ j, j < parts.length → (vparts.getD j (0, undef)).1 = (parts.getD j (0, .any)).1 ∧ ARel A B w (parts.getD j (0, .any)).2 (vparts.getD j (0, undef)).2) →
   ∃ cs', Instr.fill place cs.toArray vparts = some cs'.toArray ∧ Rels A B w l' cs'
 | [], vparts, l, l', cs, h, hr, hl, _ => by
   simp only [fillA, Option.some.injEq] at h
   subst h
   obtain rfl : vparts = [] := List.eq_nil_of_length_eq_zero (by simpa using hl)
   exact ⟨cs, rfl, hr⟩
 | (i, x) :: parts, vparts, l, l', cs, h, hr, hl, hv => by
   cases vparts with
   | nil => simp at hl
   | cons p vparts =>
     obtain ⟨i', v⟩ := p
     have h0 := hv 0 (by simp)
     simp only [List.getD_cons_zero] at h0
     obtain ⟨rfl, hx⟩ := h0
     simp only [fillA] at h
     cases hpl : places[i']? with
     | none => simp [hpl] at h
     | some q =>
       obtain ⟨off, n⟩ := q
       simp only [hpl] at h
       cases hb : (Nat.beq (cellsA x).length n && Nat.ble (off + n) l.length && (cellsA x).all cellOk) with
       | false => simp [hb] at h
       | true =>
         simp only [hb, cond_true] at h
         simp only [Bool.and_eq_true, Nat.beq_eq, Nat.ble_eq] at hb
         obtain ⟨⟨hn, hle⟩, hok⟩ := hb
         have hc := rel_cells hx (.inl hok)
         have hlen : v.cells.size = n := by have := hc.1; simpa [hn] using this
         have hcl : off + n ≤ cs.length := by rw [hr.1]; exact hle
         have hr2 : Rels A B w (l.take off ++ cellsA x ++ l.drop (off + n)) (cs.take off ++ v.cells.toList ++ cs.drop (off + n)) := ((hr.take off).append hc).append (hr.drop (off + n))
         obtain ⟨cs', hf, hr'⟩ := fill_sound hp parts vparts _ l' _ h hr2 (by simpa using hl) (fun j hj => by simpa using hv (j + 1) (by simpa using hj))
         refine ⟨cs', ?_, hr'⟩
         simp only [Instr.fill, hp i' _ hpl]
         rw [if_neg (by simp; omega)]
         have e := fold_set v.cells.toList 0 off cs.toArray (by simp; omega)
         have e2 : v.cells.zipIdx.foldl (fun (cs : Array Value) (p : Value × Nat) => cs.setIfInBounds (off + p.2) p.1) cs.toArray = (cs.take off ++ v.cells.toList ++ cs.drop (off + n)).toArray := by
           rw [← Array.foldl_toList, Array.toList_zipIdx, e]
           simp [hlen]
         rw [e2]
         exact hf
theorem buildA_sound {t : TypeId} {parts : List (Nat × AV)} {r : Eff} (h : buildA P t parts = some r) {vparts : Array (Nat × Value)} (hl : vparts.size = parts.length)
  (hv : ∀ j, j < parts.length → (vparts.toList.getD j (0, undef)).1 = (parts.getD j (0, .any)).1 ∧ ARel A B w (parts.getD j (0, .any)).2 (vparts.toList.getD j (0, undef)).2) :
  r.upd = [] ∧ ∃ v, (Instr.build t vparts).run P w = .ok v w ∧ ARel A B w r.val v := by
 unfold buildA at h
 split at h
 ·rename_i fs z hu hz
  cases hp : placesA P fs with
  | none => simp [hp] at h
  | some places =>
   simp only [hp] at h
   cases hf : fillA places (cellsOf z) parts with
   | none => simp [hf] at h
   | some l =>
    simp only [hf, Option.some.injEq] at h
    subst h
    have hz' : Rels A B w (cellsOf z) z.cells.toList := rels_ofCells _
    obtain ⟨cs', hfill, hr'⟩ := fill_sound (place := (places.toArray[·]?)) (fun i p hi => by simpa using hi) parts vparts.toList _ l _ hf hz' (by simpa using hl) hv
    refine ⟨rfl, .agg cs'.toArray, run_build w t vparts cs'.toArray ?_, ARel.agg_mk hr'⟩
    unfold zeroP at hz
    cases hi : P.info? t with
    | none => simp [hi] at hz
    | some it =>
     simp only [hi, Option.bind_some] at hz
     simp only [Program.built, hi, hu, hz]
     unfold placesA at hp
     simp only [hp]
     simpa using hfill
 ·rename_i n e z hu hz
  cases hs : sizeP P e with
  | none => simp [hs] at h
  | some sz =>
   simp only [hs] at h
   cases hf : fillA ((List.range n).map fun i => (i * sz, sz)) (cellsOf z) parts with
   | none => simp [hf] at h
   | some l =>
    simp only [hf, Option.some.injEq] at h
    subst h
    have hz' : Rels A B w (cellsOf z) z.cells.toList := rels_ofCells _
    obtain ⟨cs', hfill, hr'⟩ := fill_sound (place := fun i => some (i * sz, sz)) (fun i p hi => by
     simp only [List.getElem?_map, Option.map_eq_some_iff] at hi
     obtain ⟨j, hj, rfl⟩ := hi
     rw [List.getElem?_eq_some_iff] at hj
     obtain ⟨_, rfl⟩ := hj
     simp) parts vparts.toList _ l _ hf hz' (by simpa using hl) hv
    refine ⟨rfl, .agg cs'.toArray, run_build w t vparts cs'.toArray ?_, ARel.agg_mk hr'⟩
    unfold zeroP at hz
    unfold sizeP at hs
    cases hi : P.info? t with
    | none => simp [hi] at hz
    | some it =>
     cases hie : P.info? e with
     | none => simp [hie] at hs
     | some ie =>
      simp only [hie, Option.map_some, Option.some.injEq] at hs
      simp only [hi, Option.bind_some] at hz
      simp only [Program.built, hi, hu, hz, hie, hs]
      simpa using hfill
 ·cases h
theorem run_loadVar_part {t : Nat} {l : List AV} {cs : Array Value} {β off : Nat} {ty : TypeId} {fz : Nat × Nat} (hc : w.heap[β]? = some (.cells cs ty fz))
   (hr : Rels A B w l cs.toList) {x : AV} (h : partA P t l off = some x) : ∃ v, (loadVar t ⟨β, off, none⟩).run P w = .ok v w ∧ ARel A B w x v := by
 obtain ⟨d, hu, h⟩ := partA_cases h
 unfold loadVar
 rw [Sem.run_bind, run_isAgg' hu, Result.andThen_ok]
 rcases h with ⟨hag, n, hs, hle, rfl⟩ | ⟨hag, hx⟩
 · refine ⟨.agg ((cs.toList.drop off).take n).toArray, ?_, ARel.agg_mk ((hr.drop off).take n)⟩
   have hlen : ((cs.toList.drop off).take n).length = n := by have := hr.1; simp at this ⊢; omega
   have hload := run_loadCells_list (P := P) w ⟨β, off, none⟩ ((cs.toList.drop off).take n) (fun j v hv => by
     rw [Addr.add_mid]
     simp only [World.cell?, hc]
     have hj : j < n := by have := (List.getElem?_eq_some_iff.1 hv).1; omega
     simpa [List.getElem?_take, hj, List.getElem?_drop] using hv)
   rw [hlen] at hload
   simp only [hag, if_true, Sem.run_bind, run_size hs, Result.andThen_ok, hload, Sem.run_pure]
 · obtain ⟨v, hv, hrel⟩ := hr.get hx
   refine ⟨v, ?_, hrel⟩
   have : w.cell? ⟨β, off, none⟩ = some v := by simp only [World.cell?, hc]; simpa using hv
   simp [hag, this]
theorem run_storeVar_part {t n : Nat} (hs : sizeP P t = some n) {cs : Array Value} {β off : Nat} {ty : TypeId} (hc : w.heap[β]? = some (.cells cs ty (0, 0))) {v : Value}
  (hn : v.cells.size = n) (hle : off + n ≤ cs.size) (h1 : ∀ x ∈ v.cells.toList, x.oneCell' = true) :
  (storeVar t ⟨β, off, none⟩ v).run P w = .ok () (w.setRow β (cs.toList.take off ++ v.cells.toList ++ cs.toList.drop (off + n)).toArray) := by
 have := run_storeCells_at (P := P) β off ty v.cells.toList 0 cs w hc (by simp; omega) h1
 unfold storeVar
 rw [Sem.run_bind, run_size hs, Result.andThen_ok]
 rw [if_neg (by simpa using hn), this]
 simp [hn]
end Go.Vse
namespace Go.Vse
open Go.RowKit
variable {P : Program}
def SlIn (A : Nat → Prop) (w : World) (n sz : Nat) (el : Nat → List IV) (a : Option Addr) : Prop :=
 ∃ b off, a = some ⟨b, off, none⟩ ∧ b < w.heap.size ∧ (∀ k, k < n → (el k).length = sz) ∧
  ∀ k j, k < n → j < sz → (w.cell? ⟨b, off + (k * sz + j), none⟩).isSome = true ∧ (cellD w ⟨b, off + (k * sz + j), none⟩).oneCell' = true ∧
   IRel A w ((el k).getD j (.v undef)) (cellD w ⟨b, off + (k * sz + j), none⟩)
def SlRel (A : Nat → Prop) (w : World) (n sz : Nat) (el : Nat → List IV) (a : Option Addr) : Prop := n = 0 ∨ SlIn A w n sz el a
theorem mul_add_lt {k n sz j : Nat} (hk : k < n) (hj : j < sz) : k * sz + j < n * sz := by
 calc k * sz + j < k * sz + sz := by omega
  _ = (k + 1) * sz := by rw [Nat.add_mul, Nat.one_mul]
  _ ≤ n * sz := Nat.mul_le_mul_right _ hk
def slCells (w : World) (n sz : Nat) : Option Addr → List Value
 | none => []
 | some a => (List.range (n * sz)).map fun i => cellD w (a.add i)
theorem SlRel.length {A : Nat → Prop} {w : World} {n sz : Nat} {el : Nat → List IV} {a : Option Addr} (h : SlRel A w n sz el a) : (slCells w n sz a).length = n * sz := by
 rcases h with rfl | ⟨b, off, rfl, _⟩
 ·cases a <;> simp [slCells]
 ·simp [slCells]
theorem SlRel.cell {A : Nat → Prop} {w : World} {n sz : Nat} {el : Nat → List IV} {b off : Nat} (h : SlRel A w n sz el (some ⟨b, off, none⟩)) {i : Nat} (hi : i < n * sz) :
   (w.cell? ⟨b, off + i, none⟩).isSome = true ∧ (cellD w ⟨b, off + i, none⟩).oneCell' = true ∧ IRel A w ((el (i / sz)).getD (i % sz) (.v undef)) (cellD w ⟨b, off + i, none⟩) := by
 rcases h with rfl | ⟨b', off', he, _, hl, h⟩
 · simp at hi
 · simp only [Option.some.injEq, Addr.mk.injEq, and_true] at he
   obtain ⟨rfl, rfl⟩ := he
   have hsz : 0 < sz := by rcases Nat.eq_zero_or_pos sz with h0 | h0; · subst h0; simp at hi
                           exact h0
   have := h (i / sz) (i % sz) (Nat.div_lt_of_lt_mul (by rwa [Nat.mul_comm])) (Nat.mod_lt _ hsz)
   rwa [Nat.div_add_mod' i sz] at this
theorem SlRel.news {A : Nat → Prop} {w : World} {n sz : Nat} {el : Nat → List IV} {a : Addr} (h : SlRel A w n sz el (some a)) :
  (∀ j u, (slCells w n sz (some a))[j]? = some u → w.cell? (a.add j) = some u) ∧ ∀ u ∈ slCells w n sz (some a), u.oneCell' = true := by
 by_cases hn : n = 0
 ·subst hn
  simp [slCells]
 have ha : ∃ b off, a = ⟨b, off, none⟩ := by
  rcases h with h | ⟨b', off', he, _⟩
  ·exact absurd h hn
  ·simp only [Option.some.injEq] at he; exact ⟨b', off', he⟩
 obtain ⟨b, off, rfl⟩ := ha
 constructor
 ·intro j u hu
  simp only [slCells, List.getElem?_map, Option.map_eq_some_iff] at hu
  obtain ⟨i, hi, rfl⟩ := hu
  obtain ⟨hj, rfl⟩ := List.getElem?_eq_some_iff.1 hi
  simp only [List.getElem_range]
  simp only [List.length_range] at hj
  rw [Addr.add_mid]
  exact cell_of_cellD (h.cell hj).1
 ·intro u hu
  simp only [slCells, List.mem_map, List.mem_range] at hu
  obtain ⟨i, hi, rfl⟩ := hu
  rw [Addr.add_mid]
  exact (h.cell hi).2.1
theorem cellD_row {w : World} {β : Nat} {cs : Array Value} {t : TypeId} {fz : Nat × Nat} (h : w.heap[β]? = some (.cells cs t fz)) (i : Nat) : cellD w ⟨β, i, none⟩ = cs.getD i undef := by
 simp [cellD, World.cell?, h, Array.getD_eq_getD_getElem?]
theorem cell_row {w : World} {β : Nat} {cs : Array Value} {t : TypeId} {fz : Nat × Nat} (h : w.heap[β]? = some (.cells cs t fz)) {i : Nat} (hi : i < cs.size) : (w.cell? ⟨β, i, none⟩).isSome = true := by
 simp [World.cell?, h, hi]
variable {C : Ctx} {B : Bmap} {S : St} {a : Act} {w : World}
theorem arr_rel {A : Nat → Prop} {n sz : Nat} {el : Nat → List IV} {t : TypeId} {β : Nat} (h : EntRel A B w (.arr n sz el t) w.heap[β]?) :
  ∃ cs, w.heap[β]? = some (.cells cs t (0, 0)) ∧ n * sz ≤ cs.size ∧ ∀ k, k ≤ n → SlIn A w k sz el (some ⟨β, 0, none⟩) := by
 generalize ho : w.heap[β]? = o at h
 cases h with
 | arr _ _ _ _ cs hs hl h =>
  refine ⟨cs, rfl, hs, fun k hk => ⟨β, 0, rfl, lt_of_heap ho, fun i hi => hl i (by omega), fun i j hi hj => ?_⟩⟩
  have hlt : i * sz + j < cs.size := Nat.lt_of_lt_of_le (mul_add_lt (by omega : i < n) hj) hs
  simp only [Nat.zero_add]
  rw [cellD_row ho]
  exact ⟨cell_row ho hlt, (h i j (by omega) hj).1, (h i j (by omega) hj).2⟩
theorem viewSl_rel (H : Holds C B S a w) {x : AV} {v : Value} (hx : ARel (ownOf C.A0 B S.mem) B w x v) {n sz : Nat} {el : Nat → List IV} {cs : List Bool} {rs : List Nat} (h : viewSl S.mem x = some (n, sz, el, cs, rs)) (hc : ∀ p ∈ cs, p) :
  ∃ ad cap, v = .slice ad n cap ∧ n ≤ cap ∧ SlRel (ownOf C.A0 B S.mem) w n sz el ad := by
 unfold viewSl at h
 split at h
 ·rename_i n' sz' el'
  simp only [Option.some.injEq, Prod.mk.injEq] at h
  obtain ⟨rfl, rfl, rfl, rfl, rfl⟩ := h
  cases hx with
  | c _ _ hi =>
   cases hi with
   | nil => exact ⟨none, 0, rfl, Nat.le_refl _, .inl rfl⟩
   | zero => exact ⟨_, 0, rfl, Nat.le_refl _, .inl rfl⟩
   | sl _ _ _ b off cap hA hb hn hl hs h => exact ⟨_, cap, rfl, hn, .inr ⟨b, off, rfl, hb, hl, fun k j hk hj => ⟨(hs k j hk hj).1, (hs k j hk hj).2, h k j hk hj⟩⟩⟩
 ·simp only [Option.some.injEq, Prod.mk.injEq] at h
  obtain ⟨rfl, rfl, rfl, rfl, rfl⟩ := h
  exact ⟨none, 0, hx.plain, Nat.le_refl _, .inl rfl⟩
 ·simp only [Option.some.injEq, Prod.mk.injEq] at h
  obtain ⟨rfl, rfl, rfl, rfl, rfl⟩ := h
  exact ⟨_, _, hx.plain, Nat.zero_le _, .inl rfl⟩
 ·rename_i b n' sz'
  split at h
  ·rename_i m' sz2 el' t hm
   cases hb : Nat.beq sz' sz2 with
   | false => simp [hb] at h
   | true =>
    simp only [hb, cond_true, Option.some.injEq, Prod.mk.injEq] at h
    obtain ⟨rfl, rfl, rfl, rfl, rfl⟩ := h
    obtain rfl : sz' = sz2 := by simpa using hb
    have hle := dec (hc (decide (n' ≤ m')) (by simp))
    cases hx with
    | msl _ _ _ cap β hβ hn hmx hcc =>
     rcases H.mem b _ hm with ⟨γ, hγ, hent⟩ | ⟨hno, _⟩
     ·rw [hβ] at hγ
      cases hγ
      obtain ⟨cs, hcs, hsz, hsl⟩ := arr_rel hent
      exact ⟨_, cap, rfl, hn, .inr (hsl _ hle)⟩
     ·rw [hβ] at hno; cases hno
    | mnil => exact ⟨none, 0, rfl, Nat.le_refl _, .inl rfl⟩
  ·cases h
 ·cases h
end Go.Vse
namespace Go
def Fence.vse (ro : Option Nat) : Fence := { Fence.wide with round := ro }
def Oper.uponV (P : Program) (o : Oper) (a : Act) (next : Act → World → Prop) : Result Next → Prop
 | .ok (.value v) w' => next (a.put o.dst v) w'
 | .ok .skip w' => next (a.put o.dst undef) w'
 | .ok (.enter f args) w' => Calls P f args w' fun
   | .returned v, w'' => next (a.put o.dst v) w''
   | .panicked _, _ => False
   | .outgrown, _ => False
 | .ok (.round l f tmps assign body) w' => RoundIn Fence.wide 0 P l f tmps assign body w' fun
   | .returned v, w'' => next (a.put o.dst v) w''
   | .panicked _, _ => False
   | .outgrown, _ => False
 | _ => False
def Oper.wpV (P : Program) (o : Oper) (a : Act) (w : World) (next : Act → World → Prop) (_ : Exit → Act → World → Prop) : Prop :=
 o.uponV P a next ((execOp a.eval o).run P w)
theorem callsIn_vse {ro : Option Nat} {n : Nat} {P : Program} {f : FuncId} {args : Array Value} {w : World} {R : Ending → World → Prop} (h : Calls P f args w R) : CallsIn (Fence.vse ro) n P f args w R :=
 ⟨trivial, fun cs _ => (callsIn_wide (n := n).2 h).2 cs (room_wide _)⟩
theorem roundIn_vse {ro : Option Nat} {m n : Nat} {P : Program} {l : Nat} {f : FuncId} {tmps : Array Value} {assign body : Code} {w : World} {R : Ending → World → Prop} (h : RoundIn Fence.wide m P l f tmps assign body w R) :
  RoundIn (Fence.vse ro) n P l f tmps assign body w R :=
 ⟨trivial, fun c cs _ => h.2 c cs (room_wide _)⟩
theorem Oper.wpIn_of_wpV {P : Program} {o : Oper} {a : Act} {w : World} {next : Act → World → Prop} {Q : Exit → Act → World → Prop} (ro : Option Nat) (n : Nat) (hd : ∀ c, o.op ≠ .defer c) (h : o.wpV P a w next Q) :
  o.wpIn (Fence.vse ro) n P a w next Q := by
 refine ⟨fun _ _ => trivial, ?_⟩
 have hs : o.semAt (Fence.vse ro).round a.eval = execOp a.eval o := Oper.semAt_eq _ _ _ hd
 rw [hs]
 unfold Oper.wpV at h
 generalize (execOp a.eval o).run P w = r at *
 cases r with
 | halt x w' => cases x <;> exact h.elim
 | ok x w' =>
  cases x with
  | value v => exact h
  | skip => exact h
  | enter f args =>
   refine ⟨fun h => by simp [Fence.vse, Fence.wide] at h, callsIn_vse (Calls.mono h ?_)⟩
   intro e w'' he
   cases e with
   | returned v => exact he
   | panicked c => exact he.elim
   | outgrown => exact he.elim
  | round l f tmps assign body =>
   refine ⟨fun h => by simp [Fence.vse, Fence.wide] at h, roundIn_vse (RoundIn.mono h ?_)⟩
   intro e w'' he
   cases e with
   | returned v => exact he
   | panicked c => exact he.elim
   | outgrown => exact he.elim
  | _ => exact h.elim
theorem stepR_scope {P : Program} {b : Frame} {a : Act} {k : List Item} {cs : List Frame} {w : World} {c : Code} : step P (lone (b.atR a (.code (.scope c) :: k)) cs w) = .next (lone (b.atR a (.code c :: .inScope c :: k)) cs w) :=
 step_lone_go (by simp [stepG, stepG.exec, Frame.atR])
theorem stepR_inScope {P : Program} {b : Frame} {a : Act} {k : List Item} {cs : List Frame} {w : World} {c : Code} : step P (lone (b.atR a (.inScope c :: k)) cs w) = .next (lone (b.atR a k) cs w) :=
 step_lone_go (by simp [stepG, stepG.exec, Frame.atR])
theorem wpIn_scope_straight {F : Fence} {n : Nat} {P : Program} {Q : Exit → Act → World → Prop} {a : Act} {w : World} {c : Code} (h : c.wpIn F n P (Exit.noGoto Q) a w) : (Code.scope c).wpIn F n P Q a w := by
 intro b k cs hro hb hr
 obtain ⟨e, a₁, w₁, hq, harr⟩ := h b (.inScope c :: k) cs hro hb hr
 have s0 : StepsIn (Machine.fenced P F) P (lone (b.atR a (.code (.scope c) :: k)) cs w) (lone (b.atR a (.code c :: .inScope c :: k)) cs w) := .one (fenced_calm hb hr rfl) stepR_scope
 cases e with
 | normal => exact ⟨.normal, a₁, w₁, hq, StepsIn.trans s0 (StepsIn.trans harr (.one (fenced_calm hb hr rfl) stepR_inScope))⟩
 | exit id => exact ⟨.exit id, a₁, w₁, hq, fun k' hk => StepsIn.trans s0 (harr.1 k' (by simp [exitTo, hk])), fun hr hk => let ⟨k₁, h1, h2⟩ := harr.2 hr (by simp [exitTo, hk]); ⟨k₁, h1, StepsIn.trans s0 h2⟩⟩
 | goto l => exact hq.elim
 | ret => exact ⟨.ret, a₁, w₁, hq, fun hr => let ⟨todo, hs⟩ := harr.1 hr; ⟨todo, StepsIn.trans s0 hs⟩, fun hr => let ⟨k₁, hs⟩ := harr.2 hr; ⟨k₁, StepsIn.trans s0 hs⟩⟩
 | panic ch => exact ⟨.panic ch, a₁, w₁, hq, let ⟨todo, hs⟩ := harr; ⟨todo, StepsIn.trans s0 hs⟩⟩
 | outgrown => exact ⟨.outgrown, a₁, w₁, hq, harr.imp id (Outgrown.of_steps s0.steps)⟩
end Go
namespace Go.Vse
open Go.RowKit
section
variable {P : Program} {C : Ctx} {B : Bmap} {S : St} {a : Act} {w : World} {o : Oper} {r : Eff} {slot : Nat}
  {K : Act → World → Prop} {Q : Exit → Act → World → Prop}
abbrev Cont (C : Ctx) (B : Bmap) (slot : Nat) (S' : St) (K : Act → World → Prop) : Prop :=
 ∀ a' w' B', Holds C B' S' a' w' → (∀ j, j ≠ slot → B' j = B j) → K a' w'
theorem fin_case (hK : Cont C B slot (S.apply o.dst r) K) {v : Value} {w' : World} {B' : Bmap} (hrun : (execOp a.eval o).run P w = .ok (.value v) w')
  (H' : Holds C B' { S with mem := applyUpd S.mem r.upd } a w') (hrel : ARel (ownOf C.A0 B' (applyUpd S.mem r.upd)) B' w' r.val v) (hB : ∀ j, j ≠ slot → B' j = B j) : o.wpV P a w K Q := by
 unfold Oper.wpV
 rw [hrun]
 exact hK _ _ B' (H'.put o.dst hrel) hB
theorem run_bytes {t n : Nat} (h : bytesP P t = some n) {s : Nat} (hs : sizeP P t = some s) {z : Value} (hz : zeroP P t = some z) : ∃ i, P.info? t = some i ∧ i.bytes = n ∧ i.size = s ∧ i.zero = some z := by
 unfold bytesP at h
 unfold sizeP at hs
 unfold zeroP at hz
 cases hi : P.info? t with
 | none => simp [hi] at h
 | some i => simp [hi] at h hs hz; exact ⟨i, rfl, h, hs, hz⟩
theorem wrap_i64_id {n : Int} (h0 : 0 ≤ n) (h1 : n ≤ 9223372036854775807) : IntKind.i64.wrap n = n := IntWalk.i64_in n ⟨by omega, h1⟩
theorem run_makeSlice {t e p by_ : Nat} {n : Int} {z : Value} (hu : P.underlying t = some (.slice e)) (hs : sizeP P e = some (p + 1)) (hb : bytesP P e = some by_) (hz : zeroP P e = some z)
  (h0 : 0 ≤ n) (h1 : n ≤ 9223372036854775807) (h2 : (by_ : Int) * n ≤ 140737488355328) :
  (Instr.makeSlice t (.int .i64 n) (.int .i64 n)).run P w = .ok (.slice (some ⟨w.heap.size, 0, none⟩) n.toNat n.toNat) (w.alloc (.cells ((Array.range (n.toNat * (p + 1))).map (fun i => z.cells[i % z.cells.size]!)) e)) := by
 obtain ⟨i, hi, hib, his, hiz⟩ := run_bytes hb hs hz
 have hw := wrap_i64_id h0 h1
 have hl : (n < 0 || (by_ : Int) * n > 2 ^ 48) = false := by simp; omega
 unfold Instr.makeSlice
 simp only [Sem.run_bind, run_underlying hu, Result.andThen_ok, asInt, asIntOf, Sem.run_pure, typeInfo, run_program, hi, hib, hw, hl]
 have h00 : ¬ n < 0 := by omega
 by_cases hn : n.toNat * (p + 1) = 0
 ·have hr : Array.range 0 = #[] := rfl
  simp [h00, sizeOf, typeInfo, hi, his, hn, newRow, hr]
 ·have hne : n.toNat ≠ 0 := by rintro h; rw [h] at hn; simp at hn
  simp [h00, sizeOf, typeInfo, hi, his, hne, newRow, zeroValue, hiz]
  intro h; exact absurd h hn
theorem getD_map_v {l : List Value} {j : Nat} (hj : j < l.length) : (l.map IV.v).getD j (.v undef) = .v l[j] := by simp [List.getD_eq_getElem?_getD, hj]
theorem zeros_rel {A : Nat → Prop} {n p : Nat} {z : Value} {e : TypeId} {cs : Array Value} (hzs : z.cells.size = p + 1) (hok : z.cells.toList.all (·.oneCell') = true) (hsz : cs.size = n * (p + 1))
   (hcs : ∀ i, i < n * (p + 1) → cs.getD i undef = z.cells.toList.getD (i % (p + 1)) undef) :
   EntRel A B w (.arr n (p + 1) (fun _ => z.cells.toList.map .v) e) (some (.cells cs e (0, 0))) := by
 refine .arr n (p + 1) _ e cs (by omega) (fun k hk => by simpa using hzs) fun k j hk hj => ?_
 have hlt := mul_add_lt hk hj
 rw [hcs _ hlt]
 have hm : (k * (p + 1) + j) % (p + 1) = j := by rw [Nat.mul_comm, Nat.mul_add_mod, Nat.mod_eq_of_lt hj]
 rw [hm]
 have hjl : j < z.cells.toList.length := by simpa [hzs] using hj
 rw [getD_map_v hjl]
 have hv : z.cells.toList.getD j undef = z.cells.toList[j] := by rw [List.getD_eq_getElem?_getD, List.getElem?_eq_getElem hjl]; rfl
 rw [hv]
 exact ⟨List.all_eq_true.1 hok _ (List.getElem_mem hjl), .v _⟩
theorem makeSlice_case (hC : C.Ok) (H : Holds C B S a w) (hs : B slot = none) (hnx : Between C S slot) {t : TypeId} {x y : Operand} (hop : o.op = .makeSlice t x y)
   (h : makeSliceA P slot t (evalA S.tm x) (evalA S.tm y) = some r) (hc : ∀ p ∈ r.conds, p) (hK : Cont C B slot (S.apply o.dst r) K) : o.wpV P a w K Q := by
 have hx := eval_rel H x
 have hy := eval_rel H y
 unfold makeSliceA at h
 split at h
 · rename_i e n k hu hxe hye
   rw [hxe] at hx
   rw [hye] at hy
   split at h
   · rename_i p by_ z hsz hby hz
     cases hb : (Nat.beq z.cells.size (p + 1) && z.cells.toList.all (·.oneCell')) with
     | false => rw [hb] at h; cases h
     | true =>
       rw [hb] at h
       simp only [cond_true, Option.some.injEq] at h
       subst h
       simp only [Bool.and_eq_true, Nat.beq_eq] at hb
       have hnk : n = k := dec (hc _ (by simp))
       have h0 : 0 ≤ n := dec (hc _ (by simp))
       have h1 : n ≤ 9223372036854775807 := dec (hc _ (by simp))
       have h2 : (by_ : Int) * n ≤ 140737488355328 := dec (hc _ (by simp))
       subst hnk
       have hrun := run_makeSlice (w := w) hu hsz hby hz h0 h1 h2
       have hent := zeros_rel (A := ownOf C.A0 B S.mem) (B := B) (w := w) (n := n.toNat) (p := p) (z := z) (e := e) (cs := (Array.range (n.toNat * (p + 1))).map (fun i => z.cells[i % z.cells.size]!)) hb.1 hb.2 (by simp) (fun i hi => by
         have hz0 : i % z.cells.size < z.cells.size := Nat.mod_lt _ (by omega)
         simp [Array.getD_eq_getD_getElem?, hi, List.getD_eq_getElem?_getD, hb.1 ▸ hz0, hz0, hb.1])
       refine fin_case hK (w' := w.alloc (.cells ((Array.range (n.toNat * (p + 1))).map (fun i => z.cells[i % z.cells.size]!)) e)) (v := .slice (some ⟨w.heap.size, 0, none⟩) n.toNat n.toNat) (B' := setB B slot w.heap.size) ?_ (H.alloc hC hs hnx hent) ?_ (fun j hj => by simp [setB, hj])
       · simp only [execOp, hop, hx.plain, hy.plain, Sem.run_bind, hrun, Result.andThen_ok, Sem.run_pure]
       · refine .msl slot n.toNat (p + 1) n.toNat w.heap.size (by simp [setB]) (Nat.le_refl _) (by unfold maxLen; omega) ⟨_, e, (0, 0), by show (w.heap.push _)[w.heap.size]? = _; simp; rfl, by simp⟩
   · cases h
 · cases h
end
end Go.Vse
namespace Go.Vse
open Go.RowKit
section
variable {P : Program} {C : Ctx} {B : Bmap} {S : St} {a : Act} {w : World} {o : Oper} {r : Eff} {slot : Nat}
  {K : Act → World → Prop} {Q : Exit → Act → World → Prop}
theorem pure_fin (H : Holds C B S a w) (hK : Cont C B slot (S.apply o.dst r) K) {v : Value} (hrun : (execOp a.eval o).run P w = .ok (.value v) w)
  (hrel : ARel (ownOf C.A0 B S.mem) B w r.val v) (hu : r.upd = []) : o.wpV P a w K Q := by
 refine fin_case hK (B' := B) hrun ?_ ?_ (fun _ _ => rfl)
 ·rw [hu]; exact H
 ·rw [hu]; exact hrel
theorem addr_add' (β off n : Nat) : (⟨β, off, none⟩ : Addr).add n = ⟨β, off + n, none⟩ := Addr.add_mid β off n
theorem iptr_of_sl {A : Nat → Prop} {n sz : Nat} {el : Nat → List IV} {b off : Nat} (hA : ¬ A b) (hb : b < w.heap.size) {k : Nat} (hl : (el k).length = sz)
  (h : ∀ j, j < sz → (w.cell? ⟨b, off + (k * sz + j), none⟩).isSome = true ∧ IRel A w ((el k).getD j (.v undef)) (cellD w ⟨b, off + (k * sz + j), none⟩)) :
  ARel A B w (.iptr (el k)) (.pointer (some ⟨b, off + k * sz, none⟩)) := by
 refine .iptr _ b (off + k * sz) hA hb fun j hj => ?_
 rw [hl] at hj
 have := h j hj
 rw [Nat.add_assoc]
 exact this
theorem indexAddr_case (H : Holds C B S a w) {t : TypeId} {x y : Operand} (hop : o.op = .indexAddr t x y)
  (h : indexAddrA P S.mem t (evalA S.tm x) (evalA S.tm y) = some r) (hc : ∀ p ∈ r.conds, p)
  (hK : Cont C B slot (S.apply o.dst r) K) : o.wpV P a w K Q := by
 have hx := eval_rel H x
 have hy := eval_rel H y
 unfold indexAddrA at h
 split at h
 ·rename_i e ki i hu hye
  rw [hye] at hy
  have hyv := hy.plain
  split at h
  ·rename_i b n sz p hxe hp
   cases hz : Nat.beq p sz with
   | false => simp [hz] at h
   | true =>
   simp only [hz, cond_true, Option.some.injEq] at h
   subst h
   have hi := dec (hc (decide (0 ≤ i ∧ i < (n : Int))) (by simp))
   obtain rfl : p = sz := by simpa using hz
   rw [hxe] at hx
   generalize hvx : a.eval x = vx at hx
   cases hx with
   | msl _ _ _ cap β hβ hn hm hcc =>
    refine pure_fin H hK (v := .pointer (some ⟨β, i.toNat * p + 0, none⟩)) ?_ (.eptr b i.toNat 0 p β hβ) rfl
    simp [execOp, hop, Instr.indexAt, hyv, hvx, asIntOf, run_underlying hu, hi.1, hi.2, run_size hp, addr_add']
   | mnil => omega
  ·rename_i n sz el p hxe hp
   cases hz : Nat.beq p sz with
   | false => simp [hz] at h
   | true =>
    simp only [hz, cond_true, Option.some.injEq] at h
    subst h
    have hi := dec (hc (decide (0 ≤ i ∧ i < (n : Int))) (by simp))
    obtain rfl : p = sz := by simpa using hz
    rw [hxe] at hx
    generalize hvx : a.eval x = vx at hx
    cases hx with
    | c _ _ hi2 =>
     cases hi2 with
     | nil => omega
     | zero => omega
     | sl _ _ _ b off cap hA hb hn hl hs hh =>
      have hik : i.toNat < n := by omega
      refine pure_fin H hK (v := .pointer (some ⟨b, off + i.toNat * p, none⟩)) ?_ (iptr_of_sl (n := n) hA hb (hl _ hik) fun j hj => ⟨(hs _ j hik hj).1, hh _ j hik hj⟩) rfl
      simp [execOp, hop, Instr.indexAt, hyv, hvx, asIntOf, run_underlying hu, hi.1, hi.2, run_size hp, addr_add']
  ·rename_i b k n sz p hxe hp
   cases hz : Nat.beq p sz with
   | false => simp [hz] at h
   | true =>
    simp only [hz, cond_true, Option.some.injEq] at h
    subst h
    have hi := dec (hc (decide (0 ≤ i ∧ i < (n : Int))) (by simp))
    obtain rfl : p = sz := by simpa using hz
    rw [hxe] at hx
    generalize hvx : a.eval x = vx at hx
    cases hx with
    | ssl _ _ _ _ cap β hβ hn h0 hcc =>
     refine pure_fin H hK (v := .pointer (some ⟨β, (k + i.toNat) * p + 0, none⟩)) ?_ (.eptr b (k + i.toNat) 0 p β hβ) rfl
     have e : (k + i.toNat) * p + 0 = k * p + i.toNat * p := by rw [Nat.add_mul, Nat.add_zero]
     rw [e]
     simp [execOp, hop, Instr.indexAt, hyv, hvx, asIntOf, run_underlying hu, hi.1, hi.2, run_size hp, addr_add']
  ·cases h
 ·rename_i n e ki i hu hye
  rw [hye] at hy
  have hyv := hy.plain
  split at h
  ·rename_i b sz p hxe hp
   cases hz : Nat.beq sz p with
   | false => simp [hz] at h
   | true =>
    simp only [hz, cond_true, Option.some.injEq] at h
    subst h
    obtain rfl : sz = p := by simpa using hz
    have hi := dec (hc (decide (0 ≤ i ∧ i < (n : Int))) (by simp))
    rw [hxe] at hx
    generalize hvx : a.eval x = vx at hx
    cases hx with
    | eptr _ _ _ _ β hβ =>
     refine pure_fin H hK (v := .pointer (some ⟨β, i.toNat * sz + 0, none⟩)) ?_ (.eptr b i.toNat 0 sz β hβ) rfl
     simp [execOp, hop, Instr.indexAt, hyv, hvx, asIntOf, run_underlying hu, hi.1, hi.2, run_size hp, addr_add', Instr.sureAddr]
  ·rename_i b off p hxe hp
   cases h
   have hi := dec (hc (decide (0 ≤ i ∧ i < (n : Int))) (by simp))
   rw [hxe] at hx
   obtain ⟨β, hβ, hvx⟩ := hx.ptr_inv
   refine pure_fin H hK (v := .pointer (some ⟨β, off + i.toNat * p, none⟩)) ?_ (.ptr b _ β hβ) rfl
   simp [execOp, hop, Instr.indexAt, hyv, hvx, asIntOf, run_underlying hu, hi.1, hi.2, run_size hp, addr_add', Instr.sureAddr]
  ·cases h
 ·cases h
theorem rels_ivs {A : Nat → Prop} {l : List IV} {cs : List Value} (hl : cs.length = l.length) (h : ∀ j, j < l.length → IRel A w (l.getD j (.v undef)) (cs.getD j undef)) : Rels A B w (ivs l) cs :=
 ⟨by simpa [ivs] using hl, fun j hj => by
  have hj' : j < l.length := by simpa [ivs] using hj
  have := h j hj'
  simp only [ivs, List.getD_eq_getElem?_getD, List.getElem?_map, List.getElem?_eq_getElem hj', Option.map_some, Option.getD_some] at this ⊢
  exact .c _ _ this⟩
theorem run_loadVar_cells {A : Nat → Prop} {t : Nat} {l : List IV} {b off j : Nat} (h : ∀ i, i < l.length → (w.cell? ⟨b, off + i, none⟩).isSome = true ∧ IRel A w (l.getD i (.v undef)) (cellD w ⟨b, off + i, none⟩)) {x : AV}
   (hp : partA P t (ivs l) j = some x) : ∃ v, (loadVar t ⟨b, off + j, none⟩).run P w = .ok v w ∧ ARel A B w x v := by
 obtain ⟨d, hu, hp⟩ := partA_cases hp
 have hr : Rels A B w (ivs l) ((List.range l.length).map fun i => cellD w ⟨b, off + i, none⟩) :=
   rels_ivs (by simp) fun i hi => by
     have := (h i hi).2
     simpa [List.getD_eq_getElem?_getD, hi] using this
 unfold loadVar
 rw [Sem.run_bind, run_isAgg' hu, Result.andThen_ok]
 rcases hp with ⟨hag, n, hs, hle, rfl⟩ | ⟨hag, hx⟩
 · have hle' : j + n ≤ l.length := by simpa [ivs] using hle
   refine ⟨.agg ((((List.range l.length).map fun i => cellD w ⟨b, off + i, none⟩).drop j).take n).toArray, ?_, ARel.agg_mk ((hr.drop j).take n)⟩
   have hload := run_loadCells_list (P := P) w ⟨b, off + j, none⟩ ((((List.range l.length).map fun i => cellD w ⟨b, off + i, none⟩).drop j).take n) (fun i v hv => by
     rw [addr_add']
     have hin : i < n := by have := (List.getElem?_eq_some_iff.1 hv).1; simp at this; omega
     simp only [List.getElem?_take, hin, if_true, List.getElem?_drop, List.getElem?_map, Option.map_eq_some_iff] at hv
     obtain ⟨k, hk, rfl⟩ := hv
     obtain ⟨hk1, rfl⟩ := List.getElem?_eq_some_iff.1 hk
     simp only [List.getElem_range]
     rw [Nat.add_assoc]
     exact cell_of_cellD (h _ (by omega)).1)
   have hlen : ((((List.range l.length).map fun i => cellD w ⟨b, off + i, none⟩).drop j).take n).length = n := by simp; omega
   rw [hlen] at hload
   simp only [hag, if_true, Sem.run_bind, run_size hs, Result.andThen_ok, hload, Sem.run_pure]
 · obtain ⟨v, hv, hrel⟩ := hr.get hx
   refine ⟨v, ?_, hrel⟩
   simp only [List.getElem?_map, Option.map_eq_some_iff] at hv
   obtain ⟨k, hk, rfl⟩ := hv
   obtain ⟨hk1, rfl⟩ := List.getElem?_eq_some_iff.1 hk
   simp only [List.getElem_range]
   simp only [List.length_range] at hk1
   have := cell_of_cellD (h j hk1).1
   simp [hag, this]
theorem loadA_run (H : Holds C B S a w) {t : TypeId} {x : AV} {vx : Value} (hx : ARel (ownOf C.A0 B S.mem) B w x vx) (h : loadA P S.mem t x = some r) (hc : ∀ p ∈ r.conds, p) :
   r.upd = [] ∧ ∃ ad v, vx = .pointer (some ad) ∧ (loadVar t ad).run P w = .ok v w ∧ ARel (ownOf C.A0 B S.mem) B w r.val v := by
 unfold loadA at h
 split at h
 · rename_i b off
   obtain ⟨β, hβ, hxe⟩ := hx.ptr_inv
   split at h
   · rename_i l ty hm
     obtain ⟨γ, hγ, hent⟩ : ∃ β, B b = some β ∧ EntRel (ownOf C.A0 B S.mem) B w _ w.heap[β]? := (H.mem b _ hm).resolve_right (fun h => h.2)
     rw [hβ] at hγ
     cases hγ
     split at h
     · rename_i v hpart
       cases h
       generalize hob : w.heap[β]? = ob at hent
       cases hent with
       | cells _ _ cs hsz hrels =>
         obtain ⟨u, hrun, hrel⟩ := run_loadVar_part (P := P) (l := l) hob ⟨by simpa using hsz, fun j hj => by simpa [Array.getD_eq_getD_getElem?, List.getD_eq_getElem?_getD] using hrels j hj⟩ hpart
         exact ⟨rfl, _, u, hxe, hrun, hrel⟩
     · cases h
   · cases h
 · rename_i b k j sz
   split at h
   · rename_i n sz' el ty hm
     cases hb : Nat.beq sz sz' with
     | false => simp [hb] at h
     | true =>
       simp only [hb, cond_true] at h
       obtain rfl : sz = sz' := by simpa using hb
       split at h
       · rename_i v hpart
         cases h
         have hk := dec (hc (decide (k < n)) (by simp))
         cases hx with
         | eptr _ _ _ _ β hβ =>
           rcases H.mem b _ hm with ⟨γ, hγ, hent⟩ | ⟨hno, _⟩
           · rw [hβ] at hγ
             cases hγ
             obtain ⟨cs, hcs, hsz, hsl⟩ := arr_rel hent
             rcases hsl n (Nat.le_refl _) with ⟨b', off', he, _, hl, hall⟩
             · simp only [Option.some.injEq, Addr.mk.injEq, and_true] at he
               obtain ⟨rfl, rfl⟩ := he
               obtain ⟨u, hrun, hrel⟩ := run_loadVar_cells (P := P) (B := B) (b := β) (off := k * sz) (l := el k) (fun i hi => by
                 have hi' : i < sz := by rw [hl k hk] at hi; exact hi
                 have := hall k i hk hi'
                 simp only [Nat.zero_add] at this
                 exact ⟨this.1, this.2.2⟩) hpart
               exact ⟨rfl, _, u, rfl, hrun, hrel⟩
           · rw [hβ] at hno; cases hno
       · cases h
   · cases h
 · rename_i l
   split at h
   · rename_i v hpart
     cases h
     cases hx with
     | iptr _ b off hA hb hall =>
       obtain ⟨u, hrun, hrel⟩ := run_loadVar_cells (P := P) (B := B) (b := b) (off := off) (j := 0) hall hpart
       exact ⟨rfl, _, u, rfl, hrun, hrel⟩
   · cases h
 · rename_i ad
   split at h
   · rename_i fs hz hu
     cases h
     have hi := run_isAgg' (w := w) hu
     have ha : isAggP P t = true := by unfold isAggP; rw [hu]
     rw [ha] at hi
     refine ⟨rfl, ad, .agg #[], hx.plain, ?_, ARel.agg_mk .nil⟩
     simp [loadVar, Sem.run_bind, hi, run_size hz, loadCells, loadCellsFrom]
   · cases h
 · cases h
theorem load_case (H : Holds C B S a w) {t : TypeId} {x : Operand} (hop : o.op = .load t x)
  (h : loadA P S.mem t (evalA S.tm x) = some r) (hc : ∀ p ∈ r.conds, p) (hK : Cont C B slot (S.apply o.dst r) K) : o.wpV P a w K Q := by
 obtain ⟨hu, ad, v, hxe, hrun, hrel⟩ := loadA_run H (eval_rel H x) h hc
 exact pure_fin H hK (v := v) (by simp [execOp, hop, Instr.loadAt, hxe, Instr.sureAddr, hrun]) hrel hu
theorem mapM_toIV : ∀ {l : List AV} {c : List IV}, l.mapM toIV = some c → l = ivs c
 | [], c, h => by simp at h; subst h; rfl
 | x :: l, c, h => by
   simp only [List.mapM_cons, Option.bind_eq_bind, Option.pure_def] at h
   cases x with
   | c i =>
     cases hl : l.mapM toIV with
     | none => simp [toIV, hl] at h
     | some d => simp [toIV, hl] at h; subst h; rw [mapM_toIV hl]; rfl
   | _ => simp [toIV] at h
theorem irel_of_ivs {A : Nat → Prop} {c : List IV} {cs : List Value} (h : Rels A B w (ivs c) cs) : cs.length = c.length ∧ ∀ j, j < c.length → IRel A w (c.getD j (.v undef)) (cs.getD j undef) := by
 refine ⟨by simpa [ivs] using h.1, fun j hj => ?_⟩
 have := h.2 j (by simpa [ivs] using hj)
 simp only [ivs, List.getD_eq_getElem?_getD, List.getElem?_map, List.getElem?_eq_getElem hj, Option.map_some, Option.getD_some] at this ⊢
 cases this with
 | c _ _ h => exact h
theorem store_gen (H : Holds C B S a w) {t : TypeId} {x y : Operand} (hop : o.op = .store t x y) {va : AV} (hy : ARel (ownOf C.A0 B S.mem) B w va (a.eval y))
   (h : storeB P S.mem t (evalA S.tm x) va = some r) (hc : ∀ p ∈ r.conds, p) (hK : Cont C B slot (S.apply o.dst r) K) : o.wpV P a w K Q := by
 have hx := eval_rel H x
 have fin : ∀ (ad : Addr) (w' : World), a.eval x = .pointer (some ad) → (storeVar t ad (a.eval y)).run P w = .ok () w' → r.val = .c (.v undef) → Holds C B { S with mem := applyUpd S.mem r.upd } a w' → o.wpV P a w K Q := by
   intro ad w' hxe hrun hv H'
   unfold Oper.wpV
   rw [show (execOp a.eval o).run P w = .ok .skip w' by simp [execOp, hop, Instr.storeAt, hxe, Instr.sureAddr, hrun]]
   exact hK _ _ B (H'.put o.dst (by rw [hv]; exact ARel.lit _)) (fun _ _ => rfl)
 unfold storeB at h
 split at h
 · rename_i b off hptr
   rw [hptr] at hx
   obtain ⟨β, hβ, hxe⟩ := hx.ptr_inv
   split at h
   · rename_i l ty n hm hsz
     obtain ⟨γ, hγ, hent⟩ : ∃ β, B b = some β ∧ EntRel (ownOf C.A0 B S.mem) B w _ w.heap[β]? := (H.mem b _ hm).resolve_right (fun h => h.2)
     rw [hβ] at hγ
     cases hγ
     dsimp only at h
     cases hb : (Nat.beq (cellsA va).length n && Nat.ble (off + n) l.length && (cellsA va).all cellOk) with
     | false => rw [hb] at h; cases h
     | true =>
       rw [hb] at h
       simp only [cond_true, Option.some.injEq] at h
       subst h
       simp only [Bool.and_eq_true, Nat.beq_eq, Nat.ble_eq] at hb
       obtain ⟨⟨hn, hle⟩, hok⟩ := hb
       have hcells := rel_cells hy (.inl hok)
       generalize hob : w.heap[β]? = ob at hent
       cases hent with
       | cells _ _ cs hcs hrels =>
         have hrels' : Rels (ownOf C.A0 B S.mem) B w l cs.toList := ⟨by simpa using hcs, fun j hj => by simpa [Array.getD_eq_getD_getElem?, List.getD_eq_getElem?_getD] using hrels j hj⟩
         have hvn : (a.eval y).cells.size = n := by have := hcells.1; simpa [hn] using this
         have hrun := run_storeVar_part (P := P) (w := w) (t := t) hsz hob (off := off) hvn (by omega) (rels_oneCell hcells hok)
         have hnew : Rels (ownOf C.A0 B S.mem) B w (l.take off ++ cellsA va ++ l.drop (off + n)) (cs.toList.take off ++ (a.eval y).cells.toList ++ cs.toList.drop (off + n)) := ((hrels'.take off).append hcells).append (hrels'.drop (off + n))
         exact fin _ _ hxe hrun rfl (H.setRow hm hβ hob (by simp; omega) (.cells _ _ _ (by simpa using hnew.1) fun j hj => by simpa [Array.getD_eq_getD_getElem?, List.getD_eq_getElem?_getD] using hnew.2 j hj))
   · cases h
 · rename_i b k j sz hptr
   rw [hptr] at hx
   split at h
   · rename_i n sz' el ty p hm hsz
     split at h
     · rename_i c hcm
       cases hb : (Nat.beq sz sz' && Nat.beq c.length p && Nat.ble (j + p) sz && (cellsA va).all cellOk) with
       | false => rw [hb] at h; cases h
       | true =>
         rw [hb] at h
         simp only [cond_true, Option.some.injEq] at h
         subst h
         simp only [Bool.and_eq_true, Nat.beq_eq, Nat.ble_eq] at hb
         obtain ⟨⟨⟨rfl, hcp⟩, hjp⟩, hok⟩ := hb
         have hk := dec (hc (decide (k < n)) (by simp))
         generalize hvx : a.eval x = vx at hx
         cases hx with
         | eptr _ _ _ _ β hβ =>
           rcases H.mem b _ hm with ⟨γ, hγ, hent⟩ | ⟨hno, _⟩
           · rw [hβ] at hγ
             cases hγ
             generalize hob : w.heap[β]? = ob at hent
             cases hent with
             | arr _ _ _ _ cs hcs hlen hrels =>
               have hcells := rel_cells hy (.inl hok)
               rw [mapM_toIV hcm] at hcells
               obtain ⟨hcl, hcr⟩ := irel_of_ivs hcells
               have hvn : (a.eval y).cells.size = p := by simpa [hcp] using hcl
               have hlt : k * sz + (j + p) ≤ n * sz := by
                 calc k * sz + (j + p) ≤ k * sz + sz := by omega
                   _ = (k + 1) * sz := by rw [Nat.add_mul, Nat.one_mul]
                   _ ≤ n * sz := Nat.mul_le_mul_right _ hk
               have h1 : ∀ x ∈ (a.eval y).cells.toList, x.oneCell' = true := by
                 rw [mapM_toIV hcm] at hok
                 exact rels_oneCell hcells hok
               have hrun := run_storeVar_part (P := P) (w := w) (t := t) hsz hob (off := k * sz + j) hvn (by omega) h1
               refine fin _ _ hvx hrun rfl (H.setRow hm hβ hob (by simp; omega) (.arr n sz _ ty _ (by simp; omega) (fun i hi => ?_) fun i q hi hq => ?_))
               · unfold spliceE
                 split
                 · rename_i hik; subst hik; simp [hlen i hi]; omega
                 · exact hlen i hi
               · have hil := hlen i hi
                 have hq2 : i * sz + q < cs.size := Nat.lt_of_lt_of_le (mul_add_lt hi hq) hcs
                 -- the cell behind the store
                 have hcell : ((cs.toList.take (k * sz + j) ++ (a.eval y).cells.toList ++ cs.toList.drop (k * sz + j + p)).toArray).getD (i * sz + q) undef =
                     if k * sz + j ≤ i * sz + q ∧ i * sz + q < k * sz + j + p then (a.eval y).cells.toList.getD (i * sz + q - (k * sz + j)) undef else cs.getD (i * sz + q) undef := by
                   simp only [Array.getD_eq_getD_getElem?, List.getElem?_toArray, List.getD_eq_getElem?_getD, List.append_assoc]
                   have htl : (cs.toList.take (k * sz + j)).length = k * sz + j := by simp; omega
                   have hvl : (a.eval y).cells.toList.length = p := by simpa using hvn
                   by_cases ha1 : i * sz + q < k * sz + j
                   · rw [List.getElem?_append_left (by omega), List.getElem?_take, if_pos ha1, if_neg (by omega)]
                     simp
                   · rw [List.getElem?_append_right (by omega), htl]
                     by_cases ha2 : i * sz + q < k * sz + j + p
                     · rw [List.getElem?_append_left (by omega), if_pos ⟨by omega, ha2⟩]
                     · rw [List.getElem?_append_right (by omega), hvl, List.getElem?_drop, if_neg (by omega)]
                       rw [show k * sz + j + p + (i * sz + q - (k * sz + j) - p) = i * sz + q by omega]
                       simp
                 rw [hcell]
                 by_cases hik : i = k
                 · subst hik
                   simp only [spliceE, if_true]
                   by_cases hin : i * sz + j ≤ i * sz + q ∧ i * sz + q < i * sz + j + p
                   · rw [if_pos hin]
                     have hqj : q - j < c.length := by omega
                     have e1 : i * sz + q - (i * sz + j) = q - j := by omega
                     rw [e1]
                     have e2 : ((el i).take j ++ c ++ (el i).drop (j + c.length)).getD q (.v undef) = c.getD (q - j) (.v undef) := by
                       have htl : ((el i).take j).length = j := by simp; omega
                       rw [List.getD_eq_getElem?_getD, List.append_assoc, List.getElem?_append_right (by omega), htl, List.getElem?_append_left hqj, ← List.getD_eq_getElem?_getD]
                     rw [e2]
                     refine ⟨h1 _ ?_, hcr _ hqj⟩
                     have hlt2 : q - j < (a.eval y).cells.toList.length := by omega
                     rw [List.getD_eq_getElem?_getD, List.getElem?_eq_getElem hlt2]
                     exact List.getElem_mem hlt2
                   · rw [if_neg hin]
                     have e2 : ((el i).take j ++ c ++ (el i).drop (j + c.length)).getD q (.v undef) = (el i).getD q (.v undef) := by
                       have htl : ((el i).take j).length = j := by simp; omega
                       simp only [List.getD_eq_getElem?_getD, List.append_assoc]
                       by_cases hqj : q < j
                       · rw [List.getElem?_append_left (by omega), List.getElem?_take, if_pos hqj]
                       · rw [List.getElem?_append_right (by omega), htl, List.getElem?_append_right (by omega), List.getElem?_drop]
                         rw [show j + c.length + (q - j - c.length) = q by omega]
                     rw [e2]
                     exact hrels i q hi hq
                 · simp only [spliceE, hik, if_false]
                   have hout : ¬ (k * sz + j ≤ i * sz + q ∧ i * sz + q < k * sz + j + p) := by
                     rintro ⟨h2, h3⟩
                     rcases Nat.lt_or_gt_of_ne hik with hlt' | hgt'
                     · have : (i + 1) * sz ≤ k * sz := Nat.mul_le_mul_right _ hlt'
                       rw [Nat.add_mul, Nat.one_mul] at this
                       omega
                     · have : (k + 1) * sz ≤ i * sz := Nat.mul_le_mul_right _ hgt'
                       rw [Nat.add_mul, Nat.one_mul] at this
                       omega
                   rw [if_neg hout]
                   exact hrels i q hi hq
           · rw [hβ] at hno; cases hno
     · cases h
   · cases h
 · cases h
theorem fieldAddr_case (H : Holds C B S a w) {t : TypeId} {x : Operand} {f : Nat} (hop : o.op = .fieldAddr t x f)
  (h : fieldAddrA P t (evalA S.tm x) f = some r) (hK : Cont C B slot (S.apply o.dst r) K) : o.wpV P a w K Q := by
 have hx := eval_rel H x
 unfold fieldAddrA at h
 split at h
 ·rename_i fs hu
  split at h
  ·rename_i fl hfl
   split at h
   ·rename_i m hsz
    have fin : ∀ (β off : Nat), a.eval x = .pointer (some ⟨β, off, none⟩) → (execOp a.eval o).run P w = .ok (.value (.pointer (some ⟨β, off + fl.offset, none⟩))) w := by
     intro β off hxe
     simp [execOp, hop, Instr.fieldAt, run_underlying hu, hfl, hxe, Instr.sureAddr, fieldPlace, run_size hsz, addr_add']
    split at h
    ·rename_i b off hptr
     cases h
     rw [hptr] at hx
     obtain ⟨β, hβ, hxe⟩ := hx.ptr_inv
     exact pure_fin H hK (fin β off hxe) (.ptr _ _ _ hβ) rfl
    ·rename_i b k j sz hptr
     cases h
     rw [hptr] at hx
     generalize hvx : a.eval x = vx at hx
     cases hx with
     | eptr _ _ _ _ β hβ =>
      refine pure_fin H hK (fin β _ hvx) ?_ rfl
      rw [Nat.add_assoc]
      exact .eptr b k _ sz β hβ
    ·rename_i l hptr
     rw [hptr] at hx
     cases hb : Nat.blt fl.offset l.length with
     | false => simp [hb] at h
     | true =>
      simp only [hb, cond_true, Option.some.injEq] at h
      subst h
      generalize hvx : a.eval x = vx at hx
      cases hx with
      | iptr _ b off hA hbw hall =>
       refine pure_fin H hK (fin b off hvx) (.iptr _ b _ hA hbw fun j hj => ?_) rfl
       have hj' : fl.offset + j < l.length := by simp at hj; omega
       have := hall (fl.offset + j) hj'
       rw [Nat.add_assoc]
       have e : (l.drop fl.offset).getD j (.v undef) = l.getD (fl.offset + j) (.v undef) := by simp [List.getD_eq_getElem?_getD, List.getElem?_drop]
       rw [e]
       exact this
    ·cases h
   ·cases h
  ·cases h
 ·cases h
end
end Go.Vse
namespace Go.Vse
open Go.RowKit
section
variable {P : Program} {C : Ctx} {B : Bmap} {S : St} {a : Act} {w : World} {o : Oper} {r : Eff} {slot : Nat}
  {K : Act → World → Prop} {Q : Exit → Act → World → Prop}
theorem extract_list (s : ByteArray) (l h : Nat) (hl : l ≤ h) (hh : h ≤ s.data.toList.length) : s.extract l h = ⟨⟨(s.data.toList.take h).drop l⟩⟩ := by
 apply ByteArray.ext
 rw [ByteArray.data_extract]
 apply Array.ext'
 rw [Array.toList_extract, List.extract_eq_take_drop, ← List.drop_take]
theorem boundsSome {k : IntKind} {i : Int} {y : Nat} {c : BoundsCode} (h0 : 0 ≤ i) (h1 : i ≤ (y : Int)) : (Instr.sliceBound (.int k i) y c).run P w = .ok i.toNat w := by
 simp [Instr.sliceBound, asIntOf, h0, h1]
theorem slice_case (H : Holds C B S a w) (hC : C.Ok) {t : TypeId} {x : Operand} {lo hi mx : Option Operand} (hop : o.op = .slice t x lo hi mx) (hmx : mx = none)
   (h : sliceA P S.mem t (evalA S.tm x) (lo.map (evalA S.tm)) (hi.map (evalA S.tm)) = some r) (hc : ∀ p ∈ r.conds, p) (hK : Cont C B slot (S.apply o.dst r) K) : o.wpV P a w K Q := by
 subst hmx
 have hx := eval_rel H x
 have hrun0 : ∀ v w', (Instr.sliceAt t (a.eval x) (lo.map a.eval) (hi.map a.eval) none).run P w = .ok v w' → (execOp a.eval o).run P w = .ok (.value v) w' := by
   intro v w' hr
   simp [execOp, hop, hr]
 have hlo : ∀ {k : IntKind} {i : Int}, lo.map (evalA S.tm) = some (.c (.v (.int k i))) → lo.map a.eval = some (.int k i) := by
   intro k i hl
   cases lo with
   | none => cases hl
   | some z =>
     simp only [Option.map_some, Option.some.injEq] at hl ⊢
     have := eval_rel H z
     rw [hl] at this
     exact this.plain
 have hlo0 : lo.map (evalA S.tm) = none → lo.map a.eval = none := by intro hl; cases lo with | none => rfl | some z => cases hl
 have hhi : ∀ {k : IntKind} {i : Int}, hi.map (evalA S.tm) = some (.c (.v (.int k i))) → hi.map a.eval = some (.int k i) := by
   intro k i hl
   cases hi with
   | none => cases hl
   | some z =>
     simp only [Option.map_some, Option.some.injEq] at hl ⊢
     have := eval_rel H z
     rw [hl] at this
     exact this.plain
 have hhi0 : hi.map (evalA S.tm) = none → hi.map a.eval = none := by intro hl; cases hi with | none => rfl | some z => cases hl
 unfold sliceA at h
 split at h
 · -- a string
   rename_i s hu hxe
   rw [hxe] at hx
   have hxv := hx.plain
   have hsz : s.size = s.data.toList.length := by simp
   have fin : ∀ l h' : Nat, l ≤ h' → h' ≤ s.data.toList.length → (Instr.sliceBounds false s.size s.size (lo.map a.eval) (hi.map a.eval) none).run P w = .ok (l, h', s.size) w →
       (execOp a.eval o).run P w = .ok (.value (.string ⟨⟨(s.data.toList.take h').drop l⟩⟩)) w := by
     intro l h' h1 h2 hb
     apply hrun0
     simp only [Instr.sliceAt, Sem.run_bind, run_underlying hu, Result.andThen_ok, Instr.slice, hxv]
     simp [hb, extract_list s l h' h1 h2]
   split at h
   · rename_i hl hh
     cases h
     have := fin 0 s.data.toList.length (Nat.zero_le _) (Nat.le_refl _) (by simp only [Instr.sliceBounds, hlo0 hl, hhi0 hh, hsz]; rfl)
     refine pure_fin H hK (v := .string s) ?_ (ARel.lit _) rfl
     rw [this]
     simp only [List.take_length, List.drop_zero]
   · rename_i k l hl hh
     cases h
     have hb := dec (hc (decide (0 ≤ l ∧ l ≤ (s.data.toList.length : Int))) (by simp))
     have := fin l.toNat s.data.toList.length (by omega) (Nat.le_refl _) (by
       simp only [Instr.sliceBounds, hlo hl, hhi0 hh, Sem.run_bind, Sem.run_pure, Result.andThen_ok, hsz]
       rw [boundsSome hb.1 hb.2]; rfl)
     refine pure_fin H hK this ?_ rfl
     simp only [List.take_length]
     exact ARel.lit _
   · rename_i k h' hl hh
     cases h
     have hb := dec (hc (decide (0 ≤ h' ∧ h' ≤ (s.data.toList.length : Int))) (by simp))
     have := fin 0 h'.toNat (Nat.zero_le _) (by omega) (by
       simp only [Instr.sliceBounds, hlo0 hl, hhi hh, Sem.run_bind, Sem.run_pure, Result.andThen_ok, hsz]
       rw [boundsSome hb.1 hb.2]; rfl)
     refine pure_fin H hK this ?_ rfl
     exact ARel.lit _
   · rename_i k l k' h' hl hh
     cases h
     have hb := dec (hc (decide (0 ≤ l ∧ l ≤ h' ∧ h' ≤ (s.data.toList.length : Int))) (by simp))
     have := fin l.toNat h'.toNat (by omega) (by omega) (by
       simp only [Instr.sliceBounds, hlo hl, hhi hh, Sem.run_bind, Sem.run_pure, Result.andThen_ok, hsz]
       rw [boundsSome (by omega) hb.2.2]
       simp only [Result.andThen_ok]
       rw [boundsSome hb.1 (by omega)]; rfl)
     exact pure_fin H hK this (ARel.lit _) rfl
   · cases h
 · -- one's own slice, from its head
   rename_i e b n sz hu hxe
   rw [hxe] at hx
   split at h
   · rename_i p k h' hp hl hh
     cases h
     have hb := dec (hc (decide (0 ≤ h' ∧ h' ≤ (n : Int))) (by simp))
     have fin : ∀ (ad : Option Addr) (cap : Nat), a.eval x = .slice ad n cap → n ≤ cap → (ad = none ∨ ∃ β, ad = some ⟨β, 0, none⟩) → (execOp a.eval o).run P w = .ok (.value (.slice ad h'.toNat cap)) w := by
       intro ad cap hvx hn had
       apply hrun0
       simp only [Instr.sliceAt, Sem.run_bind, run_underlying hu, Result.andThen_ok, Instr.slice, hvx, Instr.sliceBounds, hlo0 hl, hhi hh, Sem.run_pure, if_true]
       rw [boundsSome (y := cap) hb.1 (by omega)]
       simp only [Result.andThen_ok, Sem.run_pure, run_size hp, Nat.sub_zero]
       rcases had with rfl | ⟨β, rfl⟩
       · simp
       · by_cases hc0 : cap = 0
         · simp [hc0]
         · simp [hc0, addr_add']
     generalize hvx : a.eval x = vx at hx
     cases hx with
     | msl _ _ _ cap β hβ hn hm hcc =>
       exact pure_fin H hK (fin _ cap hvx hn (.inr ⟨β, rfl⟩)) (.msl b h'.toNat sz cap β hβ (by omega) hm hcc) rfl
     | mnil =>
       have := fin none 0 hvx (Nat.le_refl _) (.inl rfl)
       have hz : h'.toNat = 0 := by omega
       rw [hz] at this
       refine pure_fin H hK this ?_ rfl
       simp only [hz]
       exact .mnil b sz
   · rename_i p k l hp hl hh
     cases hps : Nat.beq p sz with
     | false => simp [hps] at h
     | true =>
       obtain rfl : p = sz := by simpa using hps
       cases hln : Nat.beq l.toNat n with
       | true =>
         simp only [hps, hln, cond_true, Option.some.injEq] at h
         subst h
         have hb := dec (hc (decide (0 ≤ l)) (by simp))
         have hl' : l.toNat = n := by simpa using hln
         have key : ∀ (ad : Option Addr) (cap : Nat), a.eval x = .slice ad n cap → ∃ v, (execOp a.eval o).run P w = .ok (.value v) w := fun ad cap hvx => by
           refine ⟨.slice (if cap = l.toNat then ad else ad.map (·.add (l.toNat * p))) (n - l.toNat) (cap - l.toNat), ?_⟩
           apply hrun0
           simp only [Instr.sliceAt, Sem.run_bind, run_underlying hu, Result.andThen_ok, Instr.slice, hvx, Instr.sliceBounds, hlo hl, hhi0 hh, Sem.run_pure]
           rw [boundsSome (y := n) hb (by omega)]
           simp only [Result.andThen_ok, Sem.run_pure, run_size hp]
         generalize hvx : a.eval x = vx at hx
         cases hx with
         | mnil =>
           obtain ⟨v, hv⟩ := key _ _ hvx
           exact pure_fin H hK hv (.any v) rfl
         | msl _ _ _ cap β hβ hn hm hcc =>
           obtain ⟨v, hv⟩ := key _ _ hvx
           exact pure_fin H hK hv (.any v) rfl
       | false =>
       simp only [hps, hln, cond_true, cond_false, Option.some.injEq] at h
       subst h
       have hb := dec (hc (decide (0 ≤ l ∧ l < (n : Int))) (by simp))
       generalize hvx : a.eval x = vx at hx
       cases hx with
       | mnil => omega
       | msl _ _ _ cap β hβ hn hm hcc =>
         have hcl : cap ≠ l.toNat := by omega
         have hrun : (execOp a.eval o).run P w = .ok (.value (.slice (some ⟨β, l.toNat * p, none⟩) (n - l.toNat) (cap - l.toNat))) w := by
           apply hrun0
           simp only [Instr.sliceAt, Sem.run_bind, run_underlying hu, Result.andThen_ok, Instr.slice, hvx, Instr.sliceBounds, hlo hl, hhi0 hh, Sem.run_pure]
           rw [boundsSome (y := n) hb.1 (by omega)]
           simp only [Result.andThen_ok, Sem.run_pure, run_size hp]
           simp [hcl, addr_add']
         obtain ⟨Cc, tt, fz, hcell, hsize⟩ := hcc
         refine pure_fin H hK hrun (.ssl b l.toNat (n - l.toNat) p (cap - l.toNat) β hβ (by omega) (by omega) ⟨Cc, tt, fz, hcell, ?_⟩) rfl
         rw [hsize, show l.toNat + (n - l.toNat) = n by omega]
         exact Nat.mul_le_mul_right _ hn
   · cases h
 · -- a slice that is read
   rename_i e n sz el hu hxe
   rw [hxe] at hx
   split at h
   · rename_i p hp
     cases hps : Nat.beq p sz with
     | false => simp [hps] at h
     | true =>
       simp only [hps, cond_true] at h
       obtain rfl : p = sz := by simpa using hps
       have shift : ∀ (ad : Option Addr) (cap l m : Nat), IRel (ownOf C.A0 B S.mem) w (.sl n p el) (.slice ad n cap) → l + m ≤ n → ∀ (ad' : Option Addr), ad' = (if cap = l then ad else ad.map (·.add (l * p))) →
           IRel (ownOf C.A0 B S.mem) w (.sl m p fun k => el (k + l)) (.slice ad' m (cap - l)) := by
         intro ad cap l m hr hlm ad' had
         cases hr with
         | nil =>
           obtain ⟨rfl, rfl⟩ : l = 0 ∧ m = 0 := by omega
           simp at had
           subst had
           exact .nil _ _
         | zero =>
           obtain ⟨rfl, rfl⟩ : l = 0 ∧ m = 0 := by omega
           simp at had
           subst had
           exact .zero _ _ _
         | sl _ _ _ b off _ hA hbw hn hl hs hh =>
           by_cases hcl : cap = l
           · have hm0 : m = 0 := by omega
             subst hm0
             rw [if_pos hcl] at had
             subst had
             exact .sl 0 p _ b off _ hA hbw (Nat.zero_le _) (fun k hk => by omega) (fun k j hk => by omega) (fun k j hk => by omega)
           · rw [if_neg hcl] at had
             simp only [Option.map_some, addr_add'] at had
             subst had
             refine .sl m p _ b (off + l * p) _ hA hbw (by omega) (fun k hk => hl _ (by omega)) (fun k j hk hj => ?_) (fun k j hk hj => ?_)
             · have := hs (k + l) j (by omega) hj
               rw [show off + l * p + (k * p + j) = off + ((k + l) * p + j) by rw [Nat.add_mul]; omega]
               exact this
             · have := hh (k + l) j (by omega) hj
               rw [show off + l * p + (k * p + j) = off + ((k + l) * p + j) by rw [Nat.add_mul]; omega]
               exact this
       have form : ∃ ad cap, a.eval x = .slice ad n cap ∧ n ≤ cap ∧ IRel (ownOf C.A0 B S.mem) w (.sl n p el) (.slice ad n cap) := by
         generalize a.eval x = vx at hx
         cases hx with
         | c _ _ hi =>
           cases hi with
           | nil => exact ⟨none, 0, rfl, Nat.le_refl _, .nil _ _⟩
           | zero => exact ⟨_, 0, rfl, Nat.le_refl _, .zero _ _ _⟩
           | sl _ _ _ b off cap hA hb hn hl hs hh => exact ⟨_, cap, rfl, hn, .sl _ _ _ b off cap hA hb hn hl hs hh⟩
       obtain ⟨ad, cap, hvx, hn, hir⟩ := form
       have fin : ∀ l m : Nat, l + m ≤ n → (Instr.sliceBounds true n cap (lo.map a.eval) (hi.map a.eval) none).run P w = .ok (l, l + m, cap) w →
           (execOp a.eval o).run P w = .ok (.value (.slice (if cap = l then ad else ad.map (·.add (l * p))) m (cap - l))) w := by
         intro l m hlm hb
         apply hrun0
         simp only [Instr.sliceAt, Sem.run_bind, run_underlying hu, Result.andThen_ok, Instr.slice, hvx, hb, run_size hp, Sem.run_pure]
         rw [show l + m - l = m by omega]
       split at h
       · rename_i k h' hl hh
         cases h
         have hb := dec (hc (decide (0 ≤ h' ∧ h' ≤ (n : Int))) (by simp))
         have := fin 0 h'.toNat (by omega) (by
           simp only [Instr.sliceBounds, hlo0 hl, hhi hh, Sem.run_bind, Sem.run_pure, Result.andThen_ok, if_true]
           rw [boundsSome hb.1 (by omega)]; simp)
         exact pure_fin H hK this (.c _ _ (shift ad cap 0 h'.toNat hir (by omega) _ rfl)) rfl
       · rename_i k l hl hh
         cases h
         have hb := dec (hc (decide (0 ≤ l ∧ l ≤ (n : Int))) (by simp))
         have := fin l.toNat (n - l.toNat) (by omega) (by
           simp only [Instr.sliceBounds, hlo hl, hhi0 hh, Sem.run_bind, Sem.run_pure, Result.andThen_ok]
           rw [boundsSome hb.1 hb.2]
           simp only [Result.andThen_ok]
           rw [show l.toNat + (n - l.toNat) = n by omega])
         exact pure_fin H hK this (.c _ _ (shift ad cap l.toNat _ hir (by omega) _ rfl)) rfl
       · rename_i k l k' h' hl hh
         cases h
         have hb := dec (hc (decide (0 ≤ l ∧ l ≤ h' ∧ h' ≤ (n : Int))) (by simp))
         have := fin l.toNat (h'.toNat - l.toNat) (by omega) (by
           simp only [Instr.sliceBounds, hlo hl, hhi hh, Sem.run_bind, Sem.run_pure, Result.andThen_ok, if_true]
           rw [boundsSome (by omega) (by omega)]
           simp only [Result.andThen_ok]
           rw [boundsSome hb.1 (by omega)]
           simp only [Result.andThen_ok]
           rw [show l.toNat + (h'.toNat - l.toNat) = h'.toNat by omega])
         exact pure_fin H hK this (.c _ _ (shift ad cap l.toNat _ hir (by omega) _ rfl)) rfl
       · cases h
   · cases h
 · -- nil
   rename_i e hu hxe
   rw [hxe] at hx
   have hxv := hx.plain
   split at h
   · rename_i _ _ _ _ k h' hp hl hh
     cases h
     have hb := dec (hc (decide (0 ≤ h' ∧ h' ≤ 0)) (by simp))
     obtain rfl : h' = 0 := by omega
     refine pure_fin H hK (v := .slice none 0 0) (hrun0 _ _ ?_) (ARel.lit _) rfl
     simp only [Instr.sliceAt, Sem.run_bind, run_underlying hu, Result.andThen_ok, Instr.slice, hxv, Instr.sliceBounds, hlo0 hl, hhi hh, Sem.run_pure, if_true]
     rw [boundsSome (y := 0) (by omega) (by omega)]
     simp [run_size hp]
   · cases h
 · -- an array of one's own, which is one's own no more
   rename_i n e b sz hu hxe
   rw [hxe] at hx
   split at h
   · rename_i p n' sz' el ty k h' hp hm hl hh
     cases hb0 : (Nat.beq sz p && Nat.beq sz' p && Nat.beq n n' && !Nat.beq n 0) with
     | false => rw [hb0] at h; cases h
     | true =>
       rw [hb0] at h
       simp only [cond_true, Option.some.injEq] at h
       subst h
       simp only [Bool.and_eq_true, Nat.beq_eq, Bool.not_eq_true'] at hb0
       obtain ⟨⟨⟨rfl, rfl⟩, rfl⟩, hn0⟩ := hb0
       have hne : n ≠ 0 := by rintro rfl; cases hn0
       have hb := dec (hc (decide (0 ≤ h' ∧ h' ≤ (n : Int))) (by simp))
       generalize hvx : a.eval x = vx at hx
       cases hx with
       | eptr _ _ _ _ β hβ =>
         rcases H.mem b _ hm with ⟨γ, hγ, hent⟩ | ⟨hno, _⟩
         · rw [hβ] at hγ
           cases hγ
           obtain ⟨cs, hcs, hsz, hsl⟩ := arr_rel hent
           have hd := H.drop b
           have hA : ∀ i, i < w.heap.size → ownOf C.A0 B (S.mem.set b none) i → ownOf C.A0 B S.mem i := by
             intro i _ h
             rcases h with h | ⟨j, e2, h1, h2⟩
             · exact .inl h
             · rw [mem_set_eq] at h1
               by_cases hj : j = b
               · simp [hj] at h1
               · simp only [hj, if_false] at h1; exact .inr ⟨j, e2, h1, h2⟩
           have hnot : ¬ ownOf C.A0 B (S.mem.set b none) β := by
             rintro (h | ⟨j, e2, h1, h2⟩)
             · rcases (H.old b β hβ).1 with h3 | h3
               · exact absurd (hC.a0 β h) (Nat.not_lt.2 h3)
               · exact hC.disj β h h3
             · rw [mem_set_eq] at h1
               by_cases hj : j = b
               · simp [hj] at h1
               · simp only [hj, if_false] at h1
                 exact hj (H.inj j b _ _ β h1 hm h2 hβ)
           refine fin_case hK (B' := B) (v := .slice (some ⟨β, 0 * sz' + 0, none⟩) h'.toNat n) (w' := w) ?_ hd ?_ (fun _ _ => rfl)
           · apply hrun0
             simp only [Instr.sliceAt, Sem.run_bind, run_underlying hu, Result.andThen_ok, hvx, Instr.sureAddr, Sem.run_pure, Instr.sliceBounds, hlo0 hl, hhi hh]
             rw [boundsSome (y := n) hb.1 (by omega)]
             simp [run_size hp, hne, addr_add']
           · rcases hsl h'.toNat (by omega) with ⟨b', off', he, hbw, hl2, hall⟩
             · simp only [Option.some.injEq, Addr.mk.injEq, and_true] at he
               obtain ⟨rfl, rfl⟩ := he
               refine .c _ _ (.sl _ _ _ β (0 * sz' + 0) n hnot (lt_of_heap hcs) (by omega) hl2 (fun k j hk hj => ?_) (fun k j hk hj => ?_))
               · have := hall k j hk hj
                 simp only [Nat.zero_mul, Nat.zero_add] at this ⊢
                 exact ⟨this.1, this.2.1⟩
               · have := (hall k j hk hj).2.2.trans (Trans.refl _ _) hA
                 simp only [Nat.zero_mul, Nat.zero_add] at this ⊢
                 exact this
         · rw [hβ] at hno; cases hno
   · cases h
 · -- an array in cells of one's own, which is one's own no more
   rename_i n e b hu hxe
   rw [hxe] at hx
   obtain ⟨β, hβ, hvx⟩ := hx.ptr_inv
   split at h
   · rename_i p l ty k h' hp hm hl hh
     split at h
     · rename_i c hcm
       cases hb0 : (Nat.beq l.length (n * p) && !Nat.beq n 0 && l.all cellOk) with
       | false => rw [hb0] at h; cases h
       | true =>
         rw [hb0] at h
         simp only [cond_true, Option.some.injEq] at h
         subst h
         simp only [Bool.and_eq_true, Nat.beq_eq, Bool.not_eq_true'] at hb0
         obtain ⟨⟨hlen, hn0⟩, hok⟩ := hb0
         have hne : n ≠ 0 := by rintro rfl; cases hn0
         have hb := dec (hc (decide (0 ≤ h' ∧ h' ≤ (n : Int))) (by simp))
         rcases H.mem b _ hm with ⟨γ, hγ, hent⟩ | ⟨_, hno⟩
         · rw [hβ] at hγ
           cases hγ
           have hd := H.drop b
           have hA : ∀ i, i < w.heap.size → ownOf C.A0 B (S.mem.set b none) i → ownOf C.A0 B S.mem i := by
             intro i _ h
             rcases h with h | ⟨j, e2, h1, h2⟩
             · exact .inl h
             · rw [mem_set_eq] at h1
               by_cases hj : j = b
               · simp [hj] at h1
               · simp only [hj, if_false] at h1; exact .inr ⟨j, e2, h1, h2⟩
           have hnot : ¬ ownOf C.A0 B (S.mem.set b none) β := by
             rintro (h | ⟨j, e2, h1, h2⟩)
             · rcases (H.old b β hβ).1 with h3 | h3
               · exact absurd (hC.a0 β h) (Nat.not_lt.2 h3)
               · exact hC.disj β h h3
             · rw [mem_set_eq] at h1
               by_cases hj : j = b
               · simp [hj] at h1
               · simp only [hj, if_false] at h1
                 exact hj (H.inj j b _ _ β h1 hm h2 hβ)
           generalize hob : w.heap[β]? = ob at hent
           cases hent with
           | cells _ _ cs hcs hrels =>
             have hr : Rels (ownOf C.A0 B S.mem) B w l cs.toList := ⟨by simpa using hcs, fun j hj => by simpa [Array.getD_eq_getD_getElem?, List.getD_eq_getElem?_getD] using hrels j hj⟩
             have h1 := rels_oneCell hr hok
             rw [mapM_toIV hcm] at hr
             obtain ⟨hcl, hcr⟩ := irel_of_ivs hr
             have hcn : c.length = n * p := by
               have := hlen
               rw [mapM_toIV hcm] at this
               simpa [ivs] using this
             have hcsz : cs.size = n * p := by simpa [hcn] using hcl
             refine fin_case hK (B' := B) (v := .slice (some ⟨β, 0, none⟩) h'.toNat n) (w' := w) ?_ hd ?_ (fun _ _ => rfl)
             · apply hrun0
               simp only [Instr.sliceAt, Sem.run_bind, run_underlying hu, Result.andThen_ok, hvx, Instr.sureAddr, Sem.run_pure, Instr.sliceBounds, hlo0 hl, hhi hh]
               rw [boundsSome (y := n) hb.1 (by omega)]
               simp [run_size hp, hne, addr_add']
             · refine .c _ _ (.sl _ _ _ β 0 n hnot (lt_of_heap hob) (by omega) (fun k hk => ?_) (fun k j hk hj => ?_) (fun k j hk hj => ?_))
               · have : k * p + p ≤ n * p := by
                   calc k * p + p = (k + 1) * p := by rw [Nat.add_mul, Nat.one_mul]
                     _ ≤ n * p := Nat.mul_le_mul_right _ (by omega)
                 simp
                 omega
               · have hlt : k * p + j < n * p := mul_add_lt (by omega) hj
                 rw [Nat.zero_add, cellD_row hob]
                 refine ⟨cell_row hob (by omega), h1 _ ?_⟩
                 rw [Array.getD_eq_getD_getElem?, Array.getElem?_eq_getElem (show k * p + j < cs.size by omega)]
                 simp
               · have hlt : k * p + j < n * p := mul_add_lt (by omega) hj
                 have := (hcr (k * p + j) (by omega)).trans (Trans.refl _ _) hA
                 rw [Nat.zero_add, cellD_row hob]
                 have e1 : ((c.drop (k * p)).take p).getD j (.v undef) = c.getD (k * p + j) (.v undef) := by
                   simp [List.getD_eq_getElem?_getD, List.getElem?_take, hj, List.getElem?_drop]
                 rw [e1]
                 have e2 : cs.toList.getD (k * p + j) undef = cs.getD (k * p + j) undef := by simp [Array.getD_eq_getD_getElem?, List.getD_eq_getElem?_getD]
                 rw [e2] at this
                 exact this
         · exact hno.elim
     · cases h
   · cases h
 · cases h
end
end Go.Vse
namespace Go.Vse
open Go.RowKit
section
variable {P : Program} {C : Ctx} {B : Bmap} {S : St} {a : Act} {w : World} {o : Oper} {r : Eff} {slot : Nat}
  {K : Act → World → Prop} {Q : Exit → Act → World → Prop}
structure SrcOk1 (P : Program) (w : World) (u : TypeId) (size : Nat) (x : Value) (m : Nat) (news : List Value) : Prop where
 ty : ∃ d, P.underlying u = some d ∧ (∀ k, d ≠ .int k)
 len : (Builtin.lenOf x).run P w = .ok m w
 first : (Builtin.firstCells size m x).run P w = .ok news.toArray w
 first' : (Builtin.firstCells size m x).run P w.drew = .ok news.toArray w.drew
 size : news.length = m * size
structure SrcZ (P : Program) (w : World) (u e : TypeId) (i : TypeInfo) (x : Value) (m : Nat) (news : List Value) : Prop where
 ty : ∃ k, P.underlying u = some (.int k)
 val : ∃ k n, x = .int k n ∧ 0 ≤ n ∧ n ≤ 9223372036854775807 ∧ n.toNat = m
 fits : m * i.bytes ≤ 140737488355328
 zero : ∃ z, i.zero = some z ∧ news = (Builtin.zeroCells z.cells m).toList ∧ z.cells.size = i.size
 size : news.length = m * i.size
def SrcOk (P : Program) (w : World) (u e : TypeId) (i : TypeInfo) (x : Value) (m : Nat) (news : List Value) : Prop := SrcOk1 P w u i.size x m news ∨ SrcZ P w u e i x m news
theorem notInt {d : TypeDesc} (hd : ∀ k, d ≠ .int k) : (match d with | .int _ => true | _ => false) = false := by
 cases d <;> first | rfl | exact absurd rfl (hd _)
section
variable {t u ty e : TypeId} {i : TypeInfo} {z : Value} {x : Value} {m : Nat} {news : List Value}
theorem wrap63 {n : Int} (h0 : 0 ≤ n) (h1 : n ≤ 9223372036854775807) : IntKind.i64.wrap n = n := by
 unfold IntKind.wrap
 simp [IntKind.signed, IntKind.bits]
 omega
theorem run_asInt (k : IntKind) (n : Int) : (asInt (.int k n)).run P w = .ok n w := by simp [asInt, asIntOf]
theorem SrcOk.size (hs : SrcOk P w u e i x m news) : news.length = m * i.size := by
 rcases hs with h | h
 ·exact h.size
 ·exact h.size
theorem run_append_none (ht : P.underlying t = some (.slice e)) (hi : P.info? e = some i) (hs : SrcOk P w u e i x m news) (hm : m = 0) {ad : Option Addr} {n cap : Nat} (hn : n ≤ cap)
  (had : ad = none ∨ ∃ g : Nat, ad = some ⟨g, 0, none⟩) :
  (Builtin.append_ #[t, u] ty #[.slice ad n cap, x]).run P w = .ok (.slice ad n cap) w := by
 subst hm
 rcases hs with hs | hs
 ·obtain ⟨d, hu, hd⟩ := hs.ty
  have hz := notInt hd
  have hne : news = [] := List.eq_nil_of_length_eq_zero (by simpa using hs.size)
  have hf := hs.first
  rw [hne] at hf
  rcases had with rfl | ⟨g, rfl⟩
  ·simp [Builtin.append_, run_underlying ht, run_underlying hu, sizeOf, typeInfo, hi, hz, hs.len, hn, hf]
  ·simp [Builtin.append_, run_underlying ht, run_underlying hu, sizeOf, typeInfo, hi, hz, hs.len, hn, hf, storeCells]
 ·obtain ⟨k, hu⟩ := hs.ty
  obtain ⟨k', n', rfl, h0, h1, h2⟩ := hs.val
  have hw := wrap63 h0 h1
  obtain rfl : n' = 0 := by omega
  rcases had with rfl | ⟨g, rfl⟩
  ·simp [Builtin.append_, run_underlying ht, run_underlying hu, sizeOf, typeInfo, hi, run_asInt, hw, hn]
  ·simp [Builtin.append_, run_underlying ht, run_underlying hu, sizeOf, typeInfo, hi, run_asInt, hw, hn, storeCells]
theorem run_append_in (ht : P.underlying t = some (.slice e)) (hi : P.info? e = some i) (hs : SrcOk P w u e i x m news) {g n cap : Nat} {cur : Array Value} (hg : w.heap[g]? = some (.cells cur e (0, 0)))
  (h1 : ∀ v ∈ news, v.oneCell' = true) (hroom : n + m ≤ cap) (hfit : n * i.size + news.length ≤ cur.size) :
  (Builtin.append_ #[t, u] ty #[.slice (some ⟨g, 0, none⟩) n cap, x]).run P w =
   .ok (.slice (some ⟨g, 0, none⟩) (n + m) cap) (w.setRow g (cur.toList.take (n * i.size) ++ news ++ cur.toList.drop (n * i.size + news.length)).toArray) := by
 have hst := run_storeCells_at P g (n * i.size) e news 0 cur w hg (by simpa using hfit) h1
 simp only [Nat.add_zero] at hst
 rcases hs with hs | hs
 ·obtain ⟨d, hu, hd⟩ := hs.ty
  have hz := notInt hd
  simp [Builtin.append_, run_underlying ht, run_underlying hu, sizeOf, typeInfo, hi, hz, hs.len, hroom, hs.first, Addr.add_lit, hst]
 ·obtain ⟨k, hu⟩ := hs.ty
  obtain ⟨k', n', rfl, h0, h1, h2⟩ := hs.val
  obtain ⟨z, hz0, hz1, hz2⟩ := hs.zero
  have hw := wrap63 h0 h1
  have hfits := hs.fits
  have hn0 : ¬ (n' < 0) := by omega
  have hb : ¬ (281474976710656 < n' * (i.bytes : Int)) := by
   have : n' = (m : Int) := by omega
   rw [this]
   omega
  by_cases hmz : m * i.size = 0
  ·have hne : news = [] := List.eq_nil_of_length_eq_zero (by rw [hs.size]; exact hmz)
   rw [hne] at hst ⊢
   simp [Builtin.append_, run_underlying ht, run_underlying hu, sizeOf, typeInfo, hi, run_asInt, hw, hn0, hb, h2, hroom, hmz, Addr.add_lit, hst]
  ·simp [Builtin.append_, run_underlying ht, run_underlying hu, sizeOf, typeInfo, hi, run_asInt, hw, hn0, hb, h2, hroom, hmz, zeroValue, hz0, Addr.add_lit, ← hz1, hst]
theorem run_append_new (ht : P.underlying t = some (.slice e)) (hi : P.info? e = some i) (hz0 : i.zero = some z) (hs : SrcOk P w u e i x m news) {ad : Option Addr} {n cap : Nat} {olds : List Value}
   (hold : (Builtin.firstCells i.size n (.slice ad n cap)).run P w.drew = .ok olds.toArray w.drew) (hg : cap < n + m) (h63 : n + m ≤ 9223372036854775807) (hb : (n + m) * i.bytes ≤ 140737488355328) :
   (Builtin.append_ #[t, u] ty #[.slice ad n cap, x]).run P w =
     .ok (.slice (some ⟨w.heap.size, 0, none⟩) (n + m) (grownCap w (n + m) cap e))
       (w.drew.alloc (.cells (olds.toArray ++ news.toArray ++ Builtin.zeroCells z.cells (grownCap w (n + m) cap e - (n + m))) e)) := by
 have hn : ¬ (n + m ≤ cap) := by omega
 have h63' : ¬ (9223372036854775807 < ((n : Int) + (m : Int))) := by omega
 have h48' : ¬ (281474976710656 < Builtin.nextslicecap (n + m) cap * i.bytes) := by have := growslice_fits hg hb; omega
 have h0 : ¬ ((n : Int) + (m : Int) > 9223372036854775807) := by omega
 rcases hs with hs | hs
 · obtain ⟨d, hu, hd⟩ := hs.ty
   have hz := notInt hd
   simp [Builtin.append_, run_underlying ht, run_underlying hu, sizeOf, typeInfo, zeroValue, hi, hz0, hz, hs.len, hn, h63', h48', Question.forced, hs.first', hold, newRow, grownCap]
   congr 2
   apply Array.ext'
   simp [List.append_assoc]
 · obtain ⟨k, hu⟩ := hs.ty
   obtain ⟨k', n', rfl, h0', h1, h2⟩ := hs.val
   obtain ⟨z', hz0', hz1, hz2⟩ := hs.zero
   rw [hz0] at hz0'
   cases hz0'
   have hw := wrap63 h0' h1
   have hfits := hs.fits
   have hn0 : ¬ (n' < 0) := by omega
   have hbb : ¬ (281474976710656 < n' * (i.bytes : Int)) := by
     have : n' = (m : Int) := by omega
     rw [this]
     omega
   have hmx : ¬ (9223372036854775807 < ((n : Int) + max n' 0)) := by omega
   by_cases hmz : m * i.size = 0
   · have hne : news = [] := List.eq_nil_of_length_eq_zero (by rw [hs.size]; exact hmz)
     rw [hne]
     simp [Builtin.append_, run_underlying ht, run_underlying hu, sizeOf, typeInfo, zeroValue, hi, hz0, run_asInt, hw, hn0, hbb, h2, hn, h63', hmx, h48', Question.forced, hmz, hold, newRow, grownCap]
   · simp [Builtin.append_, run_underlying ht, run_underlying hu, sizeOf, typeInfo, zeroValue, hi, hz0, run_asInt, hw, hn0, hbb, h2, hn, h63', hmx, h48', Question.forced, hmz, hold, newRow, grownCap, hz1]
end
def RowRel (A : Nat → Prop) (w : World) (n sz : Nat) (el : Nat → List IV) (xs : List Value) : Prop :=
 xs.length = n * sz ∧ (∀ k, k < n → (el k).length = sz) ∧
  ∀ k j, k < n → j < sz → (xs.getD (k * sz + j) undef).oneCell' = true ∧ IRel A w ((el k).getD j (.v undef)) (xs.getD (k * sz + j) undef)
theorem RowRel.oneCell {A : Nat → Prop} {n sz : Nat} {el : Nat → List IV} {xs : List Value} (h : RowRel A w n sz el xs) : ∀ v ∈ xs, v.oneCell' = true := by
 intro v hv
 obtain ⟨i, hi, rfl⟩ := List.mem_iff_getElem.1 hv
 have hi' : i < n * sz := by rw [← h.1]; exact hi
 have hsz : 0 < sz := by rcases Nat.eq_zero_or_pos sz with h0 | h0; · subst h0; simp at hi'
                         exact h0
 have := (h.2.2 (i / sz) (i % sz) (Nat.div_lt_of_lt_mul (by rwa [Nat.mul_comm])) (Nat.mod_lt _ hsz)).1
 rw [Nat.div_add_mod' i sz] at this
 simpa [List.getD_eq_getElem?_getD, hi] using this
theorem SlRel.row {A : Nat → Prop} {n sz : Nat} {el : Nat → List IV} {ad : Option Addr} (h : SlRel A w n sz el ad) : RowRel A w n sz el (slCells w n sz ad) := by
 refine ⟨h.length, ?_, ?_⟩
 ·rcases h with rfl | ⟨b, off, _, _, hl, _⟩
  ·intro k hk; omega
  ·exact hl
 ·intro k j hk hj
  rcases h with rfl | ⟨b, off, rfl, _, hl, hh⟩
  ·omega
  ·have hlt := mul_add_lt hk hj
   have e : (slCells w n sz (some ⟨b, off, none⟩)).getD (k * sz + j) undef = cellD w ⟨b, off + (k * sz + j), none⟩ := by
    simp [slCells, List.getD_eq_getElem?_getD, hlt, addr_add']
   rw [e]
   exact (hh k j hk hj).2
theorem RowRel.join {A : Nat → Prop} {n m sz : Nat} {el el' : Nat → List IV} {xs ys : List Value} (h : RowRel A w n sz el xs) (k : RowRel A w m sz el' ys) : RowRel A w (n + m) sz (joinE n el el') (xs ++ ys) := by
 refine ⟨by rw [List.length_append, h.1, k.1, Nat.add_mul], fun i hi => ?_, fun i j hi hj => ?_⟩
 ·unfold joinE
  split
  ·exact h.2.1 i ‹_›
  ·exact k.2.1 _ (by omega)
 ·unfold joinE
  by_cases hin : i < n
  ·rw [if_pos hin]
   have hlt : i * sz + j < xs.length := by rw [h.1]; exact mul_add_lt hin hj
   have e : (xs ++ ys).getD (i * sz + j) undef = xs.getD (i * sz + j) undef := by
    simp only [List.getD_eq_getElem?_getD, List.getElem?_append_left hlt]
   rw [e]
   exact h.2.2 i j hin hj
  ·rw [if_neg hin]
   have hge : xs.length ≤ i * sz + j := by rw [h.1]; have := Nat.mul_le_mul_right sz (Nat.le_of_not_lt hin); omega
   have e : (xs ++ ys).getD (i * sz + j) undef = ys.getD ((i - n) * sz + j) undef := by
    simp only [List.getD_eq_getElem?_getD, List.getElem?_append_right hge, h.1]
    congr 2
    rw [Nat.sub_mul]
    have := Nat.mul_le_mul_right sz (Nat.le_of_not_lt hin)
    omega
   rw [e]
   exact k.2.2 _ j (by omega) hj
theorem RowRel.ent {A : Nat → Prop} {n sz : Nat} {el : Nat → List IV} {xs : List Value} (h : RowRel A w n sz el xs) {cs : Array Value} (hcs : cs.toList.take (n * sz) = xs) (t : TypeId) :
  EntRel A B w (.arr n sz el t) (some (.cells cs t (0, 0))) := by
 have hlen : n * sz ≤ cs.size := by
  have := h.1
  rw [← hcs] at this
  simp at this
  omega
 refine .arr n sz el t cs hlen h.2.1 fun k j hk hj => ?_
 have hlt := mul_add_lt hk hj
 have e : cs.getD (k * sz + j) undef = xs.getD (k * sz + j) undef := by
  rw [← hcs]
  simp [Array.getD_eq_getD_getElem?, List.getD_eq_getElem?_getD, List.getElem?_take, hlt]
 rw [e]
 exact h.2.2 k j hk hj
theorem RowRel.trans {A A' : Nat → Prop} {w' : World} (ht : Trans A w w') (hA : ∀ b, b < w.heap.size → A' b → A b) {n sz : Nat} {el : Nat → List IV} {xs : List Value} (h : RowRel A w n sz el xs) : RowRel A' w' n sz el xs :=
 ⟨h.1, h.2.1, fun k j hk hj => ⟨(h.2.2 k j hk hj).1, (h.2.2 k j hk hj).2.trans ht hA⟩⟩
theorem arr_row {A : Nat → Prop} {n k sz : Nat} {el : Nat → List IV} {t : TypeId} {cs : Array Value} (h : EntRel A B w (.arr n sz el t) (some (.cells cs t (0, 0)))) (hk : k ≤ n) : RowRel A w k sz el (cs.toList.take (k * sz)) := by
 cases h with
 | arr _ _ _ _ _ hs hl hh =>
  have hks : k * sz ≤ n * sz := Nat.mul_le_mul_right _ hk
  refine ⟨by simp; omega, fun i hi => hl i (by omega), fun i j hi hj => ?_⟩
  have hlt := mul_add_lt hi hj
  have e : (cs.toList.take (k * sz)).getD (i * sz + j) undef = cs.getD (i * sz + j) undef := by
   simp [Array.getD_eq_getD_getElem?, List.getD_eq_getElem?_getD, List.getElem?_take, hlt]
  rw [e]
  exact hh i j (by omega) hj
theorem own_drop (b : Nat) : ∀ i, ownOf C.A0 B (S.mem.set b none) i → ownOf C.A0 B S.mem i := by
 intro i h
 rcases h with h | ⟨j, e2, h1, h2⟩
 ·exact .inl h
 ·rw [mem_set_eq] at h1
  by_cases hj : j = b
  ·simp [hj] at h1
  ·simp only [hj, if_false] at h1; exact .inr ⟨j, e2, h1, h2⟩
theorem Holds.setNil (H : Holds C B S a w) (hs : B slot = none) {e : Ent} (he : e.none0) : Holds C B { S with mem := S.mem.set slot (some e) } a w := by
 have hA : ∀ b, b < w.heap.size → ownOf C.A0 B (S.mem.set slot (some e)) b → ownOf C.A0 B S.mem b := by
  intro b _ h
  rcases h with h | ⟨j, e2, h1, h2⟩
  ·exact .inl h
  ·rw [mem_set_eq] at h1
   by_cases hj : j = slot
   ·subst hj; rw [hs] at h2; cases h2
   ·simp only [hj, if_false] at h1; exact .inr ⟨j, e2, h1, h2⟩
 refine { defers := H.defers, size := H.size, tm := fun t h => (H.tm t h).trans (Trans.refl _ _) hA (fun _ _ h => h), mem := ?_, inj := ?_, kept := H.kept, old := H.old, fresh := H.fresh, base := H.base, kle := H.kle }
 ·intro j e' hj
  simp only [mem_set_eq] at hj
  by_cases hjs : j = slot
  ·subst hjs
   simp only [if_true, Option.some.injEq] at hj
   subst hj
   exact .inr ⟨hs, he⟩
  ·simp only [hjs, if_false] at hj
   rcases H.mem j e' hj with ⟨β, h1, h3⟩ | h
   ·exact .inl ⟨β, h1, h3.trans (Trans.refl _ _) hA (fun _ _ h => h)⟩
   ·exact .inr h
 ·intro j j' e1 e2 β m1 m2 h1 h2
  simp only [mem_set_eq] at m1 m2
  by_cases hj : j = slot
  ·subst hj; rw [hs] at h1; cases h1
  ·by_cases hj' : j' = slot
   ·subst hj'; rw [hs] at h2; cases h2
   ·simp only [hj, hj', if_false] at m1 m2; exact H.inj j j' e1 e2 β m1 m2 h1 h2
theorem Holds.rename (H : Holds C B S a w) {b β : Nat} {e : Ent} (hm : S.mem b = some e) (hβ : B b = some β) (hs : B slot = none) (hnx : Between C S slot) :
  Holds C (setB B slot β) { S with mem := (S.mem.set b none).set slot (some e) } a w := by
 have hbs : slot ≠ b := by rintro rfl; rw [hs] at hβ; cases hβ
 have hB : ∀ j γ, B j = some γ → setB B slot β j = some γ := by
  intro j γ hj
  unfold setB
  split
  ·rename_i h; subst h; rw [hs] at hj; cases hj
  ·exact hj
 have hA : ∀ i, i < w.heap.size → ownOf C.A0 (setB B slot β) ((S.mem.set b none).set slot (some e)) i → ownOf C.A0 B S.mem i := by
  intro i _ h
  rcases h with h | ⟨j, e2, h1, h2⟩
  ·exact .inl h
  ·rw [mem_set_eq] at h1
   unfold setB at h2
   by_cases hj : j = slot
   ·simp only [hj, if_true, Option.some.injEq] at h2
    subst h2
    exact .inr ⟨b, e, hm, hβ⟩
   ·simp only [hj, if_false] at h1 h2
    rw [mem_set_eq] at h1
    by_cases hj2 : j = b
    ·simp [hj2] at h1
    ·simp only [hj2, if_false] at h1; exact .inr ⟨j, e2, h1, h2⟩
 have live : ∀ j e2, ((S.mem.set b none).set slot (some e)) j = some e2 → (j = slot ∧ e2 = e) ∨ (j ≠ slot ∧ j ≠ b ∧ S.mem j = some e2) := by
  intro j e2 hj
  rw [mem_set_eq] at hj
  by_cases h1 : j = slot
  ·simp only [h1, if_true, Option.some.injEq] at hj; exact .inl ⟨h1, hj.symm⟩
  ·simp only [h1, if_false] at hj
   rw [mem_set_eq] at hj
   by_cases h2 : j = b
   ·simp [h2] at hj
   ·simp only [h2, if_false] at hj; exact .inr ⟨h1, h2, hj⟩
 refine { defers := H.defers, size := H.size, tm := fun t h => (H.tm t h).trans (Trans.refl _ _) hA hB, mem := ?_, inj := ?_, kept := H.kept, old := ?_, fresh := ?_, base := ?_, kle := H.kle }
 ·intro j e' hj
  rcases live j e' hj with ⟨rfl, rfl⟩ | ⟨h1, h2, h3⟩
  ·rcases H.mem b _ hm with ⟨γ, hγ, hent⟩ | ⟨hno, _⟩
   ·rw [hβ] at hγ
    cases hγ
    exact .inl ⟨β, by simp [setB], hent.trans (Trans.refl _ _) hA hB⟩
   ·rw [hβ] at hno; cases hno
  ·rcases H.mem j e' h3 with ⟨γ, hγ, hent⟩ | ⟨hno, hn⟩
   ·exact .inl ⟨γ, hB _ _ hγ, hent.trans (Trans.refl _ _) hA hB⟩
   ·exact .inr ⟨by simp [setB, h1, hno], hn⟩
 ·intro j j' e1 e2 γ m1 m2 h1 h2
  rcases live j e1 m1 with ⟨rfl, rfl⟩ | ⟨a1, a2, a3⟩ <;> rcases live j' e2 m2 with ⟨rfl, rfl⟩ | ⟨b1, b2, b3⟩
  ·rfl
  ·simp only [setB, if_true, Option.some.injEq] at h1
   subst h1
   simp only [setB, b1, if_false] at h2
   exact absurd (H.inj j' b _ _ β b3 hm h2 hβ) b2
  ·simp only [setB, if_true, Option.some.injEq] at h2
   subst h2
   simp only [setB, a1, if_false] at h1
   exact absurd (H.inj j b _ _ β a3 hm h1 hβ) a2
  ·simp only [setB, a1, if_false] at h1
   simp only [setB, b1, if_false] at h2
   exact H.inj j j' _ _ γ a3 b3 h1 h2
 ·intro j γ h
  unfold setB at h
  by_cases hj : j = slot
  ·simp only [hj, if_true, Option.some.injEq] at h; subst h; exact H.old b _ hβ
  ·simp only [hj, if_false] at h; exact H.old j γ h
 ·intro j hj
  have : j ≠ slot := by rintro rfl; exact absurd hj (Nat.not_le.2 hnx.2)
  simp only [setB, this, if_false]
  exact H.fresh j hj
 ·intro j hj
  have : j ≠ slot := by rintro rfl; exact absurd hj (Nat.not_lt.2 hnx.1)
  simp only [setB, this, if_false]
  exact H.base j hj
end
end Go.Vse
namespace Go.Vse
open Go.RowKit
section
variable {P : Program} {C : Ctx} {B : Bmap} {S : St} {a : Act} {w : World} {o : Oper} {r : Eff} {slot : Nat}
  {K : Act → World → Prop} {Q : Exit → Act → World → Prop}
theorem srcOk_sl {A : Nat → Prop} {u e : TypeId} (hu : P.underlying u = some (.slice e)) {size k cap : Nat} {el : Nat → List IV} {ad : Option Addr} (h : SlRel A w k size el ad) :
   SrcOk1 P w u size (.slice ad k cap) k (slCells w k size ad) := by
 refine ⟨⟨_, hu, fun k h => by cases h⟩, by simp [Builtin.lenOf], ?_, ?_, h.length⟩
 · cases ad with
   | none => simp [Builtin.firstCells, slCells]
   | some ad => exact run_firstCells_some (P := P) w size k ad k cap _ h.length h.news.1
 · cases ad with
   | none => simp [Builtin.firstCells, slCells]
   | some ad => exact run_firstCells_some (P := P) w.drew size k ad k cap _ h.length h.news.1
theorem SlRel.zero {A : Nat → Prop} {sz sz' : Nat} {el : Nat → List IV} {ad : Option Addr} (h : SlRel A w 0 sz el ad) : SlRel A w 0 sz' el ad := by
 rcases h with _ | ⟨b, off, rfl, hb, _, _⟩
 · exact .inl rfl
 · exact .inr ⟨b, off, rfl, hb, fun k hk => by omega, fun k j hk => by omega⟩
theorem zeroCells_getD (z : Array Value) (m k j : Nat) (hk : k < m) (hj : j < z.size) : (Builtin.zeroCells z m).toList.getD (k * z.size + j) undef = z.toList.getD j undef := by
 have hlt : k * z.size + j < m * z.size := mul_add_lt hk hj
 have hm : (k * z.size + j) % z.size = j := by rw [Nat.mul_comm, Nat.mul_add_mod, Nat.mod_eq_of_lt hj]
 simp [Builtin.zeroCells, List.getD_eq_getElem?_getD, hlt, hm, hj]
theorem src_of {t u e p by_ : Nat} {i : TypeInfo} (hti : P.info? e = some i) (his : i.size = p) (hib : i.bytes = by_) {ya : AV} {vy : Value} {k : Nat} {el : Nat → List IV} {cs : List Bool} {rs : List Nat} (ht : P.underlying t = some (.slice e)) (H : Holds C B S a w)
   (h : appSrc P S.mem t u e p by_ ya = some (k, el, cs, rs)) (hc : ∀ p ∈ cs, p) (hy : ARel (ownOf C.A0 B S.mem) B w ya vy) :
   ∃ news, SrcOk P w u e i vy k news ∧ RowRel (ownOf C.A0 B S.mem) w k p el news := by
 unfold appSrc at h
 cases htu : Nat.beq t u with
 | true =>
   obtain rfl : t = u := by simpa using htu
   simp only [htu, cond_true] at h
   split at h
   · rename_i k' sz el' cs' rs' hv
     cases hsz : (Nat.beq sz p || Nat.beq k' 0) with
     | false => rw [hsz] at h; cases h
     | true =>
       rw [hsz] at h
       simp only [cond_true, Option.some.injEq, Prod.mk.injEq] at h
       obtain ⟨rfl, rfl, rfl, rfl⟩ := h
       obtain ⟨ad, cap, rfl, hn, hsl⟩ := viewSl_rel H hy hv hc
       have hsl' : SlRel (ownOf C.A0 B S.mem) w k' p el' ad := by
         simp only [Bool.or_eq_true, Nat.beq_eq] at hsz
         rcases hsz with rfl | rfl
         · exact hsl
         · exact hsl.zero
       exact ⟨_, .inl (by rw [his]; exact srcOk_sl ht hsl'), hsl'.row⟩
   · cases h
 | false =>
   simp only [htu, cond_false] at h
   split at h
   · rename_i s hu he
     cases hp : (Nat.beq p 1 && Nat.beq by_ 1) with
     | false => rw [hp] at h; cases h
     | true =>
       rw [hp] at h
       simp only [cond_true, Option.some.injEq, Prod.mk.injEq] at h
       obtain ⟨rfl, rfl, rfl, rfl⟩ := h
       simp only [Bool.and_eq_true, Nat.beq_eq] at hp
       obtain ⟨rfl, rfl⟩ := hp
       obtain rfl := hy.plain
       have hsz : s.data.toList.length = s.size := by simp
       refine ⟨Lib.strCells s, .inl (his ▸ ⟨⟨_, hu, fun k h => by cases h⟩, by simp [Builtin.lenOf], by rw [hsz]; exact Lib.run_firstCells_string w 1 s, by rw [hsz]; exact Lib.run_firstCells_string w.drew 1 s, by rw [Lib.strCells_length]; simp⟩), by rw [Lib.strCells_length]; simp, fun k _ => rfl, fun k j hk hj => ?_⟩
       · obtain rfl : j = 0 := by omega
         have hk' : k < s.data.size := by simpa using hk
         have e1 : (Lib.strCells s).getD (k * 1 + 0) undef = .int .u8 ((s.data.toList.getD k 0).toNat : Nat) := by
           simp only [Lib.strCells, List.getD_eq_getElem?_getD, Nat.mul_one, Nat.add_zero, List.getElem?_map, Array.getElem?_toList, Array.getElem?_eq_getElem hk', Option.map_some, Option.getD_some]
         rw [e1]
         exact ⟨rfl, .v _⟩
   · rename_i n hu
     split at h
     · rename_i z hz
       cases hp : (Nat.beq z.cells.size p && z.cells.toList.all (·.oneCell')) with
       | false => rw [hp] at h; cases h
       | true =>
         rw [hp] at h
         simp only [cond_true, Option.some.injEq, Prod.mk.injEq] at h
         obtain ⟨rfl, rfl, rfl, rfl⟩ := h
         simp only [Bool.and_eq_true, Nat.beq_eq] at hp
         obtain ⟨hp, hall⟩ := hp
         obtain rfl := hy.plain
         have h0 : 0 ≤ n := dec (hc (decide (0 ≤ n)) (by simp))
         have h1 : n ≤ 9223372036854775807 := dec (hc (decide (n ≤ 9223372036854775807)) (by simp))
         have h2 : n.toNat * by_ ≤ 140737488355328 := dec (hc (decide (n.toNat * by_ ≤ 140737488355328)) (by simp))
         have hzi : i.zero = some z := by
           unfold zeroP at hz
           rw [hti] at hz
           simpa using hz
         have hlen : (Builtin.zeroCells z.cells n.toNat).toList.length = n.toNat * p := by simp [Builtin.zeroCells, hp]
         refine ⟨(Builtin.zeroCells z.cells n.toNat).toList, .inr ⟨⟨_, hu⟩, ⟨_, _, rfl, h0, h1, rfl⟩, by rw [hib]; exact h2, ⟨z, hzi, rfl, by rw [his, hp]⟩, by rw [his, hlen]⟩, hlen, fun k _ => by simp [hp], fun k j hk hj => ?_⟩
         have hj' : j < z.cells.size := by rw [hp]; exact hj
         have e1 := zeroCells_getD z.cells n.toNat k j hk hj'
         rw [hp] at e1
         rw [e1]
         have e2 : (z.cells.toList.map IV.v).getD j (.v undef) = .v (z.cells.toList.getD j undef) := by
           simp [List.getD_eq_getElem?_getD, hj']
         rw [e2]
         refine ⟨?_, .v _⟩
         have hm : z.cells.toList.getD j undef ∈ z.cells.toList := by
           rw [List.getD_eq_getElem?_getD, List.getElem?_eq_getElem (by simpa using hj')]
           exact List.getElem_mem _
         exact List.all_eq_true.1 hall _ hm
     · cases h
   · cases h
theorem wp_value {v : Value} {w' : World} (hrun : (execOp a.eval o).run P w = .ok (.value v) w') (hk : K (a.put o.dst v) w') : o.wpV P a w K Q := by
 unfold Oper.wpV
 rw [hrun]
 exact hk
theorem append_case (H : Holds C B S a w) (hC : C.Ok) (hs : B slot = none) (hnx : Between C S slot) {c : Call} {zx zy : Operand} (hop : o.op = .call c) (hb : c.callee = .builtin .append) {ts : List TypeId} (hts : c.argTypes.toList = ts) (hxs : c.args = #[zx, zy])
   (h : appendA P slot S.mem ts (evalA S.tm zx) (evalA S.tm zy) = some r) (hc : ∀ p ∈ r.conds, p) (hK : Cont C B slot (S.apply o.dst r) K) : o.wpV P a w K Q := by
 have hx := eval_rel H zx
 have hy := eval_rel H zy
 unfold appendA at h
 split at h
 · rename_i t u
   have hty : c.argTypes = #[t, u] := Array.ext' (by simpa using hts)
   have hexec : ∀ v w', (Builtin.append_ #[t, u] o.type #[a.eval zx, a.eval zy]).run P w = .ok v w' → (execOp a.eval o).run P w = .ok (.value v) w' := by
     intro v w' hr
     simp [execOp, hop, resolve, hb, hxs, hty, invoke, builtin, hr]
   split at h
   · rename_i e ht
     split at h
     · rename_i p by_ z hsz hby hz
       cases hzc : Nat.beq z.cells.size (p + 1) with
       | false => rw [hzc] at h; cases h
       | true =>
       rw [hzc] at h
       simp only [cond_true] at h
       have hzc : z.cells.size = p + 1 := by simpa using hzc
       split at h
       · rename_i n el c1 r1 k el' c2 r2 hdst hsrc
         cases h
         have h63 : n + k ≤ 9223372036854775807 := dec (hc _ (by simp))
         have hbytes : (n + k) * by_ ≤ 140737488355328 := dec (hc _ (by simp))
         have hc1 : ∀ p ∈ c1, p := fun q hq => hc q (by simp [hq])
         have hc2 : ∀ p ∈ c2, p := fun q hq => hc q (by simp [hq])
         obtain ⟨i, hi, hib, his, hiz⟩ := run_bytes hby hsz hz
         have his : i.size = p + 1 := his
         obtain ⟨news, hso, hrow⟩ := src_of hi his hib ht H hsrc hc2 hy
         subst hib
         -- a new block
         have fresh : ∀ (ad : Option Addr) (cap : Nat) (olds : List Value) (S2 : St), a.eval zx = .slice ad n cap → cap < n + k → (Builtin.firstCells i.size n (.slice ad n cap)).run P w.drew = .ok olds.toArray w.drew →
             RowRel (ownOf C.A0 B S.mem) w n (p + 1) el olds → Holds C B S2 a w → (∀ b, ownOf C.A0 B S2.mem b → ownOf C.A0 B S.mem b) → S2.nx = S.nx →
             ({ S2 with mem := S2.mem.set slot (some (.arr (n + k) (p + 1) (joinE n el el') e)), tm := putTm S2.tm o.dst (.msl slot (n + k) (p + 1)) } : St) =
               S.apply o.dst { val := .msl slot (n + k) (p + 1), upd := r1.map (fun b => (b, none)) ++ [(slot, some (.arr (n + k) (p + 1) (joinE n el el') e))] } → o.wpV P a w K Q := by
           intro ad cap olds S2 hzx hcap hold hor H2 hA2 hnx2 hS
           have hrun := run_append_new (P := P) (w := w) (ty := o.type) ht hi hiz hso (ad := ad) (cap := cap) hold hcap h63 hbytes
           have H3 := H2.move (w' := w.drew) (Below.refl _ w).drew
           have hge := grownCap_ge w (n + k) cap e
           have hcm := grownCap_le_maxLen w (n + k) cap e (by unfold maxLen; omega)
           have hj := (hor.join hrow).trans (w' := w.drew) (A' := ownOf C.A0 B S2.mem) (Trans.of_below (Below.refl _ w).drew) (fun b _ h => hA2 b h)
           have hlen : (olds.toArray ++ news.toArray ++ Builtin.zeroCells z.cells (grownCap w (n + k) cap e - (n + k))).size = grownCap w (n + k) cap e * (p + 1) := by
             simp only [Array.size_append, List.size_toArray, size_zeroCells, hzc, hor.1, hrow.1, ← Nat.add_mul]
             congr 1
             omega
           have hent := hj.ent (B := B) (cs := olds.toArray ++ news.toArray ++ Builtin.zeroCells z.cells (grownCap w (n + k) cap e - (n + k))) (by
             simp only [Array.toList_append]
             rw [List.take_left' (by simp [hor.1, hrow.1, Nat.add_mul])]) e
           have H4 := H3.alloc hC hs (by unfold Between; rw [hnx2]; exact hnx) hent
           have H5 := H4.put (x := .msl slot (n + k) (p + 1)) (v := .slice (some ⟨w.heap.size, 0, none⟩) (n + k) (grownCap w (n + k) cap e)) o.dst
             (.msl slot _ _ _ w.heap.size (by simp [setB]) hge hcm ⟨_, e, (0, 0), heap_alloc_new w.drew _, hlen⟩)
           refine wp_value (hexec _ _ (by rw [hzx]; exact hrun)) (hK _ _ (setB B slot w.heap.size) ?_ (fun j hj => by simp [setB, hj]))
           have : S.apply o.dst { val := .msl slot (n + k) (p + 1), upd := r1.map (fun b => (b, none)) ++ [(slot, some (.arr (n + k) (p + 1) (joinE n el el') e))],
                                  conds := c1 ++ c2 ++ [decide (n + k ≤ 9223372036854775807), decide ((n + k) * i.bytes ≤ 140737488355328)], reads := r1 ++ r2 } =
               { S2 with mem := S2.mem.set slot (some (.arr (n + k) (p + 1) (joinE n el el') e)), tm := putTm S2.tm o.dst (.msl slot (n + k) (p + 1)) } := hS.symm
           rw [this]
           exact H5
         -- nothing to nothing
         have nil : ∀ (S2 : St), a.eval zx = .slice none 0 0 → n = 0 → k = 0 → Holds C B S2 a w → S2.nx = S.nx →
             ({ S2 with mem := S2.mem.set slot (some (.arr (n + k) (p + 1) (joinE n el el') e)), tm := putTm S2.tm o.dst (.msl slot (n + k) (p + 1)) } : St) =
               S.apply o.dst { val := .msl slot (n + k) (p + 1), upd := r1.map (fun b => (b, none)) ++ [(slot, some (.arr (n + k) (p + 1) (joinE n el el') e))] } → o.wpV P a w K Q := by
           intro S2 hzx hn0 hk0 H2 hnx2 hS
           subst hn0
           subst hk0
           have hrun := run_append_none (P := P) (w := w) (ty := o.type) ht hi hso rfl (ad := none) (n := 0) (cap := 0) (Nat.le_refl _) (.inl rfl)
           have H4 := H2.setNil hs (e := .arr (0 + 0) (p + 1) (joinE 0 el el') e) rfl
           have H5 := H4.put (x := .msl slot (0 + 0) (p + 1)) (v := .slice none 0 0) o.dst (.mnil slot _)
           refine wp_value (hexec _ _ (by rw [hzx]; exact hrun)) (hK _ _ B ?_ (fun j hj => rfl))
           have : S.apply o.dst { val := .msl slot (0 + 0) (p + 1), upd := r1.map (fun b => (b, none)) ++ [(slot, some (.arr (0 + 0) (p + 1) (joinE 0 el el') e))],
                                  conds := c1 ++ c2 ++ [decide (0 + 0 ≤ 9223372036854775807), decide ((0 + 0) * i.bytes ≤ 140737488355328)], reads := r1 ++ r2 } =
               { S2 with mem := S2.mem.set slot (some (.arr (0 + 0) (p + 1) (joinE 0 el el') e)), tm := putTm S2.tm o.dst (.msl slot (0 + 0) (p + 1)) } := hS.symm
           rw [this]
           exact H5
         have nilrow : RowRel (ownOf C.A0 B S.mem) w 0 (p + 1) el [] := ⟨by simp, fun k hk => by omega, fun k j hk => by omega⟩
         unfold appDst at hdst
         split at hdst
         · rename_i hzx
           cases hdst
           rw [hzx] at hx
           have hvx := hx.plain
           by_cases hk0 : k = 0
           · exact nil S hvx rfl hk0 H rfl rfl
           · exact fresh none 0 [] S hvx (by omega) (by simp [Builtin.firstCells]) nilrow H (fun _ h => h) rfl rfl
         · rename_i b n' sz hzx
           rw [hzx] at hx
           split at hdst
           · rename_i m sz' el2 e' hm
             cases hall : (Nat.beq sz (p + 1) && Nat.beq sz' (p + 1) && Nat.beq e e') with
             | false => rw [hall] at hdst; cases hdst
             | true =>
               rw [hall] at hdst
               simp only [cond_true, Option.some.injEq, Prod.mk.injEq] at hdst
               obtain ⟨rfl, rfl, rfl, rfl⟩ := hdst
               simp only [Bool.and_eq_true, Nat.beq_eq] at hall
               obtain ⟨⟨rfl, rfl⟩, rfl⟩ := hall
               have hle : n' ≤ m := dec (hc1 _ (by simp))
               generalize hvx : a.eval zx = vx at hx
               cases hx with
               | mnil =>
                 have Hd := H.drop b
                 by_cases hk0 : k = 0
                 · exact nil _ hvx rfl hk0 Hd rfl rfl
                 · exact fresh none 0 [] _ hvx (by omega) (by simp [Builtin.firstCells]) nilrow Hd (own_drop b) rfl rfl
               | msl _ _ _ cap β hβ hn hmx hcc =>
                 rcases H.mem b _ hm with ⟨γ, hγ, hent⟩ | ⟨hno, _⟩
                 · rw [hβ] at hγ
                   cases hγ
                   generalize hob : w.heap[β]? = ob at hent
                   obtain ⟨cs, t', rfl⟩ := hent.isCells
                   have ht' : t' = e := by cases hent; rfl
                   subst ht'
                   have hor := arr_row hent hle
                   obtain ⟨C', t2, fz, hcc, hcs⟩ := hcc
                   rw [hob] at hcc
                   simp only [Option.some.injEq, Obj.cells.injEq] at hcc
                   obtain ⟨rfl, rfl, rfl⟩ := hcc
                   by_cases hroom : n' + k ≤ cap
                   · have hnew : news.length = k * (p + 1) := hrow.1
                     have hmul : (n' + k) * (p + 1) ≤ cap * (p + 1) := Nat.mul_le_mul_right _ hroom
                     have hfit : n' * i.size + news.length ≤ cs.size := by rw [his, hnew, hcs, ← Nat.add_mul]; exact hmul
                     have hrun := run_append_in (P := P) (w := w) (ty := o.type) ht hi hso hob hrow.oneCell hroom hfit
                     have hent2 : EntRel (ownOf C.A0 B S.mem) B w (.arr (n' + k) (p + 1) (joinE n' el2 el') t') (some (.cells (cs.toList.take (n' * i.size) ++ news ++ cs.toList.drop (n' * i.size + news.length)).toArray t' (0, 0))) := by
                       refine (hor.join hrow).ent ?_ t'
                       rw [his]
                       rw [List.take_left' (by rw [List.length_append, hor.1, hrow.1, Nat.add_mul])]
                     have H2 := H.setRow hm hβ hob (by simp; rw [his] at hfit ⊢; omega) hent2
                     have H3 := H2.rename (slot := slot) (e := .arr (n' + k) (p + 1) (joinE n' el2 el') t') (by show (S.mem.set b _) b = _; rw [mem_set_eq, if_pos rfl]) hβ hs hnx
                     have hbs : b ≠ slot := by rintro rfl; rw [hs] at hβ; cases hβ
                     refine wp_value (hexec _ _ (by rw [hvx]; exact hrun)) (hK _ _ (setB B slot β) ?_ (fun j hj => by simp [setB, hj]))
                     have H4 := H3.put (x := .msl slot (n' + k) (p + 1)) (v := .slice (some ⟨β, 0, none⟩) (n' + k) cap) o.dst
                       (.msl slot _ _ _ β (by simp [setB]) hroom hmx ⟨_, t', (0, 0), setRow_heap w β cs _ t' (0, 0) hob, by simp; rw [his] at hfit ⊢; omega⟩)
                     have hmem : ((S.mem.set b (some (.arr (n' + k) (p + 1) (joinE n' el2 el') t'))).set b none).set slot (some (.arr (n' + k) (p + 1) (joinE n' el2 el') t')) =
                         (S.mem.set b none).set slot (some (.arr (n' + k) (p + 1) (joinE n' el2 el') t')) := by
                       funext j
                       simp only [mem_set_eq]
                       by_cases h1 : j = slot <;> by_cases h2 : j = b <;> simp [h1, h2]
                     simp only [hmem] at H4
                     exact H4
                   · refine fresh (some ⟨β, 0, none⟩) cap (cs.toList.take (n' * (p + 1))) _ hvx (by omega) ?_ hor (H.drop b) (own_drop b) rfl rfl
                     rw [his]
                     refine run_firstCells_some (P := P) w.drew (p + 1) n' ⟨β, 0, none⟩ n' cap _ hor.1 fun j u hu => ?_
                     rw [addr_add']
                     show w.cell? _ = _
                     simp only [World.cell?, hob, Nat.zero_add]
                     rw [List.getElem?_take] at hu
                     split at hu
                     · simpa using hu
                     · cases hu
                 · rw [hβ] at hno; cases hno
           · cases hdst
         · cases hdst
       · cases h
     · cases h
   · cases h
 · cases h
end
end Go.Vse
namespace Go.Vse
open Go.RowKit
section
variable {P : Program} {C : Ctx} {B : Bmap} {S : St} {a : Act} {w : World} {o : Oper} {r : Eff} {slot : Nat}
  {K : Act → World → Prop} {Q : Exit → Act → World → Prop}
theorem SlRel.mono {A : Nat → Prop} {n k sz : Nat} {el : Nat → List IV} {ad : Option Addr} (h : SlRel A w n sz el ad) (hk : k ≤ n) : SlRel A w k sz el ad := by
 rcases h with rfl | ⟨b, off, rfl, hb, hl, hh⟩
 ·exact .inl (by omega)
 ·exact .inr ⟨b, off, rfl, hb, fun i hi => hl i (by omega), fun i j hi hj => hh i j (by omega) hj⟩
theorem RowRel.dropE {A : Nat → Prop} {n c sz : Nat} {el : Nat → List IV} {xs : List Value} (h : RowRel A w n sz el xs) (hc : c ≤ n) : RowRel A w (n - c) sz (fun i => el (i + c)) (xs.drop (c * sz)) := by
 refine ⟨by rw [List.length_drop, h.1, Nat.sub_mul], fun k hk => h.2.1 _ (by omega), fun k j hk hj => ?_⟩
 have e : (xs.drop (c * sz)).getD (k * sz + j) undef = xs.getD ((k + c) * sz + j) undef := by
  simp only [List.getD_eq_getElem?_getD, List.getElem?_drop]
  rw [show c * sz + (k * sz + j) = (k + c) * sz + j by rw [Nat.add_mul]; omega]
 rw [e]
 exact h.2.2 (k + c) j (by omega) hj
theorem copy_case (H : Holds C B S a w) {c : Call} {zx zy : Operand} (hop : o.op = .call c) (hb : c.callee = .builtin .copy) {ts : List TypeId} (hts : c.argTypes.toList = ts) (hxs : c.args = #[zx, zy])
   (h : copyA P S.mem ts (evalA S.tm zx) (evalA S.tm zy) = some r) (hc : ∀ p ∈ r.conds, p) (hK : Cont C B slot (S.apply o.dst r) K) : o.wpV P a w K Q := by
 have hx := eval_rel H zx
 have hy := eval_rel H zy
 unfold copyA at h
 split at h
 · rename_i t u b n sz hxe
   rw [hxe] at hx
   have hty : c.argTypes = #[t, u] := Array.ext' (by simpa using hts)
   have hexec : ∀ v w', (Builtin.copy_ #[t, u] o.type #[a.eval zx, a.eval zy]).run P w = .ok v w' → (execOp a.eval o).run P w = .ok (.value v) w' := by
     intro v w' hr
     simp [execOp, hop, resolve, hb, hxs, hty, invoke, builtin, hr]
   split at h
   · rename_i e hu
     split at h
     · rename_i p n' sz' el ty k sz2 el' cs rs hp hm hv
       cases htu : Nat.beq t u with
       | false => rw [htu] at hv; cases hv
       | true =>
       rw [htu] at hv
       simp only [cond_true] at hv
       cases hall : (Nat.beq sz p && Nat.beq sz' p && Nat.beq sz2 p && (rs.all fun r => !Nat.beq r b)) with
       | false => rw [hall] at h; cases h
       | true =>
         rw [hall] at h
         simp only [cond_true, Option.some.injEq] at h
         subst h
         simp only [Bool.and_eq_true, Nat.beq_eq] at hall
         obtain ⟨⟨⟨rfl, rfl⟩, rfl⟩, _⟩ := hall
         have hle : n ≤ n' := dec (hc _ (by simp))
         obtain ⟨ad, cap2, hvy, hn2, hsl⟩ := viewSl_rel H hy hv (fun q hq => hc q (by simp [hq]))
         have hsl' := hsl.mono (Nat.min_le_left k n)
         have hrow := hsl'.row
         have hfirst : (Builtin.firstCells sz2 (min k n) (.slice ad k cap2)).run P w = .ok (slCells w (min k n) sz2 ad).toArray w := by
           cases ad with
           | none => simp [Builtin.firstCells, slCells]
           | some ad => exact run_firstCells_some (P := P) w sz2 (min k n) ad k cap2 _ hsl'.length hsl'.news.1
         generalize hvx : a.eval zx = vx at hx
         cases hx with
         | mnil =>
           have hm0 : min k 0 = 0 := by omega
           have hsame : (fun i => if i < min k 0 then el' i else el i) = el := by funext i; simp
           have hcells : slCells w (min k 0) sz2 ad = [] := List.eq_nil_of_length_eq_zero (by rw [hsl'.length, hm0, Nat.zero_mul])
           rw [hcells, hm0] at hfirst
           refine fin_case hK (B' := B) (v := goInt ((min k 0 : Nat) : Int)) (w' := w) (hexec _ _ ?_) ?_ (ARel.lit _) (fun _ _ => rfl)
           · rw [hvx, hvy]
             simp [Builtin.copy_, run_underlying hu, Builtin.lenOf, run_size hp, hfirst]
           · have : applyUpd S.mem [(b, some (.arr n' sz2 (fun i => if i < min k 0 then el' i else el i) ty))] = S.mem := by
               funext j
               simp only [applyUpd, mem_set_eq]
               by_cases hj : j = b
               · subst hj; rw [if_pos rfl, hsame, hm]
               · rw [if_neg hj]
             rw [this]
             exact H
         | msl _ _ _ cap β hβ hn hmx hcc =>
           rcases H.mem b _ hm with ⟨γ, hγ, hent⟩ | ⟨hno, _⟩
           · rw [hβ] at hγ
             cases hγ
             generalize hob : w.heap[β]? = ob at hent
             obtain ⟨cs0, t', rfl⟩ := hent.isCells
             have ht' : t' = ty := by cases hent; rfl
             subst ht'
             have hor := arr_row hent (Nat.le_refl _)
             have hsz : n' * sz2 ≤ cs0.size := by cases hent; assumption
             have hlen : (slCells w (min k n) sz2 ad).length = min k n * sz2 := hsl'.length
             have hmn : min k n * sz2 ≤ n' * sz2 := Nat.mul_le_mul_right _ (by omega)
             have hst := run_storeCells_at P β 0 t' (slCells w (min k n) sz2 ad) 0 cs0 w hob (by rw [hlen]; omega) hrow.oneCell
             simp only [Nat.add_zero, Nat.zero_add, List.take_zero, List.nil_append] at hst
             have hrun : (Builtin.copy_ #[t, u] o.type #[a.eval zx, a.eval zy]).run P w = .ok (goInt ((min k n : Nat) : Int)) (w.setRow β (slCells w (min k n) sz2 ad ++ cs0.toList.drop (slCells w (min k n) sz2 ad).length).toArray) := by
               rw [hvx, hvy]
               simp [Builtin.copy_, run_underlying hu, Builtin.lenOf, run_size hp, hfirst, hst]
             have hj := hrow.join (hor.dropE (c := min k n) (by omega))
             rw [show min k n + (n' - min k n) = n' by omega] at hj
             have hfun : joinE (min k n) el' (fun i => el (i + min k n)) = fun i => if i < min k n then el' i else el i := by
               funext i
               unfold joinE
               by_cases hi : i < min k n
               · rw [if_pos hi, if_pos hi]
               · rw [if_neg hi, if_neg hi]
                 show el (i - min k n + min k n) = el i
                 rw [show i - min k n + min k n = i by omega]
             rw [hfun] at hj
             have hent2 := hj.ent (B := B) (cs := (slCells w (min k n) sz2 ad ++ cs0.toList.drop (slCells w (min k n) sz2 ad).length).toArray) (by
               simp only []
               rw [hlen, List.take_append, hlen, List.take_of_length_le (by rw [hlen]; exact hmn), List.drop_take]) t'
             have H2 := H.setRow hm hβ hob (by simp; rw [hlen]; omega) hent2
             exact fin_case hK (B' := B) (v := goInt ((min k n : Nat) : Int)) (hexec _ _ hrun) H2 (ARel.lit _) (fun _ _ => rfl)
           · rw [hβ] at hno; cases hno
     · cases h
   · cases h
 · cases h
theorem isBytes_get {n : Nat} {el : Nat → List IV} (h : isBytes n el = true) (k : Nat) (hk : k < n) : ∃ b : UInt8, el k = [.v (.int .u8 (b.toNat : Nat))] := by
 have h1 := List.all_eq_true.1 h k (by simpa using hk)
 unfold isByte at h1
 split at h1
 ·rename_i x hx
  simp only [Bool.and_eq_true, decide_eq_true_eq] at h1
  refine ⟨UInt8.ofNat x.toNat, ?_⟩
  have e : ((UInt8.ofNat x.toNat).toNat : Int) = x := by
   simp only [UInt8.toNat_ofNat']
   omega
  rw [e, hx]
 ·cases h1
theorem bytes_of_rel {A : Nat → Prop} {n : Nat} {el : Nat → List IV} {xs : List Value} (h : RowRel A w n 1 el xs) (hb : isBytes n el) :
  xs = ((bytesOf n el).map fun b => (b.toNat : Int)).map (Value.int .u8) := by
 apply List.ext_getElem?
 intro i
 by_cases hi : i < n
 ·have hil : i < xs.length := by rw [h.1]; omega
  obtain ⟨b, hel⟩ := isBytes_get hb i hi
  have hr := (h.2.2 i 0 hi (by omega)).2
  rw [hel] at hr
  simp only [List.getD_cons_zero, Nat.mul_one, Nat.add_zero] at hr
  have hx : xs.getD i undef = .int .u8 (b.toNat : Nat) := by
   generalize xs.getD i undef = q at hr
   cases hr; rfl
  have hx' : xs[i]? = some (.int .u8 (b.toNat : Nat)) := by
   rw [List.getD_eq_getElem?_getD, List.getElem?_eq_getElem hil] at hx
   rw [List.getElem?_eq_getElem hil]
   simpa using hx
  rw [hx']
  simp [bytesOf, hi, hel, byteOf]
 ·rw [List.getElem?_eq_none (by rw [h.1]; omega), List.getElem?_eq_none (by simp [bytesOf]; omega)]
theorem convMA_case (H : Holds C B S a w) {s d : TypeId} {x : Operand} (hop : o.op = .convert s d x)
   (h : convMA P S.mem s d (evalA S.tm x) = some r) (hc : ∀ p ∈ r.conds, p) (hK : Cont C B slot (S.apply o.dst r) K) : o.wpV P a w K Q := by
 have hx := eval_rel H x
 unfold convMA at h
 split at h
 · rename_i e hs hd
   split at h
   · rename_i n sz el cs rs he hv
     cases hsz : (Nat.beq sz 1 || Nat.beq n 0) with
     | false => rw [hsz] at h; cases h
     | true =>
       rw [hsz] at h
       simp only [cond_true, Option.some.injEq] at h
       subst h
       obtain ⟨ad, cap, hvx, hn, hsl⟩ := viewSl_rel H hx hv (fun q hq => hc q (by simp [hq]))
       have hib : isBytes n el := hc _ (by simp)
       have hsl' : SlRel (ownOf C.A0 B S.mem) w n 1 el ad := by
         simp only [Bool.or_eq_true, Nat.beq_eq] at hsz
         rcases hsz with rfl | rfl
         · exact hsl
         · exact hsl.zero
       refine pure_fin H hK (v := .string ⟨⟨bytesOf n el⟩⟩) ?_ (ARel.lit _) rfl
       have hcells := bytes_of_rel hsl'.row hib
       have hconv : (convert s d (a.eval x)).run P w = .ok (.string ⟨⟨bytesOf n el⟩⟩) w := by
         rw [hvx, run_convert_bytes_string w s d e ad n cap hs he hd]
         cases ad with
         | none =>
           have : n = 0 := by rcases hsl' with h | ⟨_, _, h, _⟩ <;> first | exact h | cases h
           subst this
           simp [Conv.bytesToString, bytesOf]
           rfl
         | some ad =>
           have hload : (loadCells ad n).run P w = .ok (((bytesOf n el).map fun b => (b.toNat : Int)).map (Value.int .u8)).toArray w := by
             have := run_loadCells_list (P := P) w ad (slCells w n 1 (some ad)) hsl'.news.1
             rw [hsl'.length, Nat.mul_one, hcells] at this
             exact this
           rw [run_bytesToString w ad n cap _ hload, foldl_push_bytes]
           congr 2
           apply ByteArray.ext
           simp only [ByteArray.empty, ByteArray.emptyWithCapacity]
           apply Array.ext'
           show (#[] : Array UInt8).toList ++ _ = _
           simp [Function.comp_def]
           rfl
       simp [execOp, hop, hconv]
   · cases h
 · obtain ⟨hu, v, hrun, hrel⟩ := convA_sound h hx
   exact pure_fin H hK (v := v) (by simp [execOp, hop, hrun]) hrel hu
theorem cap_case (H : Holds C B S a w) {c : Call} {z : Operand} (hop : o.op = .call c) (hb : c.callee = .builtin .cap) {t : TypeId} (hts : c.argTypes.toList = [t]) (hxs : c.args = #[z])
  (h : capA P t (evalA S.tm z) = some r) (hK : Cont C B slot (S.apply o.dst r) K) : o.wpV P a w K Q := by
 have hx := eval_rel H z
 have hty : c.argTypes = #[t] := Array.ext' (by simpa using hts)
 unfold capA at h
 split at h
 ·rename_i e hu hxe
  rw [hxe] at hx
  cases h
  have hv : (Builtin.cap_ #[t] o.type #[a.eval z]).run P w = .ok (goInt 0) w := by
   rw [hx.plain]
   simp [Builtin.cap_, run_underlying hu]
  refine pure_fin H hK (v := goInt 0) ?_ (ARel.lit _) rfl
  simp [execOp, hop, resolve, hb, hxs, hty, invoke, builtin, hv]
 ·cases h
theorem len_case (H : Holds C B S a w) {c : Call} {z : Operand} (hop : o.op = .call c) (hb : c.callee = .builtin .len) {t : TypeId} (hts : c.argTypes.toList = [t]) (hxs : c.args = #[z])
  (h : lenA P t (evalA S.tm z) = some r) (hK : Cont C B slot (S.apply o.dst r) K) : o.wpV P a w K Q := by
 have hx := eval_rel H z
 have hty : c.argTypes = #[t] := Array.ext' (by simpa using hts)
 have hbase : ∀ v : Value, (Builtin.len_ #[t] o.type #[a.eval z]).run P w = .ok v w → (execOp a.eval o).run P w = .ok (.value v) w := by
  intro v hv
  simp [execOp, hop, resolve, hb, hxs, hty, invoke, builtin, hv]
 unfold lenA at h
 split at h
 ·rename_i s hu hxe
  rw [hxe] at hx
  cases h
  refine pure_fin H hK (v := goInt s.size) (hbase _ ?_) (ARel.lit _) rfl
  rw [hx.plain]
  simp [Builtin.len_, run_underlying hu]
 ·rename_i e n sz el hu hxe
  rw [hxe] at hx
  cases h
  refine pure_fin H hK (v := goInt n) (hbase _ ?_) (ARel.lit _) rfl
  generalize a.eval z = vz at hx
  cases hx with
  | c _ _ hi => cases hi <;> simp [Builtin.len_, run_underlying hu]
 ·rename_i e hu hxe
  rw [hxe] at hx
  cases h
  refine pure_fin H hK (v := goInt 0) (hbase _ ?_) (ARel.lit _) rfl
  rw [hx.plain]
  simp [Builtin.len_, run_underlying hu]
 ·rename_i e b n sz hu hxe
  rw [hxe] at hx
  cases h
  refine pure_fin H hK (v := goInt n) (hbase _ ?_) (ARel.lit _) rfl
  generalize a.eval z = vz at hx
  cases hx <;> simp [Builtin.len_, run_underlying hu]
 ·rename_i e b k n sz hu hxe
  rw [hxe] at hx
  cases h
  refine pure_fin H hK (v := goInt n) (hbase _ ?_) (ARel.lit _) rfl
  generalize a.eval z = vz at hx
  cases hx <;> simp [Builtin.len_, run_underlying hu]
 ·rename_i n e hu
  cases h
  refine pure_fin H hK (v := goInt n) (hbase _ ?_) (ARel.lit _) rfl
  simp [Builtin.len_, run_underlying hu]
 ·cases h
theorem min_case (H : Holds C B S a w) {c : Call} {zx zy : Operand} (hop : o.op = .call c) (hb : c.callee = .builtin .min) (hxs : c.args = #[zx, zy])
  (h : minA (evalA S.tm zx) (evalA S.tm zy) = some r) (hK : Cont C B slot (S.apply o.dst r) K) : o.wpV P a w K Q := by
 have hx := eval_rel H zx
 have hy := eval_rel H zy
 unfold minA at h
 split at h
 ·rename_i k i k' j hxe hye
  rw [hxe] at hx
  rw [hye] at hy
  cases h
  refine pure_fin H hK (v := .int k (if j < i then j else i)) ?_ (ARel.lit _) rfl
  simp [execOp, hop, resolve, hb, hxs, invoke, builtin, hx.plain, hy.plain, Builtin.min_, Builtin.min2]
 ·cases h
theorem max_case (H : Holds C B S a w) {c : Call} {zx zy : Operand} (hop : o.op = .call c) (hb : c.callee = .builtin .max) (hxs : c.args = #[zx, zy])
  (h : maxA (evalA S.tm zx) (evalA S.tm zy) = some r) (hK : Cont C B slot (S.apply o.dst r) K) : o.wpV P a w K Q := by
 have hx := eval_rel H zx
 have hy := eval_rel H zy
 unfold maxA at h
 split at h
 ·rename_i k i k' j hxe hye
  rw [hxe] at hx
  rw [hye] at hy
  cases h
  refine pure_fin H hK (v := .int k (if j > i then j else i)) ?_ (ARel.lit _) rfl
  simp [execOp, hop, resolve, hb, hxs, invoke, builtin, hx.plain, hy.plain, Builtin.max_, Builtin.max2]
 ·cases h
theorem zeroCells_one {z : Value} {n : Nat} (h : z.cells.toList.all (·.oneCell') = true) : ∀ v ∈ (Builtin.zeroCells z.cells n).toList, v.oneCell' = true := by
 intro v hv
 simp only [Builtin.zeroCells, Array.toList_map, List.mem_map] at hv
 obtain ⟨i, hi, rfl⟩ := hv
 have hi : i < n * z.cells.size := by simpa using hi
 have hlt : i % z.cells.size < z.cells.size := Nat.mod_lt _ (by
   rcases Nat.eq_zero_or_pos z.cells.size with h0 | h0
   · rw [h0, Nat.mul_zero] at hi; omega
   · exact h0)
 rw [getElem!_pos z.cells _ hlt]
 exact List.all_eq_true.1 h _ (by simpa using Array.getElem_mem hlt)
theorem clear_case (H : Holds C B S a w) {c : Call} {z : Operand} (hop : o.op = .call c) (hb : c.callee = .builtin .clear) {t : TypeId} (hts : c.argTypes.toList = [t]) (hxs : c.args = #[z])
   (h : clearA P S.mem t (evalA S.tm z) = some r) (hK : Cont C B slot (S.apply o.dst r) K) : o.wpV P a w K Q := by
 have hx := eval_rel H z
 have hty : c.argTypes = #[t] := Array.ext' (by simpa using hts)
 have hbase : ∀ (v : Value) (w' : World), (Builtin.clear_ #[t] o.type #[a.eval z]).run P w = .ok v w' → (execOp a.eval o).run P w = .ok (.value v) w' := by
   intro v w' hv
   simp [execOp, hop, resolve, hb, hxs, hty, invoke, builtin, hv]
 unfold clearA at h
 split at h
 · rename_i e b k n sz hu hxe
   rw [hxe] at hx
   split at h
   · rename_i p zv n' sz' el e' hp hz hm
     cases hall : (Nat.beq p sz && (Nat.beq sz' sz && (Nat.ble k n' && (Nat.beq zv.cells.size sz && zv.cells.toList.all (·.oneCell'))))) with
     | false => rw [hall] at h; cases h
     | true =>
       rw [hall] at h
       simp only [cond_true, Option.some.injEq] at h
       subst h
       simp only [Bool.and_eq_true, Nat.beq_eq, Nat.ble_eq] at hall
       obtain ⟨rfl, rfl, hkn, hzs, hone⟩ := hall
       generalize hvx : a.eval z = vz at hx
       cases hx with
       | ssl _ _ _ _ cap β hβ hn h0 hcc =>
         obtain ⟨Cc, tt, fz, hcell, hsize⟩ := hcc
         rcases H.mem b _ hm with ⟨γ, hγ, hent⟩ | ⟨hno, _⟩
         · rw [hβ] at hγ
           cases hγ
           rw [hcell] at hent
           cases hent with
           | arr _ _ _ _ cs hcs hlen hrel =>
             have hzl : (Builtin.zeroCells zv.cells n).toList.length = n * sz' := by simp [Builtin.zeroCells, hzs]
             have hst := run_storeCells_at P β (k * sz') e' (Builtin.zeroCells zv.cells n).toList 0 Cc w hcell (by rw [hzl, Nat.add_zero]; rw [Nat.add_mul] at hsize; omega) (zeroCells_one hone)
             have hn0 : n ≠ 0 := by omega
             have hrun : (Builtin.clear_ #[t] o.type #[a.eval z]).run P w = .ok (.tuple #[]) (w.setRow β (Cc.toList.take (k * sz' + 0) ++ (Builtin.zeroCells zv.cells n).toList ++ Cc.toList.drop (k * sz' + 0 + (Builtin.zeroCells zv.cells n).toList.length)).toArray) := by
               rw [hvx]
               cases n with
               | zero => exact absurd rfl hn0
               | succ n => simp [Builtin.clear_, Sem.run_bind, run_underlying hu, run_zero hz, hst]
             have hz2 : (Builtin.zeroCells zv.cells n).toList.length = n * sz' := hzl
             generalize (Builtin.zeroCells zv.cells n).toList = zs at hrun hz2
             rw [Nat.add_mul] at hsize
             have hcl : Cc.toList.length = Cc.size := by simp
             have hsz2 : (Cc.toList.take (k * sz' + 0) ++ zs ++ Cc.toList.drop (k * sz' + 0 + zs.length)).toArray.size = Cc.size := by
               simp only [List.size_toArray, List.length_append, List.length_take, List.length_drop, hz2, hcl]
               omega
             have hget : ∀ i, i < k * sz' → (Cc.toList.take (k * sz' + 0) ++ zs ++ Cc.toList.drop (k * sz' + 0 + zs.length)).toArray.getD i undef = Cc.getD i undef := by
               intro i hi
               have h1 : i < (Cc.toList.take (k * sz')).length := by rw [List.length_take, hcl]; omega
               simp only [Array.getD_eq_getD_getElem?, List.getElem?_toArray, Nat.add_zero]
               rw [List.append_assoc, List.getElem?_append_left h1, List.getElem?_take_of_lt hi]
               simp
             have hent2 : EntRel (ownOf C.A0 B S.mem) B w (.arr k sz' el e') (some (.cells (Cc.toList.take (k * sz' + 0) ++ zs ++ Cc.toList.drop (k * sz' + 0 + zs.length)).toArray e' (0, 0))) := by
               refine .arr k sz' el e' _ (by rw [hsz2]; omega) (fun i hi => hlen i (by omega)) fun i j hi hj => ?_
               rw [hget _ (mul_add_lt hi hj)]
               exact hrel i j (by omega) hj
             have H2 := H.setRow hm hβ hcell hsz2 hent2
             exact fin_case hK (B' := B) (v := .tuple #[]) (hbase _ _ hrun) H2 (.tup [] #[] rfl (fun j hj => absurd hj (Nat.not_lt_zero j))) (fun _ _ => rfl)
         · rw [hβ] at hno; cases hno
   · cases h
 · cases h
theorem zeroLike_eq {x y : Value} (h : zeroLike x y = true) : x = y := by
 unfold zeroLike at h
 split at h <;> first | rfl | cases h
theorem allocArr_case (H : Holds C B S a w) (hC : C.Ok) (hs : B slot = none) (hnx : Between C S slot) {t : TypeId} (hop : o.op = .alloc t) {n p : Nat} {ze z : Value} (hz : zeroP P t = some z) (hzc : ze.cells.size = p + 1)
   (h : allocArr slot t n (p + 1) ze z = some r) (hK : Cont C B slot (S.apply o.dst r) K) : o.wpV P a w K Q := by
 unfold allocArr at h
 cases hall : (Nat.beq z.cells.toList.length (n * (p + 1)) && ze.cells.toList.all (·.oneCell') && (List.range (n * (p + 1))).all (fun j => zeroLike (z.cells.toList.getD j undef) (ze.cells.toList.getD (j % (p + 1)) undef))) with
 | false => rw [hall] at h; cases h
 | true =>
   rw [hall] at h
   simp only [cond_true, Option.some.injEq] at h
   subst h
   simp only [Bool.and_eq_true, Nat.beq_eq] at hall
   obtain ⟨⟨hlen, hok⟩, hsame⟩ := hall
   have hent := zeros_rel (A := ownOf C.A0 B S.mem) (B := B) (w := w) (n := n) (p := p) (z := ze) (e := t) (cs := z.cells) hzc hok (by simpa using hlen) (fun i hi => by
     have := List.all_eq_true.1 hsame i (by simpa using hi)
     have := zeroLike_eq this
     simpa [Array.getD_eq_getD_getElem?, List.getD_eq_getElem?_getD] using this)
   refine fin_case hK (w' := w.alloc (.cells z.cells t)) (v := .pointer (some ⟨w.heap.size, 0, none⟩)) (B' := setB B slot w.heap.size) ?_ (H.alloc hC hs hnx hent) ?_ (fun j hj => by simp [setB, hj])
   · simp [execOp, hop, Instr.alloc, run_zero hz, newVar, newRow]
   · have := ARel.eptr (A := ownOf C.A0 (setB B slot w.heap.size) (applyUpd S.mem [(slot, some (.arr n (p + 1) (fun _ => ze.cells.toList.map .v) t))])) (B := setB B slot w.heap.size) (w := w.alloc (.cells z.cells t)) slot 0 0 (p + 1) w.heap.size (by simp [setB])
     simpa using this
theorem buildSlice_gen (H : Holds C B S a w) (hC : C.Ok) (hs : B slot = none) (hnx : Between C S slot) {t : TypeId} {n : Nat} {ps : Array (Nat × Operand)} (hop : o.op = .buildSlice t n ps)
   (ys : List (Nat × AV)) (hyl : (ps.toList.map fun (i, x) => (i, a.eval x)).length = ys.length) (hyr : ∀ j, j < ys.length → ((ps.toList.map fun (i, x) => (i, a.eval x)).getD j (0, undef)).1 = (ys.getD j (0, .any)).1 ∧ ARel (ownOf C.A0 B S.mem) B w (ys.getD j (0, .any)).2 ((ps.toList.map fun (i, x) => (i, a.eval x)).getD j (0, undef)).2)
   (h : buildSliceA P slot t n ys = some r) (hK : Cont C B slot (S.apply o.dst r) K) : o.wpV P a w K Q := by
 unfold buildSliceA at h
 split at h
 · rename_i e hu
   split at h
   · rename_i p z hp hz
     cases hn00 : (Nat.beq n 0 && ys.isEmpty) with
     | true =>
       rw [hn00] at h
       simp only [cond_true, Option.some.injEq] at h
       subst h
       simp only [Bool.and_eq_true, Nat.beq_eq, List.isEmpty_iff] at hn00
       obtain ⟨rfl, hys⟩ := hn00
       subst hys
       have hps : ps = #[] := by
         have : ps.toList.length = 0 := by simpa using hyl
         exact Array.ext' (List.eq_nil_of_length_eq_zero this)
       subst hps
       have hrow : RowRel (ownOf C.A0 B S.mem) w 0 (p + 1) (fun _ => []) [] := ⟨by simp, fun k hk => by omega, fun k j hk hj => by omega⟩
       have hent := hrow.ent (B := B) (cs := #[]) (by simp) e
       refine fin_case hK (w' := w.alloc (.cells #[] e)) (v := .slice (some ⟨w.heap.size, 0, none⟩) 0 0) (B' := setB B slot w.heap.size) ?_ (H.alloc hC hs hnx hent) ?_ (fun j hj => by simp [setB, hj])
       · simp [execOp, hop, Instr.buildSlice, run_underlying hu, run_size hp, Instr.fill, newRow]; exact congrArg (fun l => w.alloc (Obj.cells l e)) (Array.ext' (by simp))
       · exact .msl slot 0 (p + 1) 0 w.heap.size (by simp [setB]) (Nat.le_refl _) (by unfold maxLen; omega) ⟨_, e, (0, 0), heap_alloc_new w _, by simp⟩
     | false =>
     rw [hn00] at h
     simp only [cond_false] at h
     split at h
     · rename_i l hf
       split at h
       · rename_i c hcm
         cases hall : (Nat.ble (n * (p + 1)) 16777216 && Nat.beq z.cells.size (p + 1) && l.all cellOk && !Nat.beq n 0) with
         | false => rw [hall] at h; cases h
         | true =>
           rw [hall] at h
           simp only [cond_true, Option.some.injEq] at h
           subst h
           simp only [Bool.and_eq_true, Nat.ble_eq, Nat.beq_eq, Bool.not_eq_true'] at hall
           obtain ⟨⟨⟨hbig, hzc⟩, hok⟩, hn0⟩ := hall
           have hne : n ≠ 0 := by rintro rfl; cases hn0
           have hnp : ¬ n * (p + 1) = 0 := Nat.mul_ne_zero hne (by omega)
           let zs : List Value := (List.range (n * (p + 1))).map fun j => z.cells[j % z.cells.size]!
           have hz0 : Rels (ownOf C.A0 B S.mem) B w ((List.range (n * (p + 1))).map fun j => AV.c (.v (z.cells[j % z.cells.size]!))) zs := by
             have := rels_ofCells (A := ownOf C.A0 B S.mem) (B := B) (w := w) zs
             simpa [zs, List.map_map, Function.comp_def, ofCell] using this
           obtain ⟨cs', hfill, hr'⟩ := fill_sound (place := fun i => some (i * (p + 1), p + 1)) (fun i q hi => by
             simp only [List.getElem?_map, Option.map_eq_some_iff] at hi
             obtain ⟨j, hj, rfl⟩ := hi
             rw [List.getElem?_eq_some_iff] at hj
             obtain ⟨_, rfl⟩ := hj
             simp) _ (ps.toList.map fun (i, x) => (i, a.eval x)) _ l zs hf hz0 hyl hyr
           rw [mapM_toIV hcm] at hr' hok
           have h1 := rels_oneCell hr' hok
           obtain ⟨hcl, hcr⟩ := irel_of_ivs hr'
           have hfl : cs'.length = n * (p + 1) := by
             have hfa : ∀ (pl : List (Nat × Nat)) (parts : List (Nat × AV)) (l0 l1 : List AV), fillA pl l0 parts = some l1 → l1.length = l0.length := by
               intro pl parts
               induction parts with
               | nil => intro l0 l1 h; simp only [fillA, Option.some.injEq] at h; rw [h]
               | cons q parts ih =>
                 obtain ⟨i, x⟩ := q
                 intro l0 l1 h
                 simp only [fillA] at h
                 cases hpl : pl[i]? with
                 | none => simp [hpl] at h
                 | some q =>
                   obtain ⟨off, m⟩ := q
                   simp only [hpl] at h
                   cases hb : (Nat.beq (cellsA x).length m && Nat.ble (off + m) l0.length && (cellsA x).all cellOk) with
                   | false => rw [hb] at h; cases h
                   | true =>
                     rw [hb] at h
                     simp only [cond_true] at h
                     simp only [Bool.and_eq_true, Nat.beq_eq, Nat.ble_eq] at hb
                     rw [ih _ _ h]
                     simp
                     omega
             have := hfa _ _ _ _ hf
             rw [mapM_toIV hcm] at this
             rw [hcl]
             simpa [ivs] using this
           have hrow : RowRel (ownOf C.A0 B S.mem) w n (p + 1) (fun k => (c.drop (k * (p + 1))).take (p + 1)) cs' := by
             refine ⟨hfl, fun k hk => ?_, fun k j hk hj => ?_⟩
             · have : k * (p + 1) + (p + 1) ≤ n * (p + 1) := by
                 calc k * (p + 1) + (p + 1) = (k + 1) * (p + 1) := by rw [Nat.add_mul, Nat.one_mul]
                   _ ≤ n * (p + 1) := Nat.mul_le_mul_right _ hk
               simp
               omega
             · have hlt := mul_add_lt hk hj
               have hlc : k * (p + 1) + j < cs'.length := by rw [hfl]; exact hlt
               have e1 : ((c.drop (k * (p + 1))).take (p + 1)).getD j (.v undef) = c.getD (k * (p + 1) + j) (.v undef) := by
                 simp [List.getD_eq_getElem?_getD, List.getElem?_take, hj, List.getElem?_drop]
               rw [e1]
               refine ⟨h1 _ ?_, hcr _ (by omega)⟩
               rw [List.getD_eq_getElem?_getD, List.getElem?_eq_getElem hlc]
               exact List.getElem_mem hlc
           have hent := hrow.ent (B := B) (cs := cs'.toArray) (by simp only []; rw [List.take_of_length_le (by omega)]) e
           have hbig' : ¬ n * (p + 1) > 2 ^ 24 := by omega
           refine fin_case hK (w' := w.alloc (.cells cs'.toArray e)) (v := .slice (some ⟨w.heap.size, 0, none⟩) n n) (B' := setB B slot w.heap.size) ?_ (H.alloc hC hs hnx hent) ?_ (fun j hj => by simp [setB, hj])
           · have hfill' : Instr.fill (fun i => some (i * (p + 1), p + 1)) ((Array.range (n * (p + 1))).map (z.cells[· % z.cells.size]!)) (ps.map fun (i, x) => (i, a.eval x)).toList = some cs'.toArray := by
               have e1 : ((Array.range (n * (p + 1))).map (z.cells[· % z.cells.size]!)) = zs.toArray := by
                 apply Array.ext'; simp [zs]
               rw [e1]
               simpa using hfill
             simp only [execOp, hop, Instr.buildSlice, Sem.run_bind, run_underlying hu, Result.andThen_ok, run_size hp, if_neg hbig', if_neg hnp, run_zero hz, Sem.run_pure, Sem.run_ite]
             rw [hfill']
             simp [newRow]
           · refine .msl slot n (p + 1) n w.heap.size (by simp [setB]) (Nat.le_refl _) ?_ ⟨_, e, (0, 0), heap_alloc_new w _, by simpa using hfl⟩
             unfold maxLen
             have : n ≤ n * (p + 1) := Nat.le_mul_of_pos_right _ (by omega)
             omega
       · cases h
     · cases h
   · cases h
 · cases h
theorem buildSlice_case (H : Holds C B S a w) (hC : C.Ok) (hs : B slot = none) (hnx : Between C S slot) {t : TypeId} {n : Nat} {ps : Array (Nat × Operand)} (hop : o.op = .buildSlice t n ps)
  (h : buildSliceA P slot t n (ps.toList.map fun (i, x) => (i, evalA S.tm x)) = some r) (hK : Cont C B slot (S.apply o.dst r) K) : o.wpV P a w K Q := by
 refine buildSlice_gen H hC hs hnx hop _ (by simp) (fun j hj => ?_) h hK
 have hj' : j < ps.toList.length := by simpa using hj
 simp only [List.getD_eq_getElem?_getD, List.getElem?_map, List.getElem?_eq_getElem hj', Option.map_some, Option.getD_some]
 exact ⟨trivial, eval_rel H _⟩
end
end Go.Vse
