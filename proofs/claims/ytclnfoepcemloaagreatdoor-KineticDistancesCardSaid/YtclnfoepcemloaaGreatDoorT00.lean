/- Helpers for the proof: no statement of its own. -/
import Derived.Orders
import Derived.WalkKit
import Derived.Below
import Derived.Laws.AppendOwn
import Derived.Laws.CopyRow
import Derived.Laws.Rows
import Derived.Laws.StructEq
import Derived.Deep.MidRow
import Derived.CallsIn
import Derived.OrdersIn
import Derived.LoopNIn
import Derived.RangeFuncIn
import Derived.Scope
import Derived.Lib.Strings
import Derived.Lib.AppendStr
import Derived.Laws.BytesArg
import Derived.Laws.IdiomRangeMap
import Derived.Carry
import Derived.RangeFuncRecord
set_option linter.unusedVariables false
set_option linter.unusedSimpArgs false
set_option linter.unnecessarySimpa false
set_option linter.deprecated false
set_option maxRecDepth 1000000
theorem fK.{u} {a:Type u} (x y:a):(some x=some y)=(x=y):=Option.some.injEq x y
theorem dR.{u} {a:Type u}{l:List a}{i:Nat}{d:a}:l.getD i d=l[i]?.getD d:=rfl
theorem oQ.{u} {a:Type u}{l:Array a}{i:Nat}{d:a}:l.getD i d=l[i]?.getD d:=Array.getD_eq_getD_getElem?
theorem cu(x y:Bool):((x&&y)=true)=(x=true∧y=true):=Bool.and_eq_true x y
theorem fT{p:Prop}[Decidable p]:(decide p=true)=p:=decide_eq_true_eq
theorem j4{p:Prop}[Decidable p] (h:decide p=true):p:=of_decide_eq_true h
theorem fZ{p:Prop}[Decidable p] (h:p):decide p=true:=decide_eq_true h
theorem jK{p:Prop}[Decidable p] (h:¬p):decide p=false:=decide_eq_false h
theorem bQ{p:Prop}[Decidable p] (h:p:=by omega):decide p=true:=decide_eq_true h
namespace Go.bI
inductive IV where
 | v (x:Value)
 | sl (n sz:Nat) (el:Nat→List IV)
 | mp (es:List (Int×Value))
 | mq (es:List (Int×IV))
inductive AV where
 | c (x:IV)
 | agg (l:List AV)
 | iC (l:List AV)
 | ptr (b off:Nat)
 | kI (b k j sz:Nat)
 | iP (b n sz:Nat)
 | IL (b k n sz:Nat)
 | gq (l:List IV)
 | fn (f:FuncId) (cap:List AV)
 | omap (b:Nat)
 | any
inductive jk where
 | cells (l:List AV) (t:TypeId)
 | arr (n sz:Nat) (el:Nat→List IV) (t:TypeId)
 | vJ (es:List (Int×IV))
 | Lf (es:List (Int×IV)) (seen:List Nat)
mutual
def fu:AV→Bool
 | .c _=>true
 | .agg l=>vK l
 | .iC l=>vK l
 | .gq _=>true
 | .fn _ l=>vK l
 | _=>false
def vK:List AV→Bool
 | []=>true
 | x::l=>fu x&&vK l
end
def jo:AV→Bool
 | .c (.v x)=>x.oneCell'
 | .c (.sl _ _ _)=>true
 | .c (.mp _)=>true
 | .c (.mq _)=>true
 | .omap _=>true
 | .ptr _ _=>true
 | .kI _ _ _ _=>true
 | .iP _ _ _=>true
 | .IL _ _ _ _=>true
 | .gq _=>true
 | .fn _ _=>true
 | _=>false
abbrev Mem:=Nat→Option jk
def Mem.set(m:Mem)(k:Nat)(e:Option jk):Mem:=λj=>bif Nat.beq j k then e else m j
structure St where
 tm:List AV
 mem:Mem
 nx:Nat
structure Eff where
 val:AV
 upd:List (Nat×Option jk):=[]
 conds:List Bool:=[]
 reads:List Nat:=[]
def dA(m:Mem):List (Nat×Option jk)→Mem
 | []=>m
 | (k,e)::l=>dA (m.set k e) l
def mD(tm:List AV)(d:Option Tmp)(v:AV):List AV:=
 match d with
 | some d=>tm.set d v
 | none=>tm
def St.apply(S:St)(d:Option Tmp)(r:Eff):St:={S with tm:=mD S.tm d r.val,mem:=dA S.mem r.upd}
inductive Tr (α:Type) where
 | ret (a:α)
 | ite (c:Bool) (t e:Tr α)
 | need (p:Bool) (t:Tr α)
 | both (a b:Tr α)
 | fail (why:String)
namespace Tr
def bind{α β:Type}:Tr α→(α→Tr β)→Tr β
 | .ret a,f=>f a
 | .ite c t e,f=> .ite c (t.bind f) (e.bind f)
 | .need p t,f=> .need p (t.bind f)
 | .both a b,f=> .both (a.bind f) (b.bind f)
 | .fail w,_=> .fail w
def sat{α:Type}(Q:α→Prop):Tr α→Prop
 | .ret a=>Q a
 | .ite c t e=>(c=true→t.sat Q)∧(c=false→e.sat Q)
 | .need p t=>p∧(p→t.sat Q)
 | .both a b=>a.sat Q∧b.sat Q
 | .fail _=>False
def needs{α:Type}:List Bool→Tr α→Tr α
 | [],t=>t
 | p::l,t=> .need p (needs l t)
end Tr
def Ec(v:Value):AV:= .c (.v v)
def ofValue:Value→AV
 | .agg cs=> .agg (cs.toList.map Ec)
 | v=>Ec v
def cellsOf(v:Value):List AV:=v.cells.toList.map Ec
def cZ(tm:List AV):Operand→AV
 | .tmp t=>tm.getD t .any
 | .const v=>ofValue v
 | .global g=> .c (.v (.pointer (some ⟨g,0,none⟩)))
 | .func f=> .c (.v (.func (.func f) #[] #[]))
def jP:AV→List AV
 | .agg l=>l
 | a=> [a]
def Bq(P:Program)(t:TypeId):Bool:=
 match P.underlying t with
 | some (.struct _)|some (.array _ _)=>true
 | _=>false
def jT(P:Program)(t:TypeId):Option Nat:=(P.info? t).map (·.size)
def qz(P:Program)(t:TypeId):Option Value:=(P.info? t).bind (·.zero)
def ah6(n:Option Nat)(l:List AV)(off:Nat):Option AV:=
 match n with
 | some n=>bif Nat.ble (off+n) l.length then some (.agg ((l.drop off).take n))else none
 | none=>none
def kS(P:Program)(t:TypeId)(l:List AV)(off:Nat):Option AV:=
 match P.underlying t with
 | some (.struct _)=>ah6 (jT P t) l off
 | some (.array _ _)=>ah6 (jT P t) l off
 | some _=>l[off]?
 | none=>none
def dn(k:IntKind)(n:Int):AV:= .c (.v (.int k n))
def bL(b:Bool):AV:= .c (.v (.bool b))
def TP(op:BinOp)(k:IntKind)(a b:Int):Option Eff:=
 match op with
 | .add=>some {val:=dn k (k.wrap (a+b))}
 | .sub=>some {val:=dn k (k.wrap (a-b))}
 | .mul=>some {val:=dn k (k.wrap (a*b))}
 | .quo=>some {val:=dn k (k.wrap (a.tdiv b)),conds:=[b≠0]}
 | .rem=>some {val:=dn k (a.tmod b),conds:=[b≠0]}
 | .and=>some {val:=dn k (k.wrap (BitVec.ofInt k.bits a&&&BitVec.ofInt k.bits b).toNat)}
 | .or=>some {val:=dn k (k.wrap (BitVec.ofInt k.bits a ||| BitVec.ofInt k.bits b).toNat)}
 | .xor=>some {val:=dn k (k.wrap (BitVec.ofInt k.bits a^^^BitVec.ofInt k.bits b).toNat)}
 | .andNot=>some {val:=dn k (k.wrap (BitVec.ofInt k.bits a&&& ~~~ BitVec.ofInt k.bits b).toNat)}
 | .eql=>some {val:=bL (a==b)}
 | .neq=>some {val:=bL (a !=b)}
 | .lss=>some {val:=bL (decide (a<b))}
 | .leq=>some {val:=bL (decide (a≤b))}
 | .gtr=>some {val:=bL (decide (a>b))}
 | .geq=>some {val:=bL (decide (a≥b))}
 | _=>none
def TQ(op:BinOp)(k:IntKind)(a b:Int):Option Eff:=
 match op with
 | .shl=>some {val:=dn k (k.wrap (a*2^(min b.toNat k.bits))),conds:=[¬b<0]}
 | .shr=>some {val:=dn k (a.fdiv (2^(min b.toNat k.bits))),conds:=[¬b<0]}
 | _=>none
def TR(op:BinOp)(a b:ByteArray):Option Eff:=
 let eq:=a.data.toList==b.data.toList
 let lt:=Op.bytesLess a.data.toList b.data.toList
 match op with
 | .add=>some {val:= .c (.v (.string (a++b))),conds:=[a.size+b.size≤9223372036854775807]}
 | .eql=>some {val:=bL eq}
 | .neq=>some {val:=bL (!eq)}
 | .lss=>some {val:=bL lt}
 | .leq=>some {val:=bL (lt || eq)}
 | .gtr=>some {val:=bL (!(lt || eq))}
 | .geq=>some {val:=bL (!lt)}
 | _=>none
def bA:List Bool→Bool
 | []=>true
 | [b]=>b
 | b::l=>b&&bA l
def TS(P:Program):Nat→TypeId→AV→AV→Option Bool
 | 0,_,_,_=>none
 | d+1,t,x,y=>
   match P.underlying t,x,y with
   | some .bool,.c (.v (.bool a)),.c (.v (.bool b))=>some (a==b)
   | some (.int _),.c (.v (.int k a)),.c (.v (.int k' b))=>if k=k' then some (a==b)else none
   | some .string,.c (.v (.string a)),.c (.v (.string b))=>some (a.data.toList==b.data.toList)
   | some (.struct fs),.agg l,.agg m=>
     bif P.stoodInHeld t then none else
     (fs.toList.mapM λf:Field=>bif f.name== "_" then none else
      match kS P f.type l f.offset,kS P f.type m f.offset with
      | some a,some b=>TS P d f.type a b
      | _,_=>none).map bA
   | some (.array n e),.agg l,.agg m=>
     match jT P e with
     | some sz=>
       ((List.range n).mapM λi=>
         match kS P e l (i*sz),kS P e m (i*sz)with
         | some a,some b=>TS P d e a b
         | _,_=>none).map bA
     | none=>none
   | _,_,_=>none
def acX(P:Program)(op:BinOp)(t:TypeId)(l m:List AV):Option Eff:=
 bif P.eqGuardType P.depth t then none else
  match TS P 8 t (.agg l) (.agg m),op with
  | some b,.eql=>some {val:=bL b}
  | some b,.neq=>some {val:=bL (!b)}
  | _,_=>none
def Ed(P:Program)(op:BinOp)(t:TypeId)(same:Bool):Option Eff:=
 match op,P.underlying t with
 | .eql,some (.pointer _)=>some {val:=bL same}
 | .neq,some (.pointer _)=>some {val:=bL (!same)}
 | _,_=>none
def acY(P:Program)(op:BinOp)(t:TypeId)(n:Nat):Option Eff:=
 match op,P.underlying t with
 | .eql,some (.slice _)=>some {val:=bL false,conds:=[decide (n≠0)]}
 | .neq,some (.slice _)=>some {val:=bL true,conds:=[decide (n≠0)]}
 | _,_=>none
def X7(P:Program)(op:BinOp)(t:TypeId)(same:Bool):Option Eff:=
 match op,P.underlying t with
 | .eql,some (.slice _)=>some {val:=bL same}
 | .neq,some (.slice _)=>some {val:=bL (!same)}
 | _,_=>none
def aom(P:Program)(op:BinOp)(t:TypeId)(x y:AV):Option Eff:=
 match x,y with
 | .c (.v (.int k a)),.c (.v (.int k' b))=>
   match op with
   | .shl | .shr=>TQ op k a b
   | _=>if k=k' then TP op k a b else none
 | .c (.v (.string a)),.c (.v (.string b))=>TR op a b
 | .c (.v (.bool a)),.c (.v (.bool b))=>
   match op,P.underlying t with
   | .eql,some .bool=>some {val:=bL (a==b)}
   | .neq,some .bool=>some {val:=bL (!(a==b))}
   | _,_=>none
 | .agg l,.agg m=>acX P op t l m
 | .c (.v (.pointer none)),.c (.v (.pointer none))=>Ed P op t true
 | .ptr _ _,.c (.v (.pointer none))=>Ed P op t false
 | .kI _ _ _ _,.c (.v (.pointer none))=>Ed P op t false
 | .gq _,.c (.v (.pointer none))=>Ed P op t false
 | .c (.sl n _ _),.c (.v (.slice none 0 0))=>acY P op t n
 | .c (.v (.slice none 0 0)),.c (.v (.slice none 0 0))=>X7 P op t true
 | .c (.v (.slice (some _) _ _)),.c (.v (.slice none 0 0))=>X7 P op t false
 | _,_=>none
def unA(op:UnOp)(x:AV):Option Eff:=
 match op,x with
 | .not,.c (.v (.bool b))=>some {val:=bL (!b)}
 | .neg,.c (.v (.int k n))=>some {val:=dn k (k.wrap (0-n))}
 | .xor,.c (.v (.int k n))=>some {val:=dn k (k.wrap (BitVec.ofInt k.bits (if k.signed then -1 else k.max)^^^BitVec.ofInt k.bits n).toNat)}
 | _,_=>none
def acZ(P:Program)(src dst:TypeId)(x:AV):Option Eff:=
 match P.underlying src,P.underlying dst,x with
 | some _,some (.int k),.c (.v (.int _ n))=>some {val:=dn k (k.wrap n)}
 | some _,some .string,.c (.v (.string s))=>some {val:= .c (.v (.string s))}
 | _,_,_=>none
def NU(P:Program)(fs:Array Field):Option (List (Nat×Nat)):=fs.toList.mapM (λf=>(P.info? f.type).map λi=>(f.offset,i.size))
def yh(places:List (Nat×Nat)):List AV→List (Nat×AV)→Option (List AV)
 | cells,[]=>some cells
 | cells,(i,x)::rest=>
   match places[i]? with
   | none=>none
   | some (off,n)=>
     let l:=jP x
     bif Nat.beq l.length n&&Nat.ble (off+n) cells.length&&l.all jo then yh places (cells.take off++l++cells.drop (off+n)) rest else none
def TT(P:Program)(t:TypeId)(parts:List (Nat×AV)):Option Eff:=
 match P.underlying t,qz P t with
 | some (.struct fs),some z=>
   match NU P fs with
   | some places=>
     match yh places (cellsOf z) parts with
     | some l=>some {val:= .agg l}
     | none=>none
   | none=>none
 | some (.array n e),some z=>
   match jT P e with
   | some sz=>
     match yh ((List.range n).map λi=>(i*sz,sz)) (cellsOf z) parts with
     | some l=>some {val:= .agg l}
     | none=>none
   | none=>none
 | _,_=>none
def IQ(slot:Nat)(t:TypeId)(l:List AV):Option Eff:=
 some {val:= .ptr slot 0,upd:=[(slot,some (.cells l t))]}
def Cn:Value→Value→Bool
 | .int .u8 0,.int .u8 0=>true
 | .int .i64 0,.int .i64 0=>true
 | .bool false,.bool false=>true
 | .slice none 0 0,.slice none 0 0=>true
 | _,_=>false
def IW(slot:Nat)(t:TypeId)(n sz:Nat)(ze z:Value):Option Eff:=
 bif Nat.beq z.cells.toList.length (n*sz)&&ze.cells.toList.all (·.oneCell')&&(List.range (n*sz)).all (λj=>Cn (z.cells.toList.getD j undef) (ze.cells.toList.getD (j%sz) undef))then
  some {val:= .kI slot 0 0 sz,upd:=[(slot,some (.arr n sz (λ_=>ze.cells.toList.map .v) t))]}
 else none
def anK(P:Program)(e:TypeId):Bool:=
 match P.underlying e with
 | some (.int .u8)=>true
 | _=>false
def Qk(l:List IV):List AV:=l.map .c
def Ql:AV→Option IV
 | .c x=>some x
 | _=>none
def FV(P:Program)(m:Mem)(t:TypeId)(x:AV):Option Eff:=
 match x with
 | .ptr b off=>
   match m b with
   | some (.cells l _)=>
     match kS P t l off with
     | some v=>some {val:=v,reads:=[b]}
     | none=>none
   | _=>none
 | .kI b k j sz=>
   match m b with
   | some (.arr n sz' el _)=>
     bif Nat.beq sz sz' then
      match kS P t (Qk (el k)) j with
      | some v=>some {val:=v,conds:=[k<n],reads:=[b]}
      | none=>none
     else none
   | _=>none
 | .gq l=>
   match kS P t (Qk l) 0 with
   | some v=>some {val:=v}
   | none=>none
 | .c (.v (.pointer (some _)))=>
   match jT P t,P.underlying t with
   | some 0,some (.struct _)=>some {val:= .agg []}
   | _,_=>none
 | _=>none
def aP(el:Nat→List IV)(k j:Nat)(c:List IV):Nat→List IV:=λi=>
 if i=k then(el i).take j++c++(el i).drop (j+c.length)else el i
def Ee(P:Program)(m:Mem)(t:TypeId)(x v:AV):Option Eff:=
 match x with
 | .ptr b off=>
   match m b,jT P t with
   | some (.cells l e),some n=>
     let c:=jP v
     bif Nat.beq c.length n&&Nat.ble (off+n) l.length&&c.all jo then
      some {val:= .c (.v undef),upd:=[(b,some (.cells (l.take off++c++l.drop (off+n)) e))],reads:=[b]}
     else none
   | _,_=>none
 | .kI b k j sz=>
   match m b,jT P t with
   | some (.arr n sz' el e),some p=>
     match (jP v).mapM Ql with
     | some c=>
       bif Nat.beq sz sz'&&Nat.beq c.length p&&Nat.ble (j+p) sz&&(jP v).all jo then
        some {val:= .c (.v undef),upd:=[(b,some (.arr n sz (aP el k j c) e))],conds:=[k<n],reads:=[b]}
       else none
     | none=>none
   | _,_=>none
 | _=>none
def Br(P:Program)(t:TypeId)(x:AV)(f:Nat):Option Eff:=
 match P.underlying t with
 | some (.struct fs)=>
   match fs[f]? with
   | some f=>
     match jT P f.type with
     | some (_+1)=>
       match x with
       | .ptr b off=>some {val:= .ptr b (off+f.offset)}
       | .kI b k j sz=>some {val:= .kI b k (j+f.offset) sz}
       | .gq l=>bif Nat.blt f.offset l.length then some {val:= .gq (l.drop f.offset)}else none
       | _=>none
     | _=>none
   | none=>none
 | _=>none
def ac0(P:Program)(t:TypeId)(x:AV)(f:Nat):Option Eff:=
 match P.underlying t,x with
 | some (.struct fs),.agg l=>
   match fs[f]? with
   | some f=>(kS P f.type l f.offset).map λv=>{val:=v}
   | none=>none
 | _,_=>none
abbrev Spec:=Nat→Mem→List AV→Option Eff
mutual
def iJ(m:Mem):AV→AV×List Bool
 | .iP b n sz=>
   match m b with
   | some (.arr n' sz' el _)=>bif Nat.beq sz sz' then(.c (.sl n sz el),[n≤n'])else(.iP b n sz,[])
   | _=>(.iP b n sz,[])
 | .omap b=>
   match m b with
   | some (.vJ es)=>(.c (.mq es),[])
   | _=>(.omap b,[])
 | .agg l=>(.agg (lY m l).1,(lY m l).2)
 | .iC l=>(.iC (lY m l).1,(lY m l).2)
 | x=>(x,[])
def lY(m:Mem):List AV→List AV×List Bool
 | []=>([],[])
 | x::l=>((iJ m x).1::(lY m l).1,(iJ m x).2++(lY m l).2)
end
mutual
def rV:AV→List Nat
 | .iP b _ _=> [b]
 | .omap b=> [b]
 | .agg l=>wu l
 | .iC l=>wu l
 | _=> []
def wu:List AV→List Nat
 | []=> []
 | x::l=>rV x++wu l
end
mutual
def oU:AV→Bool
 | .c (.v _)=>true
 | .agg l=>IY l
 | .iC l=>IY l
 | _=>false
def IY:List AV→Bool
 | []=>true
 | x::l=>oU x&&IY l
end
def ay(s:List AV→Option (AV×List Bool)):Spec:=λ_ m args=>
 bif vK (lY m args).1 then
  match s (lY m args).1 with
  | some (v,cs)=>some {val:=v,conds:=(lY m args).2++cs,upd:=bif oU v then []else(wu args).map λb=>(b,none),reads:=wu args}
  | none=>none
 else none
def ac1(P:Program)(t:TypeId)(x y:AV):Option Eff:=
 match P.underlying t,x,y with
 | some .string,.c (.v (.string s)),.c (.v (.int _ i))=>
   some {val:=dn .u8 (s.data.toList.getD i.toNat 0).toNat,conds:=[0≤i∧i<(s.data.toList.length:Int)]}
 | some (.array n e),.agg l,.c (.v (.int _ i))=>
   match jT P e with
   | some sz=>(kS P e l (i.toNat*sz)).map λv=>{val:=v,conds:=[0≤i∧i<(n:Int)]}
   | none=>none
 | _,_,_=>none
def Bu(P:Program)(m:Mem)(t:TypeId)(x y:AV):Option Eff:=
 match P.underlying t,y with
 | some (.slice e),.c (.v (.int _ i))=>
   match x,jT P e with
   | .iP b n sz,some p=>bif Nat.beq p sz then some {val:= .kI b i.toNat 0 sz,conds:=[0≤i∧i<(n:Int)]}else none
   | .c (.sl n sz el),some p=>bif Nat.beq p sz then some {val:= .gq (el i.toNat),conds:=[0≤i∧i<(n:Int)]}else none
   | .IL b k n sz,some p=>bif Nat.beq p sz then some {val:= .kI b (k+i.toNat) 0 sz,conds:=[0≤i∧i<(n:Int)]}else none
   | _,_=>none
 | some (.array n e),.c (.v (.int _ i))=>
   match x,jT P e with
   | .kI b 0 0 sz,some p=>bif Nat.beq sz p then some {val:= .kI b i.toNat 0 sz,conds:=[0≤i∧i<(n:Int)]}else none
   | .ptr b off,some p=>some {val:= .ptr b (off+i.toNat*p),conds:=[0≤i∧i<(n:Int)]}
   | _,_=>none
 | _,_=>none
def rW(m:Mem)(x:AV):Option (Nat×Nat×(Nat→List IV)×List Bool×List Nat):=
 match x with
 | .c (.sl n sz el)=>some (n,sz,el,[],[])
 | .c (.v (.slice none 0 0))=>some (0,0,λ_=> [],[],[])
 | .c (.v (.slice (some _) 0 _))=>some (0,0,λ_=> [],[],[])
 | .iP b n sz=>
   match m b with
   | some (.arr n' sz' el _)=>bif Nat.beq sz sz' then some (n,sz,el,[n≤n'],[b])else none
   | _=>none
 | _=>none
def byteOf:List IV→UInt8
 | [.v (.int .u8 x)]=>UInt8.ofNat x.toNat
 | _=>0
def fP(l:List UInt8):Nat→List IV:=λk=> [.v (.int .u8 ((l.getD k 0).toNat:Nat))]
def bytesOf(n:Nat)(el:Nat→List IV):List UInt8:=(List.range n).map λk=>byteOf (el k)
def isByte:List IV→Bool
 | [.v (.int .u8 x)]=>decide (0≤x)&&decide (x<256)
 | _=>false
def isBytes(n:Nat)(el:Nat→List IV):Bool:=(List.range n).all λk=>isByte (el k)
def bN(n:Nat)(el jw:Nat→List IV):Nat→List IV:=λk=>if k<n then el k else jw (k-n)
def IZ(P:Program)(t:TypeId):Option Nat:=(P.info? t).map (·.bytes)
def I4(m:Mem)(e:TypeId)(p:Nat)(x:AV):Option (Nat×(Nat→List IV)×List Bool×List Nat):=
 match x with
 | .c (.v (.slice none 0 0))=>some (0,(λ_=> []),[],[])
 | .iP b n sz=>
   match m b with
   | some (.arr n' sz' el e')=>bif Nat.beq sz p&&Nat.beq sz' p&&Nat.beq e e' then some (n,el,[n≤n'],[b])else none
   | _=>none
 | _=>none
def Ef(P:Program)(m:Mem)(t u e:TypeId)(p Eh:Nat)(y:AV):Option (Nat×(Nat→List IV)×List Bool×List Nat):=
 bif Nat.beq t u then
  match rW m y with
  | some (k,sz,el,cs,rs)=>bif Nat.beq sz p || Nat.beq k 0 then some (k,el,cs,rs)else none
  | none=>none
 else
  match P.underlying u,P.underlying e,y with
  | some .string,some (.int .u8),.c (.v (.string s))=>bif Nat.beq p 1&&Nat.beq Eh 1 then some (s.data.toList.length,fP s.data.toList,[],[])else none
  | some (.int _),_,.c (.v (.int _ n))=>
    match qz P e with
    | some z=>bif Nat.beq z.cells.size p&&z.cells.toList.all (·.oneCell')then
     some (n.toNat,(λ_=>z.cells.toList.map .v),[decide (0≤n),decide (n≤9223372036854775807),decide (n.toNat*Eh≤140737488355328)],[])else none
    | none=>none
  | _,_,_=>none
def zL(P:Program)(slot:Nat)(m:Mem)(ts:List TypeId)(x y:AV):Option Eff:=
 match ts with
 | [t,u]=>
   match P.underlying t with
   | some (.slice e)=>
     match jT P e,IZ P e,qz P e with
     | some (p+1),some Eh,some z=>
       bif Nat.beq z.cells.size (p+1)then
        match I4 m e (p+1) x,Ef P m t u e (p+1) Eh y with
        | some (n,el,c1,r1),some (k,jw,c2,r2)=>
          some {val:= .iP slot (n+k) (p+1),upd:=r1.map (λb=>(b,none))++[(slot,some (.arr (n+k) (p+1) (bN n el jw) e))],
                conds:=c1++c2++[decide (n+k≤9223372036854775807),decide ((n+k)*Eh≤140737488355328)],reads:=r1++r2}
        | _,_=>none
       else none
     | _,_,_=>none
   | _=>none
 | _=>none
def LY(P:Program)(m:Mem)(ts:List TypeId)(x y:AV):Option Eff:=
 match ts,x with
 | [t,u],.iP b n sz=>
   match P.underlying t with
   | some (.slice e)=>
     match jT P e,m b,bif Nat.beq t u then rW m y else none with
     | some p,some (.arr n' sz' el e'),some (k,Ho,jw,cs,rs)=>
       bif Nat.beq sz p&&Nat.beq sz' p&&Nat.beq Ho p&&(rs.all λr=> !Nat.beq r b)then
        some {val:=dn .i64 (min k n:Nat),upd:=[(b,some (.arr n' sz' (λi=>if i<min k n then jw i else el i) e'))],conds:=decide (n≤n')::cs,reads:=b::rs}
       else none
     | _,_,_=>none
   | _=>none
 | _,_=>none
def aon(P:Program)(t:TypeId)(x:AV):Option Eff:=
 match P.underlying t,x with
 | some .string,.c (.v (.string s))=>some {val:=dn .i64 (s.data.toList.length:Nat)}
 | some (.slice _),.c (.sl n _ _)=>some {val:=dn .i64 (n:Nat)}
 | some (.slice _),.c (.v (.slice none 0 0))=>some {val:=dn .i64 0}
 | some (.slice _),.iP _ n _=>some {val:=dn .i64 (n:Nat)}
 | some (.slice _),.IL _ _ n _=>some {val:=dn .i64 (n:Nat)}
 | some (.array n _),_=>some {val:=dn .i64 (n:Nat)}
 | _,_=>none
def aoo(x y:AV):Option Eff:=
 match x,y with
 | .c (.v (.int k a)),.c (.v (.int _ b))=>some {val:=dn k (if b<a then b else a)}
 | _,_=>none
def aop(x y:AV):Option Eff:=
 match x,y with
 | .c (.v (.int k a)),.c (.v (.int _ b))=>some {val:=dn k (if b>a then b else a)}
 | _,_=>none
def aoq(P:Program)(t:TypeId)(x:AV):Option Eff:=
 match P.underlying t,x with
 | some (.slice _),.c (.v (.slice none 0 0))=>some {val:=dn .i64 0}
 | _,_=>none
def Ei(P:Program)(m:Mem)(t:TypeId)(x:AV):Option Eff:=
 match P.underlying t,x with
 | some (.slice e),.IL b k _ sz=>
   match jT P e,qz P e,m b with
   | some p,some z,some (.arr n' sz' el e')=>
     bif Nat.beq p sz&&(Nat.beq sz' sz&&(Nat.ble k n'&&(Nat.beq z.cells.size sz&&z.cells.toList.all (·.oneCell'))))then some {val:= .iC [],upd:=[(b,some (.arr k sz el e'))],reads:=[b]}else none
   | _,_,_=>none
 | _,_=>none
def yN(P:Program)(slot:Nat)(m:Mem)(b:Builtin)(ts:List TypeId)(xs:List AV):Option Eff:=
 match b,ts,xs with
 | .len,[t],[x]=>aon P t x
 | .append,ts,[x,y]=>zL P slot m ts x y
 | .copy,ts,[x,y]=>LY P m ts x y
 | .min,_,[x,y]=>aoo x y
 | .max,_,[x,y]=>aop x y
 | .cap,[t],[x]=>aoq P t x
 | .clear,[t],[x]=>Ei P m t x
 | _,_,_=>none
def Bv(P:Program)(slot:Nat)(t:TypeId)(x y:AV):Option Eff:=
 match P.underlying t,x,y with
 | some (.slice e),.c (.v (.int .i64 n)),.c (.v (.int .i64 k))=>
   match jT P e,IZ P e,qz P e with
   | some (p+1),some Eh,some z=>
     bif Nat.beq z.cells.size (p+1)&&z.cells.toList.all (·.oneCell')then
      some {val:= .iP slot n.toNat (p+1),upd:=[(slot,some (.arr n.toNat (p+1) (λ_=>z.cells.toList.map .v) e))],
            conds:=[n=k,0≤n,n≤9223372036854775807,(Eh:Int)*n≤140737488355328]}
     else none
   | _,_,_=>none
 | _,_,_=>none
def rz(P:Program)(slot:Nat)(t:TypeId)(n:Nat)(parts:List (Nat×AV)):Option Eff:=
 match P.underlying t with
 | some (.slice e)=>
   match jT P e,qz P e with
   | some (p+1),some z=>
     bif Nat.beq n 0&&parts.isEmpty then some {val:= .iP slot 0 (p+1),upd:=[(slot,some (.arr 0 (p+1) (λ_=> []) e))]}else
     match yh ((List.range n).map λi=>(i*(p+1),p+1)) ((List.range (n*(p+1))).map λj=>AV.c (.v (z.cells[j%z.cells.size]!))) parts with
     | some l=>
       match l.mapM Ql with
       | some c=>bif Nat.ble (n*(p+1)) 16777216&&Nat.beq z.cells.size (p+1)&&l.all jo&& !Nat.beq n 0 then
        some {val:= .iP slot n (p+1),upd:=[(slot,some (.arr n (p+1) (λk=>(c.drop (k*(p+1))).take (p+1)) e))]}else none
       | none=>none
     | none=>none
   | _,_=>none
 | _=>none
def Ej(P:Program)(m:Mem)(t:TypeId)(x:AV)(lo hi:Option AV):Option Eff:=
 match P.underlying t,x with
 | some .string,.c (.v (.string s))=>
   match lo,hi with
   | none,none=>some {val:= .c (.v (.string s))}
   | some (.c (.v (.int _ l))),none=>some {val:= .c (.v (.string ⟨⟨s.data.toList.drop l.toNat⟩⟩)),conds:=[0≤l∧l≤(s.data.toList.length:Int)]}
   | none,some (.c (.v (.int _ h)))=>some {val:= .c (.v (.string ⟨⟨s.data.toList.take h.toNat⟩⟩)),conds:=[0≤h∧h≤(s.data.toList.length:Int)]}
   | some (.c (.v (.int _ l))),some (.c (.v (.int _ h)))=>some {val:= .c (.v (.string ⟨⟨(s.data.toList.take h.toNat).drop l.toNat⟩⟩)),conds:=[0≤l∧l≤h∧h≤(s.data.toList.length:Int)]}
   | _,_=>none
 | some (.slice e),.iP b n sz=>
   match jT P e,lo,hi with
   | some _,none,some (.c (.v (.int _ h)))=>some {val:= .iP b h.toNat sz,conds:=[0≤h∧h≤(n:Int)]}
   | some p,some (.c (.v (.int _ l))),none=>bif Nat.beq p sz then(bif Nat.beq l.toNat n then some {val:= .any,conds:=[0≤l]}else some {val:= .IL b l.toNat (n-l.toNat) sz,conds:=[0≤l∧l<(n:Int)]})else none
   | _,_,_=>none
 | some (.slice e),.c (.sl n sz el)=>
   match jT P e with
   | some p=>
     bif Nat.beq p sz then
      match lo,hi with
      | none,some (.c (.v (.int _ h)))=>some {val:= .c (.sl h.toNat sz el),conds:=[0≤h∧h≤(n:Int)]}
      | some (.c (.v (.int _ l))),none=>some {val:= .c (.sl (n-l.toNat) sz λk=>el (k+l.toNat)),conds:=[0≤l∧l≤(n:Int)]}
      | some (.c (.v (.int _ l))),some (.c (.v (.int _ h)))=>some {val:= .c (.sl (h.toNat-l.toNat) sz λk=>el (k+l.toNat)),conds:=[0≤l∧l≤h∧h≤(n:Int)]}
      | _,_=>none
     else none
   | none=>none
 | some (.slice e),.c (.v (.slice none 0 0))=>
   match jT P e,lo,hi with
   | some _,none,some (.c (.v (.int _ h)))=>some {val:= .c (.v (.slice none 0 0)),conds:=[0≤h∧h≤0]}
   | _,_,_=>none
 | some (.array n e),.kI b 0 0 sz=>
   match jT P e,m b,lo,hi with
   | some p,some (.arr n' sz' el _),none,some (.c (.v (.int _ h)))=>
     bif Nat.beq sz p&&Nat.beq sz' p&&Nat.beq n n'&& !Nat.beq n 0 then some {val:= .c (.sl h.toNat sz el),upd:=[(b,none)],conds:=[0≤h∧h≤(n:Int)],reads:=[b]}else none
   | _,_,_,_=>none
 | some (.array n e),.ptr b 0=>
   match jT P e,m b,lo,hi with
   | some p,some (.cells l _),none,some (.c (.v (.int _ h)))=>
     match l.mapM Ql with
     | some c=>bif Nat.beq l.length (n*p)&& !Nat.beq n 0&&l.all jo then some {val:= .c (.sl h.toNat p λk=>(c.drop (k*p)).take p),upd:=[(b,none)],conds:=[0≤h∧h≤(n:Int)],reads:=[b]}else none
     | none=>none
   | _,_,_,_=>none
 | _,_=>none
def El(P:Program)(m:Mem)(src dst:TypeId)(x:AV):Option Eff:=
 match P.underlying src,P.underlying dst with
 | some (.slice e),some .string=>
   match P.underlying e,rW m x with
   | some (.int .u8),some (n,sz,el,cs,rs)=>
     bif Nat.beq sz 1 || Nat.beq n 0 then some {val:= .c (.v (.string ⟨⟨bytesOf n el⟩⟩)),conds:=cs++[isBytes n el],reads:=rs}else none
   | _,_=>none
 | _,_=>acZ P src dst x
def zM:List Value→Bool
 | [.agg cs]=>cs.isEmpty
 | _=>false
def j5:FuncId:=1000000000
def Bw(Γ:FuncId→Option Spec)(f:FuncId):Option Spec:=bif Nat.beq f j5 then none else Γ f
def qE(l:Nat):Value:= .func (.yield l) #[] #[]
def uN(P:Program)(t:TypeId)(name:String):Option FuncId:=
 match P.info? t,P.underlying t with
 | some i,some (.struct _)=>
   match i.methods.find? (·.name==name)with
   | some m=>
     match m.func with
     | some (f,false)=>bif m.path.isEmpty then some f else none
     | _=>none
   | none=>none
 | _,_=>none
def Qm(P:Program)(Γ:FuncId→Option Spec)(slot:Nat)(tm:List AV)(m:Mem)(c:Call):Option Eff:=
 match c.callee with
 | .builtin b=>yN P slot m b c.argTypes.toList (c.args.toList.map (cZ tm))
 | .value f=>
   match cZ tm f with
   | .c (.v (.func (.func f) first cap))=>bif first.isEmpty&&cap.isEmpty then(Bw Γ f).bind λs=>s slot m (c.args.toList.map (cZ tm))else
     bif zM first.toList&&cap.isEmpty then(Bw Γ f).bind λs=>s slot m (.agg []::c.args.toList.map (cZ tm))else none
   | .c (.v (.func (.yield l) first cap))=>bif first.isEmpty&&(cap.isEmpty&&(P.funcs[j5]?).isNone)then(Γ j5).bind λs=>s slot m (.c (.v (qE l))::c.args.toList.map (cZ tm))else none
   | .fn f cap=>(Bw Γ f).bind λs=>s slot m (c.args.toList.map (cZ tm)++cap)
   | _=>none
 | .invoke recv name=>
   match cZ tm recv with
   | .c (.v (.iface t u))=>
     match uN P t name with
     | some f=>(Bw Γ f).bind λs=>s slot m (ofValue u::c.args.toList.map (cZ tm))
     | none=>none
   | _=>none
def vL(n:Int):List (Int×Value)→Option Value
 | []=>none
 | p::l=>bif decide (n=p.1)then some p.2 else vL n l
def NV(P:Program)(t:TypeId)(x y:AV)(ok:Bool):Option Eff:=
 match P.underlying t,x,y with
 | some (.map k e),.c (.mp es),.c (.v (.int .i64 n))=>
   match P.underlying k,qz P e with
   | some (.int .i64),some z=>
     let v:=match vL n es with|some v=>v|none=>z
     some {val:=bif ok then .iC [ofValue v,bL (vL n es).isSome]else ofValue v}
   | _,_=>none
 | _,_,_=>none
def oV(P:Program)(t:TypeId):Bool:=
 match P.underlying t with
 | some (.map k _)=>match P.underlying k with|some (.int .i64)=>true | _=>false
 | _=>false
def hintA:Option AV→Bool
 | none=>true
 | some (.c (.v (.int _ _)))=>true
 | _=>false
def I5(P:Program)(slot:Nat)(t:TypeId)(x:Option AV):Option Eff:=
 bif oV P t&&hintA x then some {val:= .omap slot,upd:=[(slot,some (.vJ []))]}else none
def qF(P:Program)(m:Mem)(t:TypeId)(x k v:AV):Option Eff:=
 match x,k,v with
 | .omap b,.c (.v (.int .i64 n)),.c y=>
   match m b with
   | some (.vJ es)=>bif oV P t&&jo (.c y)then some {val:= .c (.v undef),upd:=[(b,some (.vJ (es++[(n,y)])))],conds:=[es.all λp=> !decide (p.1=n)],reads:=[b]}else none
   | _=>none
 | _,_,_=>none
def TU(P:Program)(slot:Nat)(t:TypeId)(x:AV):Option Eff:=
 match x with
 | .c (.mq es)=>bif oV P t then some {val:= .ptr slot 0,upd:=[(slot,some (.Lf es []))]}else none
 | _=>none
def ac2(m:Mem)(x:AV):Option (List Eff):=
 match x with
 | .ptr b 0=>
   match m b with
   | some (.Lf es seen)=>
     match (List.range es.length).filter λi=> !(seen.any λj=>Nat.beq i j)with
     | []=>some [{val:= .iC [bL false],reads:=[b]}]
     | i::l=>some ((i::l).map λi=>{val:= .iC [bL true,dn .i64 (es.getD i (0,.v undef)).1,.c (es.getD i (0,.v undef)).2],upd:=[(b,some (.Lf es (seen++[i])))],reads:=[b]})
   | _=>none
 | _=>none
def Em(m:Mem)(x:AV):Option Eff:=
 match x with
 | .ptr b 0=>
   match m b with
   | some (.Lf es seen)=>
     match seen.getLast? with
     | some i=>some {val:= .iC [dn .i64 (es.getD i (0,.v undef)).1,.c (es.getD i (0,.v undef)).2],reads:=[b]}
     | none=>none
   | _=>none
 | _=>none
def oF(P:Program)(slot:Nat)(m:Mem)(t:TypeId)(n:Nat)(xs:List (Nat×AV)):Option Eff:=
 bif xs.any λp=> !(rV p.2).isEmpty then
  (rz P slot t n (xs.map λp=>(p.1,(iJ m p.2).1))).map λr=>
   {r with conds:=(xs.map λp=>(iJ m p.2).2).flatten++r.conds,upd:=((xs.map λp=>rV p.2).flatten.map λb=>(b,none))++r.upd,reads:=(xs.map λp=>rV p.2).flatten}
 else rz P slot t n xs
def AY(P:Program)(Γ:FuncId→Option Spec)(slot:Nat)(o:Oper)(tm:List AV)(m:Mem):Option Eff:=
 let e:=cZ tm
 match o.op with
 | .move x | .assign x=>some {val:=e x}
 | .pick c a b=>
   match e c with
   | .c (.v (.bool t))=>
     match e a,e b with
     | .c (.v (.bool x)),.c (.v (.bool y))=>some {val:=bL (bif t then x else y)}
     | x,y=>some {val:=bif t then x else y}
   | _=>none
 | .alloc t=>
   match qz P t with
   | some z=>
     match P.underlying t with
     | some (.array n e)=>
       match jT P e,qz P e with
       | some (p+1),some ze=>bif Nat.ble z.cells.size 16&& !anK P e then IQ slot t (cellsOf z)else bif Nat.beq ze.cells.size (p+1)then IW slot t n (p+1) ze z else none
       | _,_=>none
     | _=>IQ slot t (cellsOf z)
   | none=>none
 | .box t x=>bif (jP (e x)).all jo then IQ slot t (jP (e x))else none
 | .build t ps=>TT P t (ps.toList.map λ(i,x)=>(i,e x))
 | .load t a=>FV P m t (e a)
 | .store t a x=>Ee P m t (e a) (e x)
 | .nilCheck x=>
   match e x with
   | .ptr b off=>some {val:= .ptr b off}
   | .kI b k j sz=>some {val:= .kI b k j sz}
   | .gq l=>some {val:= .gq l}
   | .c (.v (.func (.method name) first cap))=>
     match first.toList with
     | [.iface t u]=>bif (uN P t name).isSome then some {val:= .c (.v (.func (.method name) #[.iface t u] cap))}else none
     | _=>none
   | _=>none
 | .binOp op t x y _=>aom P op t (e x) (e y)
 | .unOp op _ x=>unA op (e x)
 | .convert s d x=>El P m s d (e x)
 | .makeSlice t x y=>Bv P slot t (e x) (e y)
 | .buildSlice t n ps=>oF P slot m t n (ps.toList.map λ(i,x)=>(i,e x))
 | .indexAddr t x i=>Bu P m t (e x) (e i)
 | .slice t x lo hi mx=>bif mx.isNone then Ej P m t (e x) (lo.map e) (hi.map e)else none
 | .makeFunc fn first cap=>
   match fn with
   | .func f=>bif first.isEmpty then some {val:= .fn f (cap.toList.map e)}else
    match first.toList.map e,cap.toList with
    | [.agg []],[]=>some {val:= .c (.v (.func (.func f) #[.agg #[]] #[]))}
    | _,_=>none
   | .method name=>
     match first.toList.map e,cap.toList with
     | [.c (.v (.iface t u))],[]=>some {val:= .c (.v (.func (.method name) #[.iface t u] #[]))}
     | _,_=>none
   | _=>none
 | .makeInterface t x=>
   match P.underlying t,e x with
   | some (.struct _),.agg []=>some {val:= .c (.v (.iface t (.agg #[])))}
   | _,_=>none
 | .fieldAddr t x f=>Br P t (e x) f
 | .field t x f=>ac0 P t (e x) f
 | .index t x i=>ac1 P t (e x) (e i)
 | .lookup t x i ok=>NV P t (e x) (e i) ok
 | .extract x i=>
   match e x with
   | .iC l=>(l[i]?).map λv=>{val:=v}
   | _=>none
 | .call c=>Qm P Γ slot tm m c
 | .makeMap t r=>I5 P slot t (r.map e)
 | .mapUpdate t x k v=>qF P m t (e x) (e k) (e v)
 | .range t x=>TU P slot t (e x)
 | .entry x=>Em m (e x)
 | _=>none
def rA(ops:List Oper)(j:Nat):Bool:=ops.any λo=>match o.guard with|some (k,_)=>Nat.beq k j|none=>false
def oW(ops:List Oper)(tm:List AV)(o:Oper):Option Bool:=
 match o.guard with
 | none=>some true
 | some (j,want)=>
   match (ops[j]?).bind (·.dst)with
   | some d=>
     match tm.getD d .any with
     | .c (.v (.bool b))=>some (b==want)
     | .c (.v (.tuple _))=>some false
     | _=>none
   | none=>none
structure Did where
 idx:Nat
 reads:List Nat
 writes:List Nat
def jc(P:Program)(Γ:FuncId→Option Spec)(all:List Oper)(base:Nat):List Oper→Nat→St→List Did→Tr (St×List Did)
 | [],_,S,ds=> .ret (S,ds)
 | o::rest,i,S,ds=>
   match oW all S.tm o with
   | none=> .fail "guard"
   | some false=>jc P Γ all base rest (i+1) (S.apply o.dst {val:= .c (.v undef)}) ({idx:=i,reads:=[],writes:=[]}::ds)
   | some true=>
     match AY P Γ (base+i) o S.tm S.mem with
     | none=> .fail o.pos
     | some r=>
       let d:Did:={idx:=i,reads:=r.reads,writes:=r.upd.map (·.1)}
       Tr.needs r.conds<|
        bif rA all i then
         match r.val with
         | .c (.v (.bool b))=>
           .ite b (jc P Γ all base rest (i+1) (S.apply o.dst {r with val:=bL true}) (d::ds))
            (jc P Γ all base rest (i+1) (S.apply o.dst {r with val:=bL false}) (d::ds))
         | _=> .fail "source"
        else jc P Γ all base rest (i+1) (S.apply o.dst r) (d::ds)
def disjoint(l m:List Nat):Bool:=l.all λx=> !(m.any λy=>Nat.beq x y)
def Co(ops:List Oper):Bool:=ops.zipIdx.all λp=>p.1.after.toList.all λe=> !Region.binds .any e || Nat.blt e.on p.2
def tF(ops:List Oper):Nat→Nat→Nat→Bool
 | 0,_,_=>false
 | n+1,i,j=>match ops[i]? with|some oi=>oi.after.toList.any (λe=>Region.binds .any e&&(Nat.beq e.on j || tF ops n e.on j))|none=>false
def I6(ops:List Oper)(a b:Did):Bool:=
 match ops[a.idx]?,ops[b.idx]? with
 | some oa,some ob=>
   (ob.after.toList.any (λe=>Region.binds .any e&&Nat.beq e.on a.idx) ||
    (Oper.apart ops.toArray oa ob&&disjoint a.writes b.reads&&disjoint a.writes b.writes&&disjoint a.reads b.writes)) || tF ops 6 b.idx a.idx
 | _,_=>false
def wz(ops:List Oper)(a:Did):List Did→Bool
 | []=>true
 | b::l=>I6 ops a b&&wz ops a l
def En(ops:List Oper):List Did→Bool
 | []=>true
 | a::l=>wz ops a l&&En ops l
def Cq(ob:Oper)(i:Nat):Bool:=ob.after.toList.any (λe=>Region.binds .any e&&Nat.beq e.on i)
def X8(arr:Array Oper)(i:Nat)(oa ob:Oper):Bool:=Cq ob i || Oper.apart arr oa ob
def X9(arr:Array Oper)(i:Nat)(oa:Oper):List Oper→Bool
 | []=>true
 | ob::l=>X8 arr i oa ob&&X9 arr i oa l
def I7(arr:Array Oper):Nat→List Oper→Bool
 | _,[]=>true
 | i,o::l=>X9 arr i o l&&I7 arr (i+1) l
def LZ:Nat→List Did→Bool
 | _,[]=>true
 | i,d::l=>Nat.beq d.idx i&&LZ (i+1) l
def aor(ops:List Oper)(a b:Did):Bool:=
 bif a.writes.isEmpty&&b.writes.isEmpty then true else
 ((match ops[b.idx]? with|some ob=>Cq ob a.idx|none=>false) || (disjoint a.writes b.reads&&disjoint a.writes b.writes&&disjoint a.reads b.writes)) || tF ops 6 b.idx a.idx
def ah7(ops:List Oper)(a:Did):List Did→Bool
 | []=>true
 | b::l=>aor ops a b&&ah7 ops a l
def ah8(ops:List Oper):List Did→Bool
 | []=>true
 | a::l=>ah7 ops a l&&ah8 ops l
def indep(ops:List Oper)(ds:List Did):Bool:=
 Region.noSelect ops.toArray&&Co ops&&I7 ops.toArray 0 ops&&(Nat.ble ds.length ops.length&&LZ 0 ds.reverse&&ah8 ops ds.reverse)
def blanks(S:St)(n:Nat):St:={S with nx:=S.nx+n}
def qG(P:Program)(Γ:FuncId→Option Spec)(ops:List Oper)(draw:Bool)(S:St):Tr St:=
 (jc P Γ ops S.nx ops 0 (blanks S ops.length) []).bind λ(S',ds)=>
  bif !draw || indep ops ds then .ret S' else .fail "order"
mutual
def Eo(c:Bool):AV→AV→Option AV
 | .c (.v (.bool a)),.c (.v (.bool b))=>some (.c (.v (.bool (bif c then a else b))))
 | .c (.v (.int k a)),.c (.v (.int k' b))=>if k=k' then some (.c (.v (.int k (bif c then a else b))))else none
 | .c (.v (.string a)),.c (.v (.string b))=>some (.c (.v (.string (bif c then a else b))))
 | .ptr b o,.ptr b' o'=>bif Nat.beq b b'&&Nat.beq o o' then some (.ptr b o)else none
 | .agg l,.agg m=>(wW c l m).map .agg
 | .iC l,.iC m=>(wW c l m).map .iC
 | _,_=>none
def wW(c:Bool):List AV→List AV→Option (List AV)
 | [],[]=>some []
 | x::l,y::m=>
   match Eo c x y,wW c l m with
   | some z,some n=>some (z::n)
   | _,_=>none
 | _,_=>none
end
def Ct(c:Bool)(x y:AV):AV:=(Eo c x y).getD .any
def yO(c:Bool):List AV→List AV→Option (List AV)
 | [],[]=>some []
 | x::l,y::m=>(yO c l m).map λn=>Ct c x y::n
 | _,_=>none
def flat(ops:List Oper)(draw:Bool)(Lg:List Tmp)(n0:Nat):Tr (St×List Did)→Option (Bool×List AV)
 | .ret (S,ds)=>bif ((ds.take (ds.length-n0)).all λd=>d.writes.isEmpty)&&(!draw || indep ops ds)then some (true,Lg.map λt=>S.tm.getD t .any)else none
 | .need p t=>
   match flat ops draw Lg n0 t with
   | some (q,l)=>some (p&&q,l)
   | none=>none
 | .both _ _=>none
 | .ite c a b=>
   match flat ops draw Lg n0 a,flat ops draw Lg n0 b with
   | some (p,l),some (q,m)=>
     match yO c l m with
     | some n=>some (bif c then p else q,n)
     | none=>none
   | _,_=>none
 | .fail _=>none
def Ep:List AV→List Tmp→List AV→List AV
 | tm,t::l,v::vs=>Ep (tm.set t v) l vs
 | tm,_,_=>tm
def rC(all:List Oper):List Oper→Nat→Nat
 | [],i=>i
 | _::l,i=>bif rA all i then i else rC all l (i+1)
def checked(ops:List Oper)(draw:Bool)(p:St×List Did):Tr St:=bif !draw || indep ops p.2 then .ret p.1 else .fail "order"
def yP(P:Program)(Γ:FuncId→Option Spec)(ops:List Oper)(draw:Bool)(S:St):Tr St:=
 let i0:=rC ops ops 0
 (jc P Γ ops S.nx (ops.take i0) 0 (blanks S ops.length) []).bind λp=>
  let T:=jc P Γ ops S.nx (ops.drop i0) i0 p.1 p.2
  let Lg:=(ops.drop i0).filterMap (·.dst)
  match flat ops draw Lg p.2.length T with
  | some (c,vs)=> .need c (.ret {p.1 with tm:=Ep p.1.tm Lg vs})
  | none=>T.bind (checked ops draw)
def NW(N:Nat):Nat:=bif Nat.ble 1000 N then N-1000 else N
def Cu(P:Program)(Γ:FuncId→Option Spec)(N:Nat)(ops:List Oper)(draw:Bool)(S:St):Tr St:=
 bif Nat.ble 1000 N&&ops.any (λo=>o.guard.isSome)then yP P Γ ops draw S else qG P Γ ops draw S
def ac3{α:Type}:List (Tr α)→Tr α
 | []=> .fail "none"
 | [t]=>t
 | t::l=> .both t (ac3 l)
def TV(o:Oper):Option Operand:=
 match o.op,o.guard with
 | .next x false,none=>some x
 | _,_=>none
def NY(P:Program)(Γ:FuncId→Option Spec)(N:Nat)(ops:List Oper)(draw:Bool)(S:St):Tr St:=
 match ops with
 | o::rest=>
   match TV o with
   | some x=>
     bif draw || rA ops 0 then .fail "next" else
     match ac2 S.mem (cZ S.tm x)with
     | some rs=>ac3 (rs.map λr=>(jc P Γ ops S.nx rest 1 ((blanks S ops.length).apply o.dst r) []).bind λp=> .ret p.1)
     | none=> .fail "next"
   | none=>Cu P Γ N ops draw S
 | []=>Cu P Γ N ops draw S
inductive Ex where
 | normal|exit (id:Nat)|ret
def Ya(f:St→Tr (Ex×St)):Nat→St→Tr (Ex×St)
 | 0,_=> .fail "rounds"
 | n+1,S=>(f S).bind λ(e,S)=>
   match e with
   | .normal=>Ya f n S
   | e=> .ret (e,S)
def exec(P:Program)(Γ:FuncId→Option Spec)(L:Nat→Option (St→Tr (Ex×St)))(N:Nat):Code→St→Tr (Ex×St)
 | .skip,S=> .ret (.normal,S)
 | .region _ ops draw,S=>(NY P Γ N ops.toList draw S).bind λS=> .ret (.normal,S)
 | .seq a b,S=>(exec P Γ L N a S).bind λ(e,S)=>
   match e with
   | .normal=>exec P Γ L N b S
   | e=> .ret (e,S)
 | .cond c a b,S=>
   match cZ S.tm c with
   | .c (.v (.bool t))=> .ite t (exec P Γ L N a S) (exec P Γ L N b S)
   | _=> .fail "cond"
 | .block id body,S=>
   match L id with
   | some g=>g S
   | none=>(exec P Γ L N body S).bind λ(e,S)=>
     match e with
     | .exit j=>bif Nat.beq j id then .ret (.normal,S)else .ret (.exit j,S)
     | e=> .ret (e,S)
 | .loop body,S=>Ya (λS=>exec P Γ L N body S) (NW N) S
 | .scope body,S=>exec P Γ L N body S
 | .exit id,S=> .ret (.exit id,S)
 | .ret,S=> .ret (.ret,S)
 | _,_=> .fail "code"
def oZ(P:Program)(S:St):ResultVar→Option AV
 | .tmp t=>some (S.tm.getD t .any)
 | .cell a t=>
   match FV P S.mem t (S.tm.getD a .any)with
   | some r=>
     match r.conds with
     | []=>some r.val
     | _=>none
   | none=>none
def o7(P:Program)(S:St)(rs:List ResultVar):Option AV:=
 match rs with
 | [r]=>oZ P S r
 | rs=>(rs.mapM (oZ P S)).map .iC
def start(args:List AV)(ntmps:Nat):St:={tm:=args++List.replicate (ntmps-args.length) (.c (.v undef)),mem:=λ_=>none,nx:=0}
def aI(P:Program)(Γ:FuncId→Option Spec)(L:Nat→Option (St→Tr (Ex×St)))(N:Nat)(fn:Func)(args:List AV):Tr AV:=
 match fn.body with
 | none=> .fail "body"
 | some c=>(exec P Γ L N c (start args fn.ntmps)).bind λ(e,S)=>
   match e with
   | .exit _=> .fail "exit"
   | _=>
     match o7 P S fn.results.toList with
     | some v=>Tr.needs (iJ S.mem v).2 (.ret (iJ S.mem v).1)
     | none=> .fail "results"
end Go.bI
namespace Go.bI
open Go.RowKit
theorem dec{p:Prop} [Decidable p](h:decide p=true):p:=j4 h
def kJ(w:World)(a:Addr):Value:=(w.cell? a).getD undef
theorem Cx{w:World}{a:Addr}{v:Value}(h:w.cell? a=some v):kJ w a=v:=by simp[kJ,h]
theorem vM{w:World}{a:Addr}(h:(w.cell? a).isSome=true):w.cell? a=some (kJ w a):=by
 cases hc:w.cell? a with
 | none=>rw[hc]at h;cases h
 | some v=>simp[kJ,hc]
def me0:MapEntry:={key:=undef,val:=undef,born:=0}
def mz:Int×IV:=(0,.v undef)
structure wX (es:List (Int×IV)) (entries:Array MapEntry) (clock:Nat):Prop where
 size:entries.size=es.length
 clock:clock=es.length
 key: ∀i,i<es.length→(entries.getD i me0).key= .int .i64 (es.getD i mz).1
 born: ∀i,i<es.length→(entries.getD i me0).born=i
 one: ∀i,i<es.length→(entries.getD i me0).val.oneCell'=true
inductive jG (A:Nat→Prop) (w:World):IV→Value→Prop
 | v (x:Value):jG A w (.v x) x
 | nil (sz:Nat) (el:Nat→List IV):jG A w (.sl 0 sz el) (.slice none 0 0)
 | zero (sz:Nat) (el:Nat→List IV) (a:Addr):jG A w (.sl 0 sz el) (.slice (some a) 0 0)
 | sl (n sz:Nat) (el:Nat→List IV) (b off cap:Nat) (hA: ¬A b) (hb:b<w.heap.size) (hn:n≤cap)
  (hl: ∀k,k<n→(el k).length=sz)
  (hs: ∀k j,k<n→j<sz→(w.cell? ⟨b,off+(k*sz+j),none⟩).isSome=true∧(kJ w ⟨b,off+(k*sz+j),none⟩).oneCell'=true)
  (h: ∀k j,k<n→j<sz→jG A w ((el k).getD j (.v undef)) (kJ w ⟨b,off+(k*sz+j),none⟩)):
  jG A w (.sl n sz el) (.slice (some ⟨b,off,none⟩) n cap)
 | mp (es:List (Int×Value)) (b clock:Nat) (entries:Array MapEntry) (hA: ¬A b) (hb:b<w.heap.size) (hh:w.heap[b]? =some (.map entries clock))
  (he:entries.toList.map (λe=>(e.key,e.val))=es.map λp=>(Value.int .i64 p.1,p.2)):jG A w (.mp es) (.map (some b))
 | mq (es:List (Int×IV)) (b clock:Nat) (entries:Array MapEntry) (hA: ¬A b) (hb:b<w.heap.size) (hh:w.heap[b]? =some (.map entries clock)) (hk:wX es entries clock)
  (hv: ∀i,i<es.length→jG A w (es.getD i mz).2 (entries.getD i me0).val):jG A w (.mq es) (.map (some b))
abbrev eB:=Nat→Option Nat
inductive aV (A:Nat→Prop) (B:eB) (w:World):AV→Value→Prop
 | c (x:IV) (v:Value):jG A w x v→aV A B w (.c x) v
 | agg (l:List AV) (cs:Array Value):cs.size=l.length→(∀j,j<l.length→aV A B w (l.getD j .any) (cs.getD j undef))→aV A B w (.agg l) (.agg cs)
 | iC (l:List AV) (cs:Array Value):cs.size=l.length→(∀j,j<l.length→aV A B w (l.getD j .any) (cs.getD j undef))→aV A B w (.iC l) (.tuple cs)
 | ptr (b off β:Nat):B b=some β→aV A B w (.ptr b off) (.pointer (some ⟨β,off,none⟩))
 | kI (b k j sz β:Nat):B b=some β→aV A B w (.kI b k j sz) (.pointer (some ⟨β,k*sz+j,none⟩))
 | iP (b n sz cap β:Nat):B b=some β→n≤cap→cap≤maxLen→(∃C t fz,w.heap[β]? =some (.cells C t fz)∧C.size=cap*sz)→
  aV A B w (.iP b n sz) (.slice (some ⟨β,0,none⟩) n cap)
 | IL (b k n sz cap β:Nat):B b=some β→n≤cap→0<n→(∃C t fz,w.heap[β]? =some (.cells C t fz)∧(k+n)*sz≤C.size)→
  aV A B w (.IL b k n sz) (.slice (some ⟨β,k*sz,none⟩) n cap)
 | uH (b sz:Nat):aV A B w (.iP b 0 sz) (.slice none 0 0)
 | gq (l:List IV) (b off:Nat): ¬A b→b<w.heap.size→
  (∀j,j<l.length→(w.cell? ⟨b,off+j,none⟩).isSome=true∧jG A w (l.getD j (.v undef)) (kJ w ⟨b,off+j,none⟩))→aV A B w (.gq l) (.pointer (some ⟨b,off,none⟩))
 | fn (f:FuncId) (l:List AV) (cs:Array Value):cs.size=l.length→(∀j,j<l.length→aV A B w (l.getD j .any) (cs.getD j undef))→
  aV A B w (.fn f l) (.func (.func f) #[] cs)
 | omap (b β:Nat):B b=some β→aV A B w (.omap b) (.map (some β))
 | any (v:Value):aV A B w .any v
structure Trans (A:Nat→Prop) (w w':World):Prop where
 size:w.heap.size≤w'.heap.size
 out: ∀b,b<w.heap.size→ ¬A b→w'.heap[b]? =w.heap[b]?
 own: ∀b,A b→ ∀C t fz,w.heap[b]? =some (.cells C t fz)→ ∃C' t' TM,w'.heap[b]? =some (.cells C' t' TM)∧C'.size=C.size
theorem Trans.refl(A:Nat→Prop)(w:World):Trans A w w:=⟨Nat.le_refl _,λ_ _ _=>rfl,λ_ _ C t fz h=>⟨C,t,fz,h,rfl⟩⟩
theorem lt_of_heap{w:World}{b:Nat}{o:Obj}(h:w.heap[b]? =some o):b<w.heap.size:=(Array.getElem?_eq_some_iff.1 h).1
theorem Trans.of_below{A:Nat→Prop}{w w':World}(h:Below w.heap.size w w'):Trans A w w':=
 ⟨h.size,λb hb _=>h.block b hb,λb _ C t fz hc=>⟨C,t,fz,by rw[h.block b (lt_of_heap hc)];exact hc,rfl⟩⟩
theorem jG.trans{A A':Nat→Prop}{w w':World}(ht:Trans A w w')(hA: ∀b,b<w.heap.size→A' b→A b){x:IV}{v:Value}
  (h:jG A w x v):jG A' w' x v:=by
 induction h with
 | v x=>exact .v x
 | nil sz el=>exact .nil sz el
 | zero sz el a=>exact .zero sz el a
 | sl n sz el b off cap hA0 hb hn hl hs h ih=>
   have he: ∀k j,w'.cell? ⟨b,off+(k*sz+j),none⟩=w.cell? ⟨b,off+(k*sz+j),none⟩:=λk j=>World.cell?_of_block (ht.out b hb hA0)
   refine .sl n sz el b off cap (λh'=>hA0 (hA b hb h')) (Nat.lt_of_lt_of_le hb ht.size) hn hl (λk j hk hj=> ?_) λk j hk hj=> ?_
   ·have:=hs k j hk hj
    unfold kJ at*;rw[he];exact this
   ·have:=ih k j hk hj
    unfold kJ at*;rw[he];exact this
 | mp es b clock entries hA0 hb hh he=>exact .mp es b clock entries (λh'=>hA0 (hA b hb h')) (Nat.lt_of_lt_of_le hb ht.size) (by rw[ht.out b hb hA0];exact hh) he
 | mq es b clock entries hA0 hb hh hk hv ih=>exact .mq es b clock entries (λh'=>hA0 (hA b hb h')) (Nat.lt_of_lt_of_le hb ht.size) (by rw[ht.out b hb hA0];exact hh) hk ih
theorem aV.trans{A A':Nat→Prop}{B B':eB}{w w':World}(ht:Trans A w w')(hA: ∀b,b<w.heap.size→A' b→A b)
  (hB: ∀s β,B s=some β→B' s=some β) {x:AV} {v:Value} (h:aV A B w x v):aV A' B' w' x v:=by
 induction h with
 | c x v h=>exact .c x v (h.trans ht hA)
 | agg l cs hs _ ih=>exact .agg l cs hs ih
 | iC l cs hs _ ih=>exact .iC l cs hs ih
 | ptr b off β h=>exact .ptr b off β (hB _ _ h)
 | kI b k j sz β h=>exact .kI b k j sz β (hB _ _ h)
 | iP b n sz cap β h hn hm hc=>
   obtain⟨C,t,fz,hc,hle⟩:=hc;refine .iP b n sz cap β (hB _ _ h) hn hm ?_;by_cases ha:A β
   ·obtain⟨C',t',TM,hc',hs⟩:=ht.own β ha C t fz hc
    exact⟨C',t',TM,hc',by omega⟩
   ·exact⟨C,t,fz,by rw[ht.out β (lt_of_heap hc) ha];exact hc,hle⟩
 | IL b k n sz cap β h hn h0 hc=>
   obtain⟨C,t,fz,hc,hle⟩:=hc;refine .IL b k n sz cap β (hB _ _ h) hn h0 ?_;by_cases ha:A β
   ·obtain⟨C',t',TM,hc',hs⟩:=ht.own β ha C t fz hc
    exact⟨C',t',TM,hc',by omega⟩
   ·exact⟨C,t,fz,by rw[ht.out β (lt_of_heap hc) ha];exact hc,hle⟩
 | uH b sz=>exact .uH b sz
 | gq l b off hn hb h=>
   refine .gq l b off (λh'=>hn (hA b hb h')) (Nat.lt_of_lt_of_le hb ht.size) λj hj=> ?_
   have he:w'.cell? ⟨b,off+j,none⟩=w.cell? ⟨b,off+j,none⟩:=World.cell?_of_block (ht.out b hb hn);obtain⟨hx,hr⟩:=h j hj;have hr':=hr.trans ht hA;unfold kJ at*;rw[he];exact⟨hx,hr'⟩
 | fn f l cs hs _ ih=>exact .fn f l cs hs ih
 | omap b β h=>exact .omap b β (hB _ _ h)
 | any v=>exact .any v
theorem uO{l:List AV}(h:vK l=true): ∀j,j<l.length→fu (l.getD j .any)=true:=by
 induction l with
 | nil=>intro j hj;simp at hj
 | cons x l ih=>
   intro j hj;simp only[vK,cu]at h;cases j with
   | zero=>simpa using h.1
   | succ j=>simpa using ih h.2 j (by simpa using hj)
theorem aV.fu{A:Nat→Prop}{B:eB}{w:World}{x:AV}{v:Value}(h:aV A B w x v)(hn:bI.fu x=true)(B':eB):aV A B' w x v:=by
 induction h with
 | c x v h=>exact .c x v h
 | agg l cs hs _ ih=>exact .agg l cs hs λj hj=>ih j hj (uO (by simpa[bI.fu]using hn) j hj)
 | iC l cs hs _ ih=>exact .iC l cs hs λj hj=>ih j hj (uO (by simpa[bI.fu]using hn) j hj)
 | ptr b off β h=>simp[bI.fu]at hn
 | kI b k j sz β h=>simp[bI.fu]at hn
 | iP b n sz cap β h _ _ _=>simp[bI.fu]at hn
 | IL b k n sz cap β h _ _ _=>simp[bI.fu]at hn
 | uH b sz=>exact .uH b sz
 | gq l b off hA hb h=>exact .gq l b off hA hb h
 | fn f l cs hs _ ih=>exact .fn f l cs hs λj hj=>ih j hj (uO (by simpa[bI.fu]using hn) j hj)
 | omap b β h=>simp[bI.fu]at hn
 | any v=>exact .any v
theorem aV.oneCell{A:Nat→Prop}{B:eB}{w:World}{x:AV}{v:Value}(h:aV A B w x v)(hc:jo x=true):v.oneCell'=true:=by
 cases h with
 | c x v h=>
   cases h with
   | v x=>simpa[jo]using hc
   | nil=>rfl
   | zero=>rfl
   | sl=>rfl
   | mp=>rfl
   | mq=>rfl
 | agg l cs=>simp[jo]at hc
 | iC l cs=>simp[jo]at hc
 | any v=>simp[jo]at hc
 | _=>rfl
inductive iK (A:Nat→Prop) (B:eB) (w:World):jk→Option Obj→Prop
 | cells (l:List AV) (t:TypeId) (cs:Array Value):cs.size=l.length→(∀j,j<l.length→aV A B w (l.getD j .any) (cs.getD j undef))→
  iK A B w (.cells l t) (some (.cells cs t (0,0)))
 | arr (n sz:Nat) (el:Nat→List IV) (t:TypeId) (cs:Array Value):n*sz≤cs.size→(∀k,k<n→(el k).length=sz)→
  (∀k j,k<n→j<sz→(cs.getD (k*sz+j) undef).oneCell'=true∧jG A w ((el k).getD j (.v undef)) (cs.getD (k*sz+j) undef))→iK A B w (.arr n sz el t) (some (.cells cs t (0,0)))
 | vJ (es:List (Int×IV)) (entries:Array MapEntry) (clock:Nat):wX es entries clock→(∀i,i<es.length→jG A w (es.getD i mz).2 (entries.getD i me0).val)→iK A B w (.vJ es) (some (.map entries clock))
 | Lf (es:List (Int×IV)) (seen:List Nat) (b:Nat):jG A w (.mq es) (.map (some b))→(∀i∈seen,i<es.length)→iK A B w (.Lf es seen) (some (.mapIter (some b) es.length seen.toArray es.length))
theorem iK.trans{A A':Nat→Prop}{B B':eB}{w w':World}(ht:Trans A w w')(hA: ∀b,b<w.heap.size→A' b→A b)
  (hB: ∀s β,B s=some β→B' s=some β) {e:jk} {o:Option Obj} (h:iK A B w e o):iK A' B' w' e o:=by
 cases h with
 | cells l t cs hs h=>exact .cells l t cs hs λj hj=>(h j hj).trans ht hA hB
 | arr n sz el t cs hs hl h=>exact .arr n sz el t cs hs hl λk j hk hj=>⟨(h k j hk hj).1,(h k j hk hj).2.trans ht hA⟩
 | vJ es entries clock hk hv=>exact .vJ es entries clock hk λi hi=>(hv i hi).trans ht hA
 | Lf es seen b h hs=>exact .Lf es seen b (h.trans ht hA) hs
theorem iK.isCells{A:Nat→Prop}{B:eB}{w:World}{n sz:Nat}{el:Nat→List IV}{t:TypeId}{o:Option Obj}(h:iK A B w (.arr n sz el t) o): ∃cs t,o=some (.cells cs t (0,0)):=by
 cases h with
 | arr n sz el t cs _ _ _=>exact⟨cs,t,rfl⟩
structure Ctx where
 A0:Nat→Prop
 X:Nat→Prop
 w0:World
 k:Nat
 B0:eB
structure Ctx.Ok (C:Ctx):Prop where
 a0: ∀b,C.A0 b→b<C.w0.heap.size
 x: ∀b,C.X b→b<C.w0.heap.size
 Lh: ∀b,C.A0 b→ ¬C.X b
structure Kept (X:Nat→Prop) (a w:World):Prop where
 os:w.os=a.os
 tape:w.tape=a.tape
 output:w.output=a.output
 size:a.heap.size≤w.heap.size
 block: ∀k,k<a.heap.size→ ¬X k→w.heap[k]? =a.heap[k]?
 rows: ∀(k:Nat) (D:Array Value) (t:TypeId) (fz:Nat×Nat),a.heap[k]? =some (.cells D t fz)→ ∃D' t' TM,w.heap[k]? =some (.cells D' t' TM)∧D'.size=D.size
theorem Kept.refl(X:Nat→Prop)(w:World):Kept X w w:=⟨rfl,rfl,rfl,Nat.le_refl _,λ_ _ _=>rfl,λ_ D t fz h=>⟨D,t,fz,h,rfl⟩⟩
theorem Kept.trans{X Y:Nat→Prop}{a b c:World}(h:Kept X a b)(k:Kept Y b c)(hY: ∀i,i<a.heap.size→Y i→X i):Kept X a c:=
 ⟨k.os.trans h.os,k.tape.trans h.tape,k.output.trans h.output,Nat.le_trans h.size k.size,λi hi hx=>(k.block i (Nat.lt_of_lt_of_le hi h.size) (λhy=>hx (hY i hi hy))).trans (h.block i hi hx),
  λi D t fz hD=>by
   obtain⟨D',t',TM,h1,h2⟩:=h.rows i D t fz hD;obtain⟨D2,t2,fz2,h3,h4⟩:=k.rows i D' t' TM h1;exact⟨D2,t2,fz2,h3,h4.trans h2⟩⟩
theorem Kept.of_below{w w':World}(h:Below w.heap.size w w')(X:Nat→Prop):Kept X w w':=
 ⟨h.os,h.tape,h.output,h.size,λk hk _=>h.block k hk,λk D t fz hD=>⟨D,t,fz,by rw[h.block k (lt_of_heap hD)];exact hD,rfl⟩⟩
theorem Kept.below{w w':World}(h:Kept (λ_=>False) w w'):Below w.heap.size w w':=⟨h.os,h.tape,h.output,h.size,λk hk=>h.block k hk (λh=>h)⟩
def aT(A0:Nat→Prop)(B:eB)(m:Mem)(b:Nat):Prop:=A0 b∨ ∃s e,m s=some e∧B s=some b
def jk.none0:jk→Prop
 | .arr n _ _ _=>n=0
 | _=>False
structure Holds (C:Ctx) (B:eB) (S:St) (a:Act) (w:World):Prop where
 defers:a.defers=[]
 size:a.tmps.size=S.tm.length
 tm: ∀t,t<S.tm.length→aV (aT C.A0 B S.mem) B w (S.tm.getD t .any) (a.tmps.getD t undef)
 mem: ∀s e,S.mem s=some e→(∃β,B s=some β∧iK (aT C.A0 B S.mem) B w e w.heap[β]?)∨(B s=none∧e.none0)
 inj: ∀s s' e e' β,S.mem s=some e→S.mem s'=some e'→B s=some β→B s'=some β→s=s'
 kept:Kept C.X C.w0 w
 old: ∀s β,B s=some β→(C.w0.heap.size≤β∨C.X β)∧β<w.heap.size
 fresh: ∀s,S.nx≤s→B s=none
 base: ∀s,s<C.k→B s=C.B0 s
 uF:C.k≤S.nx
def Between(C:Ctx)(S:St)(s:Nat):Prop:=C.k≤s∧s<S.nx
end Go.bI
namespace Go.bI
open Go.RowKit
def eF(A:Nat→Prop)(B:eB)(w:World)(l:List AV)(cs:List Value):Prop:=
 cs.length=l.length∧ ∀j,j<l.length→aV A B w (l.getD j .any) (cs.getD j undef)
section
variable{A:Nat→Prop}{B:eB}{w:World}
theorem eF.nil:eF A B w [] []:=⟨rfl,λj hj=>by simp at hj⟩
theorem eF.cons{x:AV}{v:Value}{l:List AV}{cs:List Value}(h:aV A B w x v)(hl:eF A B w l cs):eF A B w (x::l) (v::cs):=
 ⟨by simp[hl.1],λj hj=>by
  cases j with
  | zero=>simpa using h
  | succ j=>simpa using hl.2 j (by simpa using hj)⟩
theorem eF.head{x:AV}{l:List AV}{cs:List Value}(h:eF A B w (x::l) cs): ∃v cs',cs=v::cs'∧aV A B w x v∧eF A B w l cs':=by
 obtain⟨hl,h⟩:=h;cases cs with
 | nil=>simp at hl
 | cons v cs'=>
   refine⟨v,cs',rfl,by simpa using h 0 (by simp),by simpa using hl,λj hj=>by simpa using h (j+1) (by simpa using hj)⟩
theorem eF.o8{cs:List Value}(h:eF A B w [] cs):cs=[]:=List.eq_nil_of_length_eq_zero (by simpa using h.1)
theorem eF.append{l m:List AV}{cs ds:List Value}(h:eF A B w l cs)(k:eF A B w m ds):eF A B w (l++m) (cs++ds):=by
 refine⟨by simp[h.1,k.1],λj hj=> ?_⟩;by_cases hlt:j<l.length
 ·have:=h.2 j hlt
  simpa[dR,List.getElem?_append_left hlt,List.getElem?_append_left (show j<cs.length by rw[h.1];exact hlt)]using this
 ·have:=k.2 (j-l.length) (by simp at hj;omega)
  simpa[dR,List.getElem?_append_right (Nat.le_of_not_lt hlt),List.getElem?_append_right (show cs.length≤j by rw[h.1];omega),h.1]using this
theorem eF.take{l:List AV}{cs:List Value}(h:eF A B w l cs)(n:Nat):eF A B w (l.take n) (cs.take n):=by
 refine⟨by simp[h.1],λj hj=> ?_⟩;have hj':j<n∧j<l.length:=by simp at hj;omega
 have:=h.2 j hj'.2;simpa[dR,List.getElem?_take,hj'.1]using this
theorem eF.drop{l:List AV}{cs:List Value}(h:eF A B w l cs)(n:Nat):eF A B w (l.drop n) (cs.drop n):=by
 refine⟨by simp[h.1],λj hj=> ?_⟩;have:=h.2 (n+j) (by simp at hj;omega);simpa[dR,List.getElem?_drop]using this
theorem eF.get{l:List AV}{cs:List Value}(h:eF A B w l cs){i:Nat}{x:AV}(hx:l[i]? =some x): ∃v,cs[i]? =some v∧aV A B w x v:=by
 have hlt:i<l.length:=(List.getElem?_eq_some_iff.1 hx).1;have:=h.2 i hlt;refine⟨cs[i]'(by rw[h.1];exact hlt),List.getElem?_eq_getElem _,?_⟩;simpa[dR,hx,List.getElem?_eq_getElem (show i<cs.length by rw[h.1];exact hlt)]using this
theorem eF.get'{l:List AV}{cs:List Value}(h:eF A B w l cs){i:Nat}{v:Value}(hv:cs[i]? =some v): ∃x,l[i]? =some x∧aV A B w x v:=by
 have hlt:i<cs.length:=(List.getElem?_eq_some_iff.1 hv).1;have hlt':i<l.length:=by rw[←h.1];exact hlt
 refine⟨l[i],List.getElem?_eq_getElem _,?_⟩;have:=h.2 i hlt';simpa[dR,hv,List.getElem?_eq_getElem hlt']using this
theorem aV.Yb{l:List AV}{cs:Array Value}:aV A B w (.agg l) (.agg cs)↔eF A B w l cs.toList:=by
 constructor
 ·intro h
  cases h with
  | agg _ _ hs h=>exact⟨by simpa using hs,λj hj=>by simpa[oQ,dR]using h j hj⟩
 ·intro h
  exact .agg l cs (by simpa using h.1) λj hj=>by simpa[oQ,dR]using h.2 j hj
theorem aV.kZ{l:List AV}{v:Value}(h:aV A B w (.agg l) v): ∃cs:List Value,v= .agg cs.toArray∧eF A B w l cs:=by
 cases h with
 | agg _ cs hs h=>exact⟨cs.toList,by simp,(aV.Yb.1 (.agg l cs hs h))⟩
theorem aV.tH{l:List AV}{cs:List Value}(h:eF A B w l cs):aV A B w (.agg l) (.agg cs.toArray):=aV.Yb.2 (by simpa using h)
theorem aV.Cy{l:List AV}{v:Value}(h:aV A B w (.iC l) v): ∃cs:List Value,v= .tuple cs.toArray∧eF A B w l cs:=by
 cases h with
 | iC _ cs hs h=>exact⟨cs.toList,by simp,⟨by simpa using hs,λj hj=>by simpa[oQ,dR]using h j hj⟩⟩
theorem aV.vN{l:List AV}{cs:List Value}(h:eF A B w l cs):aV A B w (.iC l) (.tuple cs.toArray):=
 .iC l cs.toArray (by simpa using h.1) λj hj=>by simpa[oQ,dR]using h.2 j hj
theorem aV.I8{f:FuncId}{l:List AV}{v:Value}(h:aV A B w (.fn f l) v): ∃cs:List Value,v= .func (.func f) #[] cs.toArray∧eF A B w l cs:=by
 cases h with
 | fn _ _ cs hs h=>exact⟨cs.toList,by simp,⟨by simpa using hs,λj hj=>by simpa[oQ,dR]using h j hj⟩⟩
theorem aV.anL{f:FuncId}{l:List AV}{cs:List Value}(h:eF A B w l cs):aV A B w (.fn f l) (.func (.func f) #[] cs.toArray):=
 .fn f l cs.toArray (by simpa using h.1) λj hj=>by simpa[oQ,dR]using h.2 j hj
theorem aV.mQ{b off:Nat}{v:Value}(h:aV A B w (.ptr b off) v): ∃β,B b=some β∧v= .pointer (some ⟨β,off,none⟩):=by
 cases h with
 | ptr _ _ β hβ=>exact⟨β,hβ,rfl⟩
theorem aV.plain{x v:Value}(h:aV A B w (.c (.v x)) v):v=x:=by
 cases h with
 | c _ _ h=>cases h;rfl
theorem aV.lit(x:Value):aV A B w (.c (.v x)) x:= .c _ _ (.v x)
theorem zN{x:AV}{v:Value}(h:aV A B w x v)(hx:(jP x).all jo=true∨ ∃l,x= .agg l):eF A B w (jP x) v.cells.toList:=by
 cases x with
 | agg l=>
   obtain⟨cs,rfl,hr⟩:=h.kZ;simpa[jP,Value.cells]using hr
 | iC l=>rcases hx with hx|⟨_,hx⟩<;>simp[jP,jo]at hx
 | any=>rcases hx with hx|⟨_,hx⟩<;>simp[jP,jo]at hx
 | c i=>
   have h1:v.oneCell'=true:=by
    rcases hx with hx|⟨_,hx⟩
    ·exact h.oneCell (by simpa[jP]using hx)
    ·cases hx
   have:v.cells= #[v]:=by cases v<;>first|rfl|(simp[Value.oneCell']at h1)
   rw[this];exact .cons h .nil
 | _=>
   have h1:v.oneCell'=true:=h.oneCell rfl;have:v.cells= #[v]:=by cases v<;>first|rfl|(simp[Value.oneCell']at h1)
   rw[this];exact .cons h .nil
theorem sw{l:List AV}{cs:List Value}(h:eF A B w l cs)(hl:l.all jo=true): ∀v∈cs,v.oneCell'=true:=by
 intro v hv;obtain⟨i,hi⟩:=List.getElem?_of_mem hv;obtain⟨x,hx,hr⟩:=h.get' hi;exact hr.oneCell (List.all_eq_true.1 hl x (List.mem_of_getElem? hx))
theorem I9(v:Value):aV A B w (Ec v) v:=by
 exact .lit v
theorem mR(l:List Value):eF A B w (l.map Ec) l:=
 ⟨by simp,λj hj=>by
  have hj':j<l.length:=by simpa using hj
  simpa[dR,hj']using I9 l[j]⟩
theorem uP(v:Value):aV A B w (ofValue v) v:=by
 unfold ofValue
 split
 ·rename_i cs
  have:=aV.tH (mR (A:=A) (B:=B) (w:=w) cs.toList);simpa using this
 ·exact I9 v
end
theorem bP{C:Ctx}{B:eB}{S:St}{a:Act}{w:World}(H:Holds C B S a w)(x:Operand):
  aV (aT C.A0 B S.mem) B w (cZ S.tm x) (a.eval x):=by
 cases x with
 | tmp t=>
   simp only[cZ,Act.eval];by_cases ht:t<S.tm.length
   ·exact H.tm t ht
   ·simp only[dR,List.getElem?_eq_none (Nat.le_of_not_lt ht),Option.getD_none]
    exact .any _
 | const v=>exact uP v
 | global g=>exact .lit _
 | func f=>exact .lit _
theorem L8{C:Ctx}{B:eB}{S:St}{a:Act}{w:World}(H:Holds C B S a w)(l:List Operand):
  eF (aT C.A0 B S.mem) B w (l.map (cZ S.tm)) (l.map a.eval):=by
 induction l with
 | nil=>exact .nil
 | cons x l ih=>exact .cons (bP H x) ih
theorem Holds.put{C:Ctx}{B:eB}{S:St}{a:Act}{w:World}(H:Holds C B S a w){x:AV}{v:Value}(d:Option Tmp)
  (h:aV (aT C.A0 B S.mem) B w x v):Holds C B {S with tm:=mD S.tm d x} (a.put d v) w:=by
 cases d with
 | none=>exact{H with}
 | some d=>
   refine{defers:=H.defers,size:=?_,tm:=?_,mem:=H.mem,inj:=H.inj,kept:=H.kept,old:=H.old,fresh:=H.fresh,base:=H.base,uF:=H.uF}
   ·simpa[mD,Act.put]using H.size
   ·intro t ht
    have ht':t<S.tm.length:=by simpa[mD]using ht
    by_cases hd:d=t
    ·subst hd
     simpa[mD,Act.put,dR,oQ,ht',H.size]using h
    ·have:=H.tm t ht'
     simpa[mD,Act.put,dR,oQ,List.getElem?_set_ne hd,Array.getElem?_setIfInBounds_ne hd]using this
theorem TW{C:Ctx}(hC:C.Ok){B:eB}{S:St}{a:Act}{w:World}(H:Holds C B S a w): ∀b,aT C.A0 B S.mem b→b<w.heap.size:=by
 intro b hb;rcases hb with hb|⟨s,e,_,h⟩
 ·exact Nat.lt_of_lt_of_le (hC.a0 b hb) H.kept.size
 ·exact(H.old s b h).2
theorem Holds.move{C:Ctx}{B:eB}{S:St}{a:Act}{w w':World}(H:Holds C B S a w)(hb:Below w.heap.size w w'):
  Holds C B S a w':=by
 have ht:Trans (aT C.A0 B S.mem) w w':= .of_below hb;refine{defers:=H.defers,size:=H.size,tm:=λt h=>(H.tm t h).trans ht (λ_ _ h=>h) (λ_ _ h=>h),mem:=?_,inj:=H.inj,kept:=H.kept.trans (Kept.of_below hb (λ_=>False)) (λ_ _ h=>h.elim),old:=?_,fresh:=H.fresh,base:=H.base,uF:=H.uF}
 ·intro s e he
  rcases H.mem s e he with⟨β,h1,h3⟩|h
  ·refine .inl ⟨β,h1,?_⟩
   rw[hb.block β (H.old s β h1).2];exact h3.trans ht (λ_ _ h=>h) (λ_ _ h=>h)
  ·exact .inr h
 ·intro s β h
  exact⟨(H.old s β h).1,Nat.lt_of_lt_of_le (H.old s β h).2 hb.size⟩
def ji(B:eB)(s β:Nat):eB:=λj=>if j=s then some β else B j
theorem bR(m:Mem)(s:Nat)(e:Option jk)(j:Nat):(m.set s e) j=if j=s then e else m j:=by
 unfold Mem.set;by_cases h:j=s
 ·subst h;simp
 ·have:Nat.beq j s=false:=by
   cases hb:Nat.beq j s
   ·rfl
   ·exact absurd (Nat.eq_of_beq_eq_true hb) h
  simp[this,h]
theorem Holds.alloc{C:Ctx}{B:eB}{S:St}{a:Act}{w:World}(H:Holds C B S a w)(hC:C.Ok){s:Nat}(hs:B s=none)(hnx:Between C S s)
  {e:jk} {ob:Obj} (he:iK (aT C.A0 B S.mem) B w e (some ob)):
  Holds C (ji B s w.heap.size) {S with mem:=S.mem.set s (some e)} a (w.alloc ob):=by
 have hbel:Below w.heap.size w (w.alloc ob):=(Below.refl _ _).alloc (Nat.le_refl _) _;have ht:Trans (aT C.A0 B S.mem) w (w.alloc ob):= .of_below hbel;have hB: ∀j β,B j=some β→ji B s w.heap.size j=some β:=by
  intro j β hj;unfold ji
  split
  ·rename_i h;subst h;rw[hs]at hj;cases hj
  ·exact hj
 have hA: ∀b,b<w.heap.size→aT C.A0 (ji B s w.heap.size) (S.mem.set s (some e)) b→aT C.A0 B S.mem b:=by
  intro b hb h;rcases h with h|⟨j,e',h1,h2⟩
  ·exact .inl h
  ·rw[bR]at h1
   unfold ji at h2;by_cases hj:j=s
   ·subst hj;simp at h2;omega
   ·simp only[hj,if_false]at h1 h2;exact .inr ⟨j,e',h1,h2⟩
 have h0:C.w0.heap.size≤w.heap.size:=H.kept.size;refine{defers:=H.defers,size:=H.size,tm:=λt h=>(H.tm t h).trans ht hA hB,mem:=?_,inj:=?_,kept:=H.kept.trans (Kept.of_below hbel (λ_=>False)) (λ_ _ h=>h.elim),old:=?_,fresh:=?_,base:=?_,uF:=H.uF}
 ·intro j e' hj
  simp only[bR]at hj;by_cases hjs:j=s
  ·subst hjs
   simp only[if_true,fK]at hj;subst hj;refine .inl ⟨w.heap.size,by simp[ji],?_⟩;rw[show(w.alloc ob).heap[w.heap.size]? =some ob by show(w.heap.push _)[w.heap.size]? =_;simp];exact he.trans ht hA hB
  ·simp only[hjs,if_false]at hj
   rcases H.mem j e' hj with⟨β,h1,h3⟩|⟨h1,h2⟩
   ·refine .inl ⟨β,hB _ _ h1,?_⟩
    rw[hbel.block β (H.old j β h1).2];exact h3.trans ht hA hB
   ·exact .inr ⟨by simp[ji,hjs,h1],h2⟩
 ·intro j j' e1 e2 β m1 m2 h1 h2
  simp only[bR]at m1 m2;unfold ji at h1 h2;by_cases hj:j=s<;>by_cases hj':j'=s
  ·rw[hj,hj']
  ·simp only[hj,hj',if_true,if_false,fK]at h1 h2
   subst h1;exact absurd (H.old j' _ h2).2 (Nat.lt_irrefl _)
  ·simp only[hj,hj',if_true,if_false,fK]at h1 h2
   subst h2;exact absurd (H.old j _ h1).2 (Nat.lt_irrefl _)
  ·simp only[hj,hj',if_false]at h1 h2 m1 m2;exact H.inj j j' e1 e2 β m1 m2 h1 h2
 ·intro j β h
  unfold ji at h;by_cases hj:j=s
  ·simp only[hj,if_true,fK]at h;subst h;exact⟨.inl h0,by rw[World.size_alloc];omega⟩
  ·simp only[hj,if_false]at h;exact⟨(H.old j β h).1,Nat.lt_of_lt_of_le (H.old j β h).2 hbel.size⟩
 ·intro j hj
  have:j≠s:=by rintro rfl;exact absurd hj (Nat.not_le.2 hnx.2)
  unfold ji;simp only[this,if_false];exact H.fresh j hj
 ·intro j hj
  have:j≠s:=by rintro rfl;exact absurd hj (Nat.not_lt.2 hnx.1)
  unfold ji;simp only[this,if_false];exact H.base j hj
theorem Holds.drop{C:Ctx}{B:eB}{S:St}{a:Act}{w:World}(H:Holds C B S a w)(s:Nat):Holds C B {S with mem:=S.mem.set s none} a w:=by
 have hA: ∀b,b<w.heap.size→aT C.A0 B (S.mem.set s none) b→aT C.A0 B S.mem b:=by
  intro b _ h;rcases h with h|⟨j,e2,h1,h2⟩
  ·exact .inl h
  ·rw[bR]at h1
   by_cases hj:j=s
   ·simp[hj]at h1
   ·simp only[hj,if_false]at h1;exact .inr ⟨j,e2,h1,h2⟩
 refine{defers:=H.defers,size:=H.size,tm:=λt h=>(H.tm t h).trans (Trans.refl _ _) hA (λ_ _ h=>h),mem:=?_,inj:=?_,kept:=H.kept,old:=H.old,fresh:=H.fresh,base:=H.base,uF:=H.uF}
 rotate_left
 ·intro j j' e1 e2 β m1 m2 h1 h2
  simp only[bR]at m1 m2;by_cases hj:j=s
  ·simp[hj]at m1
  ·by_cases hj':j'=s
   ·simp[hj']at m2
   ·simp only[hj,hj',if_false]at m1 m2;exact H.inj j j' e1 e2 β m1 m2 h1 h2
 intro j e hj;simp only[bR]at hj;by_cases hjs:j=s
 ·simp[hjs]at hj
 ·simp only[hjs,if_false]at hj
  rcases H.mem j e hj with⟨β,h1,h3⟩|h
  ·exact .inl ⟨β,h1,h3.trans (Trans.refl _ _) hA (λ_ _ h=>h)⟩
  ·exact .inr h
theorem Holds.turn{C:Ctx}{B:eB}{S:St}{a:Act}{w w':World}(H:Holds C B S a w){s β:Nat}{e e':jk}(hm:S.mem s=some e)(hβ:B s=some β)
  (hk:Kept (λb=>b=β) w w') {cs cs':Array Value} {t t':TypeId} {fz TM:Nat×Nat} (hc:w.heap[β]? =some (.cells cs t fz)) (hc':w'.heap[β]? =some (.cells cs' t' TM)) (hsz:cs'.size=cs.size)
  (he:iK (aT C.A0 B S.mem) B w' e' w'.heap[β]?):Holds C B {S with mem:=S.mem.set s (some e')} a w':=by
 have hown:aT C.A0 B S.mem β:= .inr ⟨s,e,hm,hβ⟩;have hlt:β<w.heap.size:=lt_of_heap hc;have ht:Trans (aT C.A0 B S.mem) w w':=by
  refine⟨hk.size,λb hb hn=>hk.block b hb (by rintro rfl;exact hn hown),λb _ D t2 fz2 hD=> ?_⟩;by_cases hbb:b=β
  ·subst hbb
   rw[hc]at hD;simp only[fK,Obj.cells.injEq]at hD;obtain⟨rfl,rfl,rfl⟩:=hD;exact⟨cs',t',TM,hc',hsz⟩
  ·exact⟨D,t2,fz2,by rw[hk.block b (lt_of_heap hD) hbb];exact hD,rfl⟩
 have hA: ∀b,b<w.heap.size→aT C.A0 B (S.mem.set s (some e')) b→aT C.A0 B S.mem b:=by
  intro b _ h;rcases h with h|⟨j,e2,h1,h2⟩
  ·exact .inl h
  ·rw[bR]at h1
   by_cases hj:j=s
   ·subst hj;exact .inr ⟨j,e,hm,h2⟩
   ·simp only[hj,if_false]at h1;exact .inr ⟨j,e2,h1,h2⟩
 have hA': ∀b,b<w'.heap.size→aT C.A0 B (S.mem.set s (some e')) b→aT C.A0 B S.mem b:=by
  intro b _ h;rcases h with h|⟨j,e2,h1,h2⟩
  ·exact .inl h
  ·rw[bR]at h1
   by_cases hj:j=s
   ·subst hj;exact .inr ⟨j,e,hm,h2⟩
   ·simp only[hj,if_false]at h1;exact .inr ⟨j,e2,h1,h2⟩
 refine{defers:=H.defers,size:=H.size,tm:=λt h=>(H.tm t h).trans ht hA (λ_ _ h=>h),mem:=?_,inj:=?_,kept:=?_,old:=λj γ h=>⟨(H.old j γ h).1,Nat.lt_of_lt_of_le (H.old j γ h).2 hk.size⟩,fresh:=H.fresh,base:=H.base,uF:=H.uF}
 ·intro j e2 hj
  simp only[bR]at hj;by_cases hjs:j=s
  ·subst hjs
   simp only[if_true,fK]at hj;subst hj;exact .inl ⟨β,hβ,he.trans (Trans.refl _ _) hA' (λ_ _ h=>h)⟩
  ·simp only[hjs,if_false]at hj
   rcases H.mem j e2 hj with⟨γ,h1,h3⟩|h
   ·refine .inl ⟨γ,h1,?_⟩
    rw[hk.block γ (H.old j γ h1).2 (by rintro rfl;exact hjs (H.inj j s _ _ γ hj hm h1 hβ))];exact h3.trans ht hA (λ_ _ h=>h)
   ·exact .inr h
 ·have live: ∀j e2,(S.mem.set s (some e')) j=some e2→ ∃e3,S.mem j=some e3:=by
   intro j e2 hj;rw[bR]at hj;by_cases hjs:j=s
   ·subst hjs;exact⟨e,hm⟩
   ·simp only[hjs,if_false]at hj;exact⟨e2,hj⟩
  intro j j' e1 e2 γ m1 m2 h1 h2;obtain⟨e3,m1⟩:=live j e1 m1;obtain⟨e4,m2⟩:=live j' e2 m2;exact H.inj j j' e3 e4 γ m1 m2 h1 h2
 ·refine H.kept.trans hk λi hi hib=> ?_
  subst hib;rcases(H.old s i hβ).1 with h|h
  ·exact absurd hi (Nat.not_lt.2 h)
  ·exact h
theorem Qn(w:World)(β:Nat)(cs:Array Value){cur:Array Value}{t:TypeId}{fz:Nat×Nat}(hc:w.heap[β]? =some (.cells cur t fz))(hsz:cs.size=cur.size):Kept (λb=>b=β) w (w.setRow β cs):=
 ⟨rfl,rfl,rfl,by simp,λk _ hk=>setRow_other w β k cs hk,λk D t' TM hD=>by
  by_cases hk:k=β
  ·subst hk
   rw[hc]at hD;simp only[fK,Obj.cells.injEq]at hD;obtain⟨rfl,rfl,rfl⟩:=hD;exact⟨cs,t,fz,setRow_heap w k cur cs t fz hc,hsz⟩
  ·exact⟨D,t',TM,by rw[setRow_other w β k cs hk];exact hD,rfl⟩⟩
theorem Holds.setRow{C:Ctx}{B:eB}{S:St}{a:Act}{w:World}(H:Holds C B S a w){s β:Nat}{e e':jk}(hm:S.mem s=some e)(hβ:B s=some β)
  {cs cs':Array Value} {t:TypeId} (hc:w.heap[β]? =some (.cells cs t (0,0))) (hsz:cs'.size=cs.size)
  (he:iK (aT C.A0 B S.mem) B w e' (some (.cells cs' t (0,0)))):Holds C B {S with mem:=S.mem.set s (some e')} a (w.setRow β cs'):=by
 have hown:aT C.A0 B S.mem β:= .inr ⟨s,e,hm,hβ⟩;have hc':=setRow_heap w β cs cs' t (0,0) hc;have ht:Trans (aT C.A0 B S.mem) w (w.setRow β cs'):=by
  refine⟨by simp,λb hb hn=>setRow_other w β b cs' (by rintro rfl;exact hn hown),λb _ D t' fz hD=> ?_⟩;by_cases hbb:b=β
  ·subst hbb
   rw[hc]at hD;simp only[fK,Obj.cells.injEq]at hD;obtain⟨rfl,rfl,rfl⟩:=hD;exact⟨cs',t,(0,0),hc',hsz⟩
  ·exact⟨D,t',fz,by rw[setRow_other w β b cs' hbb];exact hD,rfl⟩
 refine H.turn hm hβ (Qn w β cs' hc hsz) hc hc' hsz ?_;rw[hc'];exact he.trans ht (λ_ _ h=>h) (λ_ _ h=>h)
end Go.bI
namespace Go.bI
open Go.RowKit
variable{P:Program}{A:Nat→Prop}{B:eB}{w:World}
theorem gN{t n:Nat}(h:jT P t=some n):(sizeOf t).run P w= .ok n w:=by
 unfold jT at h;cases hi:P.info? t with
 | none=>simp[hi]at h
 | some i=>simp only[hi,Option.map_some,fK]at h;simp[sizeOf,typeInfo,hi,h]
theorem wB{t:Nat}{z:Value}(h:qz P t=some z):(zeroValue t).run P w= .ok z w:=by
 unfold qz at h;cases hi:P.info? t with
 | none=>simp[hi]at h
 | some i=>simp only[hi,Option.bind_some]at h;simp[zeroValue,typeInfo,hi,h]
theorem wY{t:Nat}{d:TypeDesc}(h:P.underlying t=some d):(isAgg t).run P w= .ok (Bq P t) w:=by
 unfold isAgg Bq;rw[Sem.run_bind,run_underlying h];simp only[h,Result.andThen_ok];cases d<;>rfl
theorem yR{t:Nat}{l:List AV}{off:Nat}{x:AV}(h:kS P t l off=some x): ∃d,P.underlying t=some d∧
  ((Bq P t=true∧ ∃n,jT P t=some n∧off+n≤l.length∧x= .agg ((l.drop off).take n))∨(Bq P t=false∧l[off]? =some x)):=by
 have row: ∀{n:Option Nat},ah6 n l off=some x→ ∃m,n=some m∧off+m≤l.length∧x= .agg ((l.drop off).take m):=by
  intro n hn;unfold ah6 at hn;cases n with
  | none=>simp at hn
  | some n=>
    simp only[]at hn;cases hb:Nat.ble (off+n) l.length with
    | false=>simp[hb]at hn
    | true=>
      simp only[hb,cond_true,fK]at hn;exact⟨n,rfl,by simpa using hb,hn.symm⟩
 unfold kS at h;unfold Bq;cases hu:P.underlying t with
 | none=>simp[hu]at h
 | some d=>
   refine⟨d,rfl,?_⟩;rw[hu]at h;cases d<;>first
    | exact .inl ⟨rfl,row h⟩
    | exact .inr ⟨rfl,h⟩
theorem wC{t:Nat}{l:List AV}{cs:List Value}(hr:eF A B w l cs){off:Nat}{x:AV}(h:kS P t l off=some x):
  ∃v,(part t cs.toArray off).run P w= .ok v w∧aV A B w x v:=by
 obtain⟨d,hu,h⟩:=yR h;unfold part;rw[Sem.run_bind,wY hu,Result.andThen_ok];rcases h with⟨hag,n,hs,hle,rfl⟩|⟨hag,hx⟩
 ·refine⟨.agg ((cs.drop off).take n).toArray,?_,aV.tH ((hr.drop off).take n)⟩
  simp only[hag,if_true,Sem.run_bind,gN hs,Result.andThen_ok,Sem.run_pure]
  congr 2
  apply Array.ext'
  simp[List.extract_eq_take_drop,List.take_drop]
 ·obtain⟨v,hv,hrel⟩:=hr.get hx
  refine⟨v,?_,hrel⟩;simp[hag,hv]
theorem toList_data(s:ByteArray):s.toList=s.data.toList:=ByteArray.toList_eq s
theorem FW(b:Bool)(l:List Bool):bA (b::l)=(b&&bA l):=by cases l<;>simp[bA]
theorem yS{d:Nat}{l m:List AV}{cs ds:List Value}(hl:eF A B w l cs)(hm:eF A B w m ds)
  (ih: ∀t x y b vx vy,TS P d t x y=some b→aV A B w x vx→aV A B w y vy→ ∀d',d≤d'→(Op.equalIn d' t vx vy).run P w= .ok b w) {d':Nat} (hd:d≤d'):
  ∀(fs:List Field) (bs:List Bool),(fs.mapM λf:Field=>bif f.name== "_" then none else
   match kS P f.type l f.offset,kS P f.type m f.offset with
   | some a,some b=>TS P d f.type a b
   | _,_=>none)=some bs→(Op.eqFields d' cs.toArray ds.toArray fs).run P w= .ok (bA bs) w
 | [],bs,h=>by simp at h;subst h;simp[Op.eqFields,bA]
 | f::fs,bs,h=>by
   simp only[List.mapM_cons,Option.bind_eq_bind,Option.pure_def]at h;cases hn:f.name== "_" with
   | true=>simp[hn]at h
   | false=>
     have hne:f.name≠ "_" :=by simpa using hn
     simp only[hn,cond_false]at h;cases ha:kS P f.type l f.offset with
     | none=>simp[ha]at h
     | some a=>
       cases hb:kS P f.type m f.offset with
       | none=>simp[ha,hb]at h
       | some b=>
         simp only[ha,hb]at h;cases he:TS P d f.type a b with
         | none=>simp[he]at h
         | some r=>
           simp only[he,Option.bind_some]at h;cases hrest:(fs.mapM λf:Field=>bif f.name== "_" then none else
            match kS P f.type l f.offset,kS P f.type m f.offset with
            | some a,some b=>TS P d f.type a b
            | _,_=>none)with
           | none=>rw[hrest]at h;simp at h
           | some rs=>
             rw[hrest]at h;simp only[Option.bind_some,fK]at h;subst h;obtain⟨va,hva,hra⟩:=wC hl ha;obtain⟨vb,hvb,hrb⟩:=wC hm hb;have h1:=ih f.type a b r va vb he hra hrb d' hd;have h2:=yS hl hm ih hd fs rs hrest;simp only[Op.eqFields,hne,ne_eq,not_false_eq_true,if_true,Sem.run_bind,hva,hvb,h1,Result.andThen_ok,Sem.run_ite,FW];cases r<;>simp[h2]
theorem AZ{d:Nat}{e sz:Nat}{l m:List AV}{cs ds:List Value}(hl:eF A B w l cs)(hm:eF A B w m ds)
  (ih: ∀t x y b vx vy,TS P d t x y=some b→aV A B w x vx→aV A B w y vy→ ∀d',d≤d'→(Op.equalIn d' t vx vy).run P w= .ok b w) {d':Nat} (hd:d≤d'):
  ∀(is:List Nat) (bs:List Bool),(is.mapM λi=>
    match kS P e l (i*sz),kS P e m (i*sz)with
    | some a,some b=>TS P d e a b
    | _,_=>none)=some bs→
   (forIn (m:=Sem) is ((none,()):Option Bool×Unit) λi r=>do
    let x←part e cs.toArray (i*sz)
    let y←part e ds.toArray (i*sz)
    let b←Op.equalIn d' e x y
    if(!b)=true then pure (ForInStep.done (some false,()))else pure (ForInStep.yield (none,()))).run P w= .ok (if bA bs=true then(none,())else(some false,())) w
 | [],bs,h=>by simp at h;subst h;simp[bA]
 | i::is,bs,h=>by
   simp only[List.mapM_cons,Option.bind_eq_bind,Option.pure_def]at h;cases ha:kS P e l (i*sz)with
   | none=>simp[ha]at h
   | some a=>
     cases hb:kS P e m (i*sz)with
     | none=>simp[ha,hb]at h
     | some b=>
       simp only[ha,hb]at h;cases he:TS P d e a b with
       | none=>simp[he]at h
       | some r=>
         simp only[he,Option.bind_some]at h;cases hrest:(is.mapM λi=>
          match kS P e l (i*sz),kS P e m (i*sz)with
          | some a,some b=>TS P d e a b
          | _,_=>none)with
         | none=>rw[hrest]at h;simp at h
         | some rs=>
           rw[hrest]at h;simp only[Option.bind_some,fK]at h;subst h;obtain⟨va,hva,hra⟩:=wC hl ha;obtain⟨vb,hvb,hrb⟩:=wC hm hb;have h1:=ih e a b r va vb he hra hrb d' hd;have h2:=AZ hl hm ih hd is rs hrest;simp only[List.forIn_cons,Sem.run_bind,hva,hvb,h1,Result.andThen_ok,Sem.run_ite,FW];cases r with
           | true=>
             simp only[Bool.not_true,Bool.false_eq_true,if_false,Sem.run_pure,Result.andThen_ok,Bool.true_and];exact h2
           | false=>simp
theorem L9: ∀(d t:Nat) (x y:AV) (b:Bool) (vx vy:Value),TS P d t x y=some b→aV A B w x vx→aV A B w y vy→ ∀d',d≤d'→
  (Op.equalIn d' t vx vy).run P w= .ok b w
 | 0,_,_,_,_,_,_,h,_,_,_,_=>by simp[TS]at h
 | d+1,t,x,y,b,vx,vy,h,hx,hy,d',hd=>by
   obtain⟨e,rfl⟩: ∃e,d'=e+1:=⟨d'-1,by omega⟩
   have hd':d≤e:=by omega
   have ih:=λt x y b vx vy=>L9 d t x y b vx vy
   unfold TS at h
   split at h
   ·rename_i a b' hu
    obtain rfl:=hx.plain;obtain rfl:=hy.plain;simp only[fK]at h;subst h;exact run_equalIn_bool' w e t a b' hu
   ·rename_i k0 k a k' b' hu
    obtain rfl:=hx.plain;obtain rfl:=hy.plain
    split at h
    ·rename_i hk
     subst hk;simp only[fK]at h;subst h;exact run_equalIn_int w e t k k0 a b' hu
    ·cases h
   ·rename_i a b' hu
    obtain rfl:=hx.plain;obtain rfl:=hy.plain;simp only[fK]at h;subst h;rw[run_equalIn_string w e t a b' hu,toList_data,toList_data]
   ·rename_i fs l m hu
    cases hst:P.stoodInHeld t with
    | true=>simp[hst]at h
    | false=>
      simp only[hst,cond_false,Option.map_eq_some_iff]at h;obtain⟨bs,h,rfl⟩:=h;obtain⟨cs,rfl,hl⟩:=hx.kZ;obtain⟨ds,rfl,hm⟩:=hy.kZ;have hf:P.fieldsOf t=fs:=by simp[Program.fieldsOf,hu]
      rw[run_equalIn_agg w e t cs.toArray ds.toArray (by rw[hf];exact hu) hst,hf];exact yS hl hm ih hd' fs.toList bs h
   ·rename_i n el l m hu
    cases hs:jT P el with
    | none=>simp[hs]at h
    | some sz=>
      simp only[hs,Option.map_eq_some_iff]at h;obtain⟨bs,h,rfl⟩:=h;obtain⟨cs,rfl,hl⟩:=hx.kZ;obtain⟨ds,rfl,hm⟩:=hy.kZ;have:=AZ (e:=el) (sz:=sz) hl hm ih hd' (List.range n) bs h;simp only[Op.equalIn,Sem.run_bind,run_underlying hu,Result.andThen_ok,gN hs];rw[Std.Legacy.Range.forIn_eq_forIn_range'];simp only[Std.Legacy.Range.size,List.range_eq_range']at this⊢;simp only[Nat.sub_zero,Nat.add_sub_cancel,Nat.div_one];rw[this,Result.andThen_ok];cases bA bs<;>simp
   ·cases h
end Go.bI
namespace Go.bI
open Go.RowKit
variable{P:Program}{A:Nat→Prop}{B:eB}{w:World}
theorem iI(op:BinOp)(t:TypeId)(x y:Operand)(a b:Value)(h1:a≠ .nilIface)(h2: ∀c,a≠ .agg c):
  (eqGuard op t x y a b).run P w= .ok () w:=by
 unfold eqGuard;cases a<;>first
  | exact absurd rfl h1
  | exact absurd rfl (h2 _)
  | (cases op<;>rfl)
theorem NZ{op:BinOp}{k:IntKind}{a b:Int}{r:Eff}(h:TP op k a b=some r)(hc: ∀p∈r.conds,p)(t:TypeId)(hns:op≠ .shl)(hnr:op≠ .shr):
  r.upd=[]∧ ∃v,(binOp op t (.int k a) (.int k b)).run P w= .ok v w∧aV A B w r.val v:=by
 cases op<;>simp only[TP,fK]at h<;>(try cases h)<;>refine⟨rfl,_,?_,aV.lit _⟩<;>
  simp only[binOp,ne_eq,not_true_eq_false,if_false,Op.intArith,Op.intCmp,Op.intBits,Op.intDiv,Sem.run_pure]<;>first
   | rfl
   | (have:=dec (hc (decide (b≠0)) (by simp));simp[this])
theorem Cz{op:BinOp}{k k':IntKind}{a b:Int}{r:Eff}(h:TQ op k a b=some r)(hc: ∀p∈r.conds,p)(t:TypeId):
  r.upd=[]∧ ∃v,(binOp op t (.int k a) (.int k' b)).run P w= .ok v w∧aV A B w r.val v:=by
 cases op<;>simp only[TQ,fK]at h<;>(try cases h)<;>refine⟨rfl,_,?_,aV.lit _⟩<;>
  (have:=dec (hc (decide (¬b<0)) (by simp));simp[binOp,Op.shift,this])
theorem N7{op:BinOp}{a b:ByteArray}{r:Eff}(h:TR op a b=some r)(hc: ∀p∈r.conds,p)(t:TypeId):
  r.upd=[]∧ ∃v,(binOp op t (.string a) (.string b)).run P w= .ok v w∧aV A B w r.val v:=by
 cases op<;>simp only[TR,fK]at h<;>(try cases h)<;>refine⟨rfl,_,?_,aV.lit _⟩<;>first
  | (simp[binOp,Op.stringOp,toList_data];done)
  | (have:=dec (hc (decide (a.size+b.size≤9223372036854775807)) (by simp))
     simp only[binOp,Op.stringOp];rw[if_neg]
     ·rfl
     ·simp only[IntKind.max,IntKind.bits,IntKind.signed];simp;omega)
theorem Qo{op:BinOp}{t:TypeId}{l m:List AV}{r:Eff}(h:acX P op t l m=some r){vx vy:Value}(hx:aV A B w (.agg l) vx)(hy:aV A B w (.agg m) vy)(xo yo:Operand):
  r.upd=[]∧ ∃v,(do eqGuard op t xo yo vx vy;binOp op t vx vy:Sem Value).run P w= .ok v w∧aV A B w r.val v:=by
 unfold acX at h;cases hg:P.eqGuardType P.depth t with
 | true=>simp[hg]at h
 | false=>
   simp only[hg,cond_false]at h;obtain⟨cs,rfl,hl⟩:=hx.kZ;obtain⟨ds,rfl,hm⟩:=hy.kZ;cases he:TS P 8 t (.agg l) (.agg m)with
   | none=>simp[he]at h
   | some b=>
     have hq:=L9 8 t _ _ b _ _ he hx hy 10000 (by omega);cases op<;>simp only[he]at h<;>(try cases h)<;>refine⟨rfl,_,?_,aV.lit _⟩<;>
      simp only[Sem.run_bind,run_eqGuard_agg w _ t xo yo _ _ hg,Result.andThen_ok,run_eql_struct,run_neq_struct,hq]
theorem yj(w:World)(d:Nat)(t e:TypeId)(x:Option Addr)(hu:P.underlying t=some (.pointer e)):(Op.equalIn (d+1) t (.pointer x) (.pointer none)).run P w= .ok (x.isNone) w:=by
 cases x<;>simp[Op.equalIn,Sem.run_bind,run_underlying hu]
theorem sD{op:BinOp}{t:TypeId}{x:Option Addr}{r:Eff}(h:Ed P op t x.isNone=some r)(xo yo:Operand):
  r.upd=[]∧ ∃v,(do eqGuard op t xo yo (.pointer x) (.pointer none);binOp op t (.pointer x) (.pointer none):Sem Value).run P w= .ok v w∧aV A B w r.val v:=by
 rw[Sem.run_bind,iI op t xo yo _ _ (by simp) (by simp),Result.andThen_ok];unfold Ed at h
 split at h
 ·rename_i e hu
  cases h;exact⟨rfl,_,by simp[binOp,Op.equal,Op.maxDepth,yj w 9999 t e x hu],aV.lit _⟩
 ·rename_i e hu
  cases h;exact⟨rfl,_,by simp[binOp,Op.equal,Op.maxDepth,yj w 9999 t e x hu],aV.lit _⟩
 ·cases h
theorem o9(w:World)(d:Nat)(t e:TypeId)(x:Addr)(n c:Nat)(hu:P.underlying t=some (.slice e)):(Op.equalIn (d+1) t (.slice (some x) n c) (.slice none 0 0)).run P w= .ok false w:=by
 simp[Op.equalIn,Sem.run_bind,run_underlying hu]
theorem Qp{op:BinOp}{t:TypeId}{n sz:Nat}{el:Nat→List IV}{r:Eff}(h:acY P op t n=some r)(hc: ∀p∈r.conds,p){v:Value}(hx:aV A B w (.c (.sl n sz el)) v)(xo yo:Operand):
  r.upd=[]∧ ∃u,(do eqGuard op t xo yo v (.slice none 0 0);binOp op t v (.slice none 0 0):Sem Value).run P w= .ok u w∧aV A B w r.val u:=by
 have key:n≠0→ ∃x c,v= .slice (some x) n c:=by
  intro hn;cases hx with
  | c _ _ hi=>
    cases hi with
    | nil=>exact absurd rfl hn
    | zero=>exact absurd rfl hn
    | sl _ _ _ b off cap _ _ _ _ _ _=>exact⟨_,_,rfl⟩
 unfold acY at h
 split at h
 ·rename_i e hu
  cases h;obtain⟨x,c,rfl⟩:=key (dec (hc (decide (n≠0)) (by simp)));rw[Sem.run_bind,iI _ t xo yo _ _ (by simp) (by simp),Result.andThen_ok];exact⟨rfl,_,by simp[binOp,Op.equal,Op.maxDepth,o9 w 9999 t e x n c hu],aV.lit _⟩
 ·rename_i e hu
  cases h;obtain⟨x,c,rfl⟩:=key (dec (hc (decide (n≠0)) (by simp)));rw[Sem.run_bind,iI _ t xo yo _ _ (by simp) (by simp),Result.andThen_ok];exact⟨rfl,_,by simp[binOp,Op.equal,Op.maxDepth,o9 w 9999 t e x n c hu],aV.lit _⟩
 ·cases h
theorem Er(w:World)(d:Nat)(t e:TypeId)(hu:P.underlying t=some (.slice e)):(Op.equalIn (d+1) t (.slice none 0 0) (.slice none 0 0)).run P w= .ok true w:=by
 simp[Op.equalIn,Sem.run_bind,run_underlying hu]
theorem FX{op:BinOp}{t:TypeId}{same:Bool}{r:Eff}(h:X7 P op t same=some r){x:Option Addr}{n c:Nat}(he: ∀e,P.underlying t=some (.slice e)→(Op.equalIn 10000 t (.slice x n c) (.slice none 0 0)).run P w= .ok same w)(xo yo:Operand):
  r.upd=[]∧ ∃u,(do eqGuard op t xo yo (.slice x n c) (.slice none 0 0);binOp op t (.slice x n c) (.slice none 0 0):Sem Value).run P w= .ok u w∧aV A B w r.val u:=by
 unfold X7 at h
 split at h
 ·rename_i e hu
  cases h;rw[Sem.run_bind,iI _ t xo yo _ _ (by simp) (by simp),Result.andThen_ok];exact⟨rfl,_,by simp[binOp,Op.equal,Op.maxDepth,he e hu],aV.lit _⟩
 ·rename_i e hu
  cases h;rw[Sem.run_bind,iI _ t xo yo _ _ (by simp) (by simp),Result.andThen_ok];exact⟨rfl,_,by simp[binOp,Op.equal,Op.maxDepth,he e hu],aV.lit _⟩
 ·cases h
theorem TY{op:BinOp}{t:TypeId}{x y:AV}{r:Eff}(h:aom P op t x y=some r)(hc: ∀p∈r.conds,p){vx vy:Value}(hx:aV A B w x vx)(hy:aV A B w y vy)(xo yo:Operand):
  r.upd=[]∧ ∃v,(do eqGuard op t xo yo vx vy;binOp op t vx vy:Sem Value).run P w= .ok v w∧aV A B w r.val v:=by
 unfold aom at h
 split at h
 ·rename_i k a k' b
  obtain rfl:=hx.plain;obtain rfl:=hy.plain;rw[Sem.run_bind,iI op t xo yo _ _ (by simp) (by simp),Result.andThen_ok]
  split at h
  ·exact Cz h hc t
  ·exact Cz h hc t
  ·rename_i h1 h2
   split at h
   ·rename_i hk;subst hk
    exact NZ h hc t h1 h2
   ·cases h
 ·rename_i a b
  obtain rfl:=hx.plain;obtain rfl:=hy.plain;rw[Sem.run_bind,iI op t xo yo _ _ (by simp) (by simp),Result.andThen_ok];exact N7 h hc t
 ·rename_i a b
  obtain rfl:=hx.plain;obtain rfl:=hy.plain;rw[Sem.run_bind,iI op t xo yo _ _ (by simp) (by simp),Result.andThen_ok]
  split at h
  ·rename_i hu
   cases h;exact⟨rfl,_,by simp[binOp,Op.equal,Op.maxDepth,run_equalIn_bool' w 9999 t a b hu],aV.lit _⟩
  ·rename_i hu
   cases h;exact⟨rfl,_,by simp[binOp,Op.equal,Op.maxDepth,run_equalIn_bool' w 9999 t a b hu],aV.lit _⟩
  ·cases h
 ·exact Qo h hx hy xo yo
 ·obtain rfl:=hx.plain
  obtain rfl:=hy.plain;exact sD (x:=none) h xo yo
 ·obtain rfl:=hy.plain
  cases hx with
  | ptr _ _ β _=>exact sD (x:=some _) h xo yo
 ·obtain rfl:=hy.plain
  cases hx with
  | kI _ _ _ _ β _=>exact sD (x:=some _) h xo yo
 ·obtain rfl:=hy.plain
  cases hx with
  | gq _ b off _ _ _=>exact sD (x:=some _) h xo yo
 ·obtain rfl:=hy.plain
  exact Qp h hc hx xo yo
 ·obtain rfl:=hx.plain
  obtain rfl:=hy.plain;exact FX h (x:=none) (n:=0) (c:=0) (λe=>Er w 9999 t e) xo yo
 ·rename_i x n c
  obtain rfl:=hx.plain;obtain rfl:=hy.plain;exact FX h (x:=some x) (n:=n) (c:=c) (λe hu=>o9 w 9999 t e x n c hu) xo yo
 ·cases h
theorem ZX{op:UnOp}{x:AV}{r:Eff}(h:unA op x=some r){vx:Value}(hx:aV A B w x vx):
  r.upd=[]∧ ∃v,(Op.unary op vx).run P w= .ok v w∧aV A B w r.val v:=by
 unfold unA at h
 split at h
 ·obtain rfl:=hx.plain;cases h;exact⟨rfl,_,rfl,aV.lit _⟩
 ·obtain rfl:=hx.plain;cases h;exact⟨rfl,_,rfl,aV.lit _⟩
 ·obtain rfl:=hx.plain;cases h;exact⟨rfl,_,rfl,aV.lit _⟩
 ·cases h
theorem Qq{s d:TypeId}{x:AV}{r:Eff}(h:acZ P s d x=some r){vx:Value}(hx:aV A B w x vx):
  r.upd=[]∧ ∃v,(convert s d vx).run P w= .ok v w∧aV A B w r.val v:=by
 unfold acZ at h
 split at h
 ·rename_i ds k k' n hs hd
  obtain rfl:=hx.plain;cases h;refine⟨rfl,_,?_,aV.lit _⟩;unfold convert;simp only[Sem.run_bind,run_underlying hs,run_underlying hd,Result.andThen_ok];simp[Conv.intToInt]
 ·rename_i ds s' hs hd
  obtain rfl:=hx.plain;cases h;refine⟨rfl,_,?_,aV.lit _⟩;unfold convert;simp only[Sem.run_bind,run_underlying hs,run_underlying hd,Result.andThen_ok];rfl
 ·cases h
end Go.bI
namespace Go.bI
open Go.RowKit
variable{P:Program}{A:Nat→Prop}{B:eB}{w:World}
theorem Qr: ∀(vs:List Value) (k off:Nat) (cs:Array Value),off+k+vs.length≤cs.size→
  (vs.zipIdx k).foldl (λ(cs:Array Value) (p:Value×Nat)=>cs.setIfInBounds (off+p.2) p.1) cs=(cs.toList.take (off+k)++vs++cs.toList.drop (off+k+vs.length)).toArray
 | [],k,off,cs,h=>by simp
 | v::vs,k,off,cs,h=>by
   simp only[List.zipIdx_cons,List.foldl_cons];rw[Qr vs (k+1) off (cs.setIfInBounds (off+k) v) (by simp at h⊢;omega)]
   congr 1
   have e:=list_seg_step cs.toList (off+k) v vs (by simp at h⊢;omega);simpa[Array.toList_setIfInBounds,Nat.add_assoc]using e
theorem wZ{places:List (Nat×Nat)}{place:Nat→Option (Nat×Nat)}(hp: ∀i p,places[i]? =some p→place i=some p): ∀(parts:List (Nat×AV)) (kU:List (Nat×Value)) (l l':List AV) (cs:List Value),
  yh places l parts=some l'→eF A B w l cs→kU.length=parts.length→
  (∀j,j<parts.length→(kU.getD j (0,undef)).1=(parts.getD j (0,.any)).1∧aV A B w (parts.getD j (0,.any)).2 (kU.getD j (0,undef)).2)→
  ∃cs',Instr.fill place cs.toArray kU=some cs'.toArray∧eF A B w l' cs'
 | [],kU,l,l',cs,h,hr,hl,_=>by
   simp only[yh,fK]at h;subst h;obtain rfl:kU=[]:=List.eq_nil_of_length_eq_zero (by simpa using hl);exact⟨cs,rfl,hr⟩
 | (i,x)::parts,kU,l,l',cs,h,hr,hl,hv=>by
   cases kU with
   | nil=>simp at hl
   | cons p kU=>
     obtain⟨i',v⟩:=p;have h0:=hv 0 (by simp);simp only[List.getD_cons_zero]at h0;obtain⟨rfl,hx⟩:=h0;simp only[yh]at h;cases hpl:places[i']? with
     | none=>simp[hpl]at h
     | some q=>
       obtain⟨off,n⟩:=q;simp only[hpl]at h;cases hb:(Nat.beq (jP x).length n&&Nat.ble (off+n) l.length&&(jP x).all jo)with
       | false=>simp[hb]at h
       | true=>
         simp only[hb,cond_true]at h;simp only[cu,Nat.beq_eq,Nat.ble_eq]at hb;obtain⟨⟨hn,hle⟩,hok⟩:=hb;have hc:=zN hx (.inl hok);have hlen:v.cells.size=n:=by have:=hc.1;simpa[hn]using this
         have hcl:off+n≤cs.length:=by rw[hr.1];exact hle
         have hr2:eF A B w (l.take off++jP x++l.drop (off+n)) (cs.take off++v.cells.toList++cs.drop (off+n)):=((hr.take off).append hc).append (hr.drop (off+n));obtain⟨cs',hf,hr'⟩:=wZ hp parts kU _ l' _ h hr2 (by simpa using hl) (λj hj=>by simpa using hv (j+1) (by simpa using hj));refine⟨cs',?_,hr'⟩;simp only[Instr.fill,hp i' _ hpl];rw[if_neg (by simp;omega)];have e:=Qr v.cells.toList 0 off cs.toArray (by simp;omega);have e2:v.cells.zipIdx.foldl (λ(cs:Array Value) (p:Value×Nat)=>cs.setIfInBounds (off+p.2) p.1) cs.toArray=(cs.take off++v.cells.toList++cs.drop (off+n)).toArray:=by
          rw[←Array.foldl_toList,Array.toList_zipIdx,e];simp[hlen]
         rw[e2];exact hf
theorem N8{t:TypeId}{parts:List (Nat×AV)}{r:Eff}(h:TT P t parts=some r){kU:Array (Nat×Value)}(hl:kU.size=parts.length)
  (hv: ∀j,j<parts.length→(kU.toList.getD j (0,undef)).1=(parts.getD j (0,.any)).1∧aV A B w (parts.getD j (0,.any)).2 (kU.toList.getD j (0,undef)).2):
  r.upd=[]∧ ∃v,(Instr.build t kU).run P w= .ok v w∧aV A B w r.val v:=by
 unfold TT at h
 split at h
 ·rename_i fs z hu hz
  cases hp:NU P fs with
  | none=>simp[hp]at h
  | some places=>
    simp only[hp]at h;cases hf:yh places (cellsOf z) parts with
    | none=>simp[hf]at h
    | some l=>
      simp only[hf,fK]at h;subst h;have hz':eF A B w (cellsOf z) z.cells.toList:=mR _;obtain⟨cs',Qs,hr'⟩:=wZ (place:=(places.toArray[·]?)) (λi p hi=>by simpa using hi) parts kU.toList _ l _ hf hz' (by simpa using hl) hv;refine⟨rfl,.agg cs'.toArray,run_build w t kU cs'.toArray ?_,aV.tH hr'⟩;unfold qz at hz;cases hi:P.info? t with
      | none=>simp[hi]at hz
      | some it=>
        simp only[hi,Option.bind_some]at hz;simp only[Program.built,hi,hu,hz];unfold NU at hp;simp only[hp];simpa using Qs
 ·rename_i n e z hu hz
  cases hs:jT P e with
  | none=>simp[hs]at h
  | some sz=>
    simp only[hs]at h;cases hf:yh ((List.range n).map λi=>(i*sz,sz)) (cellsOf z) parts with
    | none=>simp[hf]at h
    | some l=>
      simp only[hf,fK]at h;subst h;have hz':eF A B w (cellsOf z) z.cells.toList:=mR _;obtain⟨cs',Qs,hr'⟩:=wZ (place:=λi=>some (i*sz,sz)) (λi p hi=>by
       simp only[List.getElem?_map,Option.map_eq_some_iff]at hi;obtain⟨j,hj,rfl⟩:=hi;rw[List.getElem?_eq_some_iff]at hj;obtain⟨_,rfl⟩:=hj;simp) parts kU.toList _ l _ hf hz' (by simpa using hl) hv
      refine⟨rfl,.agg cs'.toArray,run_build w t kU cs'.toArray ?_,aV.tH hr'⟩;unfold qz at hz;unfold jT at hs;cases hi:P.info? t with
      | none=>simp[hi]at hz
      | some it=>
        cases hie:P.info? e with
        | none=>simp[hie]at hs
        | some ie=>
          simp only[hie,Option.map_some,fK]at hs;simp only[hi,Option.bind_some]at hz;simp only[Program.built,hi,hu,hz,hie,hs];simpa using Qs
 ·cases h
theorem Es{t:Nat}{l:List AV}{cs:Array Value}{β off:Nat}{ty:TypeId}{fz:Nat×Nat}(hc:w.heap[β]? =some (.cells cs ty fz))
  (hr:eF A B w l cs.toList) {x:AV} (h:kS P t l off=some x): ∃v,(loadVar t ⟨β,off,none⟩).run P w= .ok v w∧aV A B w x v:=by
 obtain⟨d,hu,h⟩:=yR h;unfold loadVar;rw[Sem.run_bind,wY hu,Result.andThen_ok];rcases h with⟨hag,n,hs,hle,rfl⟩|⟨hag,hx⟩
 ·refine⟨.agg ((cs.toList.drop off).take n).toArray,?_,aV.tH ((hr.drop off).take n)⟩
  have hlen:((cs.toList.drop off).take n).length=n:=by have:=hr.1;simp at this⊢;omega
  have hload:=run_loadCells_list (P:=P) w ⟨β,off,none⟩ ((cs.toList.drop off).take n) (λj v hv=>by
   rw[Addr.add_mid];simp only[World.cell?,hc];have hj:j<n:=by have:=(List.getElem?_eq_some_iff.1 hv).1;omega
   simpa[List.getElem?_take,hj,List.getElem?_drop]using hv)
  rw[hlen]at hload;simp only[hag,if_true,Sem.run_bind,gN hs,Result.andThen_ok,hload,Sem.run_pure]
 ·obtain⟨v,hv,hrel⟩:=hr.get hx
  refine⟨v,?_,hrel⟩;have:w.cell? ⟨β,off,none⟩=some v:=by simp only[World.cell?,hc];simpa using hv
  simp[hag,this]
theorem uQ{t n:Nat}(hs:jT P t=some n){cs:Array Value}{β off:Nat}{ty:TypeId}(hc:w.heap[β]? =some (.cells cs ty (0,0))){v:Value}
  (hn:v.cells.size=n) (hle:off+n≤cs.size) (h1: ∀x∈v.cells.toList,x.oneCell'=true):
  (storeVar t ⟨β,off,none⟩ v).run P w= .ok () (w.setRow β (cs.toList.take off++v.cells.toList++cs.toList.drop (off+n)).toArray):=by
 have:=run_storeCells_at (P:=P) β off ty v.cells.toList 0 cs w hc (by simp;omega) h1;unfold storeVar;rw[Sem.run_bind,gN hs,Result.andThen_ok];rw[if_neg (by simpa using hn),this];simp[hn]
end Go.bI
namespace Go.bI
open Go.RowKit
variable{P:Program}
def asF(A:Nat→Prop)(w:World)(n sz:Nat)(el:Nat→List IV)(a:Option Addr):Prop:=
 ∃b off,a=some ⟨b,off,none⟩∧b<w.heap.size∧(∀k,k<n→(el k).length=sz)∧
  ∀k j,k<n→j<sz→(w.cell? ⟨b,off+(k*sz+j),none⟩).isSome=true∧(kJ w ⟨b,off+(k*sz+j),none⟩).oneCell'=true∧
   jG A w ((el k).getD j (.v undef)) (kJ w ⟨b,off+(k*sz+j),none⟩)
def qA(A:Nat→Prop)(w:World)(n sz:Nat)(el:Nat→List IV)(a:Option Addr):Prop:=n=0∨asF A w n sz el a
theorem jQ{k n sz j:Nat}(hk:k<n)(hj:j<sz):k*sz+j<n*sz:=by
 calc k*sz+j<k*sz+sz:=by omega
  _=(k+1)*sz:=by rw[Nat.add_mul,Nat.one_mul]
  _≤n*sz:=Nat.mul_le_mul_right _ hk
def iV(w:World)(n sz:Nat):Option Addr→List Value
 | none=> []
 | some a=>(List.range (n*sz)).map λi=>kJ w (a.add i)
theorem qA.length{A:Nat→Prop}{w:World}{n sz:Nat}{el:Nat→List IV}{a:Option Addr}(h:qA A w n sz el a):(iV w n sz a).length=n*sz:=by
 rcases h with rfl|⟨b,off,rfl,_⟩
 ·cases a<;>simp[iV]
 ·simp[iV]
theorem qA.cell{A:Nat→Prop}{w:World}{n sz:Nat}{el:Nat→List IV}{b off:Nat}(h:qA A w n sz el (some ⟨b,off,none⟩)){i:Nat}(hi:i<n*sz):
  (w.cell? ⟨b,off+i,none⟩).isSome=true∧(kJ w ⟨b,off+i,none⟩).oneCell'=true∧jG A w ((el (i/sz)).getD (i%sz) (.v undef)) (kJ w ⟨b,off+i,none⟩):=by
 rcases h with rfl|⟨b',off',he,_,hl,h⟩
 ·simp at hi
 ·simp only[fK,Addr.mk.injEq,and_true]at he
  obtain⟨rfl,rfl⟩:=he
  have hsz:0<sz:=by rcases Nat.eq_zero_or_pos sz with h0|h0; · subst h0;simp at hi
                    exact h0
  have:=h (i/sz) (i%sz) (Nat.div_lt_of_lt_mul (by rwa [Nat.mul_comm])) (Nat.mod_lt _ hsz)
  rwa [Nat.div_add_mod' i sz]at this
theorem qA.news{A:Nat→Prop}{w:World}{n sz:Nat}{el:Nat→List IV}{a:Addr}(h:qA A w n sz el (some a)):
  (∀j u,(iV w n sz (some a))[j]? =some u→w.cell? (a.add j)=some u)∧ ∀u∈iV w n sz (some a),u.oneCell'=true:=by
 by_cases hn:n=0
 ·subst hn
  simp[iV]
 have ha: ∃b off,a=⟨b,off,none⟩:=by
  rcases h with h|⟨b',off',he,_⟩
  ·exact absurd h hn
  ·simp only[fK]at he;exact⟨b',off',he⟩
 obtain⟨b,off,rfl⟩:=ha;constructor
 ·intro j u hu
  simp only[iV,List.getElem?_map,Option.map_eq_some_iff]at hu;obtain⟨i,hi,rfl⟩:=hu;obtain⟨hj,rfl⟩:=List.getElem?_eq_some_iff.1 hi;simp only[List.getElem_range];simp only[List.length_range]at hj;rw[Addr.add_mid];exact vM (h.cell hj).1
 ·intro u hu
  simp only[iV,List.mem_map,List.mem_range]at hu;obtain⟨i,hi,rfl⟩:=hu;rw[Addr.add_mid];exact(h.cell hi).2.1
theorem Et{w:World}{β:Nat}{cs:Array Value}{t:TypeId}{fz:Nat×Nat}(h:w.heap[β]? =some (.cells cs t fz))(i:Nat):kJ w ⟨β,i,none⟩=cs.getD i undef:=by
 simp[kJ,World.cell?,h,oQ]
theorem Qt{w:World}{β:Nat}{cs:Array Value}{t:TypeId}{fz:Nat×Nat}(h:w.heap[β]? =some (.cells cs t fz)){i:Nat}(hi:i<cs.size):(w.cell? ⟨β,i,none⟩).isSome=true:=by
 simp[World.cell?,h,hi]
variable{C:Ctx}{B:eB}{S:St}{a:Act}{w:World}
theorem Hq{A:Nat→Prop}{n sz:Nat}{el:Nat→List IV}{t:TypeId}{β:Nat}(h:iK A B w (.arr n sz el t) w.heap[β]?):
  ∃cs,w.heap[β]? =some (.cells cs t (0,0))∧n*sz≤cs.size∧ ∀k,k≤n→asF A w k sz el (some ⟨β,0,none⟩):=by
 generalize ho:w.heap[β]? =o at h;cases h with
 | arr _ _ _ _ cs hs hl h=>
   refine⟨cs,rfl,hs,λk hk=>⟨β,0,rfl,lt_of_heap ho,λi hi=>hl i (by omega),λi j hi hj=> ?_⟩⟩;have hlt:i*sz+j<cs.size:=Nat.lt_of_lt_of_le (jQ (by omega:i<n) hj) hs;simp only[Nat.zero_add];rw[Et ho];exact⟨Qt ho hlt,(h i j (by omega) hj).1,(h i j (by omega) hj).2⟩
theorem w9(H:Holds C B S a w){x:AV}{v:Value}(hx:aV (aT C.A0 B S.mem) B w x v){n sz:Nat}{el:Nat→List IV}{cs:List Bool}{rs:List Nat}(h:rW S.mem x=some (n,sz,el,cs,rs))(hc: ∀p∈cs,p):
  ∃ad cap,v= .slice ad n cap∧n≤cap∧qA (aT C.A0 B S.mem) w n sz el ad:=by
 unfold rW at h
 split at h
 ·rename_i n' sz' jw
  simp only[fK,Prod.mk.injEq]at h;obtain⟨rfl,rfl,rfl,rfl,rfl⟩:=h;cases hx with
  | c _ _ hi=>
    cases hi with
    | nil=>exact⟨none,0,rfl,Nat.le_refl _,.inl rfl⟩
    | zero=>exact⟨_,0,rfl,Nat.le_refl _,.inl rfl⟩
    | sl _ _ _ b off cap hA hb hn hl hs h=>exact⟨_,cap,rfl,hn,.inr ⟨b,off,rfl,hb,hl,λk j hk hj=>⟨(hs k j hk hj).1,(hs k j hk hj).2,h k j hk hj⟩⟩⟩
 ·simp only[fK,Prod.mk.injEq]at h
  obtain⟨rfl,rfl,rfl,rfl,rfl⟩:=h;exact⟨none,0,hx.plain,Nat.le_refl _,.inl rfl⟩
 ·simp only[fK,Prod.mk.injEq]at h
  obtain⟨rfl,rfl,rfl,rfl,rfl⟩:=h;exact⟨_,_,hx.plain,Nat.zero_le _,.inl rfl⟩
 ·rename_i b n' sz'
  split at h
  ·rename_i m' Ho jw t hm
   cases hb:Nat.beq sz' Ho with
   | false=>simp[hb]at h
   | true=>
     simp only[hb,cond_true,fK,Prod.mk.injEq]at h;obtain⟨rfl,rfl,rfl,rfl,rfl⟩:=h;obtain rfl:sz'=Ho:=by simpa using hb
     have hle:=dec (hc (decide (n'≤m')) (by simp));cases hx with
     | iP _ _ _ cap β hβ hn hmx hcc=>
       rcases H.mem b _ hm with⟨γ,hγ,hent⟩|⟨hno,_⟩
       ·rw[hβ]at hγ
        cases hγ;obtain⟨cs,hcs,hsz,hsl⟩:=Hq hent;exact⟨_,cap,rfl,hn,.inr (hsl _ hle)⟩
       ·rw[hβ]at hno;cases hno
     | uH=>exact⟨none,0,rfl,Nat.le_refl _,.inl rfl⟩
  ·cases h
 ·cases h
end Go.bI
namespace Go
def Fence.Qi(ro:Option Nat):Fence:={Fence.wide with round:=ro}
def Oper.asG(P:Program)(o:Oper)(a:Act)(next:Act→World→Prop):Result Next→Prop
 | .ok (.value v) w'=>next (a.put o.dst v) w'
 | .ok .skip w'=>next (a.put o.dst undef) w'
 | .ok (.enter f args) w'=>Calls P f args w' fun
  | .returned v,w''=>next (a.put o.dst v) w''
  | .panicked _,_=>False
  | .outgrown,_=>False
 | .ok (.round l f tmps assign body) w'=>RoundIn Fence.wide 0 P l f tmps assign body w' fun
  | .returned v,w''=>next (a.put o.dst v) w''
  | .panicked _,_=>False
  | .outgrown,_=>False
 | _=>False
def Oper.uI(P:Program)(o:Oper)(a:Act)(w:World)(next:Act→World→Prop)(_:Exit→Act→World→Prop):Prop:=
 o.asG P a next ((execOp a.eval o).run P w)
theorem Qu{ro:Option Nat}{n:Nat}{P:Program}{f:FuncId}{args:Array Value}{w:World}{R:Ending→World→Prop}(h:Calls P f args w R):CallsIn (Fence.Qi ro) n P f args w R:=
 ⟨trivial,λcs _=>(callsIn_wide (n:=n).2 h).2 cs (room_wide _)⟩
theorem Qv{ro:Option Nat}{m n:Nat}{P:Program}{l:Nat}{f:FuncId}{tmps:Array Value}{assign body:Code}{w:World}{R:Ending→World→Prop}(h:RoundIn Fence.wide m P l f tmps assign body w R):
  RoundIn (Fence.Qi ro) n P l f tmps assign body w R:=
 ⟨trivial,λc cs _=>h.2 c cs (room_wide _)⟩
theorem Oper.FY{P:Program}{o:Oper}{a:Act}{w:World}{next:Act→World→Prop}{Q:Exit→Act→World→Prop}(ro:Option Nat)(n:Nat)(hd: ∀c,o.op≠ .defer c)(h:o.uI P a w next Q):
  o.wpIn (Fence.Qi ro) n P a w next Q:=by
 refine⟨λ_ _=>trivial,?_⟩;have hs:o.semAt (Fence.Qi ro).round a.eval=execOp a.eval o:=Oper.semAt_eq _ _ _ hd;rw[hs];unfold Oper.uI at h;generalize (execOp a.eval o).run P w=r at*;cases r with
 | halt x w'=>cases x<;>exact h.elim
 | ok x w'=>
   cases x with
   | value v=>exact h
   | skip=>exact h
   | enter f args=>
     refine⟨λh=>by simp[Fence.Qi,Fence.wide]at h,Qu (Calls.mono h ?_)⟩;intro e w'' he;cases e with
     | returned v=>exact he
     | panicked c=>exact he.elim
     | outgrown=>exact he.elim
   | round l f tmps assign body=>
     refine⟨λh=>by simp[Fence.Qi,Fence.wide]at h,Qv (RoundIn.mono h ?_)⟩;intro e w'' he;cases e with
     | returned v=>exact he
     | panicked c=>exact he.elim
     | outgrown=>exact he.elim
   | _=>exact h.elim
theorem Qw{P:Program}{b:Frame}{a:Act}{k:List Item}{cs:List Frame}{w:World}{c:Code}:step P (lone (b.atR a (.code (.scope c)::k)) cs w)= .next (lone (b.atR a (.code c:: .inScope c::k)) cs w):=
 step_lone_go (by simp[stepG,stepG.exec,Frame.atR])
theorem Li{P:Program}{b:Frame}{a:Act}{k:List Item}{cs:List Frame}{w:World}{c:Code}:step P (lone (b.atR a (.inScope c::k)) cs w)= .next (lone (b.atR a k) cs w):=
 step_lone_go (by simp[stepG,stepG.exec,Frame.atR])
theorem AA{F:Fence}{n:Nat}{P:Program}{Q:Exit→Act→World→Prop}{a:Act}{w:World}{c:Code}(h:c.wpIn F n P (Exit.noGoto Q) a w):(Code.scope c).wpIn F n P Q a w:=by
 intro b k cs hro hb hr;obtain⟨e,a₁,w₁,hq,harr⟩:=h b (.inScope c::k) cs hro hb hr;have s0:StepsIn (Machine.fenced P F) P (lone (b.atR a (.code (.scope c)::k)) cs w) (lone (b.atR a (.code c:: .inScope c::k)) cs w):= .one (fenced_calm hb hr rfl) Qw;cases e with
 | normal=>exact⟨.normal,a₁,w₁,hq,StepsIn.trans s0 (StepsIn.trans harr (.one (fenced_calm hb hr rfl) Li))⟩
 | exit id=>exact⟨.exit id,a₁,w₁,hq,λk' hk=>StepsIn.trans s0 (harr.1 k' (by simp[exitTo,hk])),λhr hk=>let ⟨k₁,h1,h2⟩:=harr.2 hr (by simp[exitTo,hk]);⟨k₁,h1,StepsIn.trans s0 h2⟩⟩
 | goto l=>exact hq.elim
 | ret=>exact⟨.ret,a₁,w₁,hq,λhr=>let ⟨todo,hs⟩:=harr.1 hr;⟨todo,StepsIn.trans s0 hs⟩,λhr=>let ⟨k₁,hs⟩:=harr.2 hr;⟨k₁,StepsIn.trans s0 hs⟩⟩
 | panic ch=>exact⟨.panic ch,a₁,w₁,hq,let ⟨todo,hs⟩:=harr;⟨todo,StepsIn.trans s0 hs⟩⟩
 | outgrown=>exact⟨.outgrown,a₁,w₁,hq,harr.imp id (Outgrown.of_steps s0.steps)⟩
end Go
namespace Go.bI
open Go.RowKit
section
variable{P:Program}{C:Ctx}{B:eB}{S:St}{a:Act}{w:World}{o:Oper}{r:Eff}{slot:Nat}
 {K:Act→World→Prop} {Q:Exit→Act→World→Prop}
abbrev Cont(C:Ctx)(B:eB)(slot:Nat)(S':St)(K:Act→World→Prop):Prop:=
 ∀a' w' B',Holds C B' S' a' w'→(∀j,j≠slot→B' j=B j)→K a' w'
theorem kV(hK:Cont C B slot (S.apply o.dst r) K){v:Value}{w':World}{B':eB}(hrun:(execOp a.eval o).run P w= .ok (.value v) w')
  (H':Holds C B' {S with mem:=dA S.mem r.upd} a w') (hrel:aV (aT C.A0 B' (dA S.mem r.upd)) B' w' r.val v) (hB: ∀j,j≠slot→B' j=B j):o.uI P a w K Q:=by
 unfold Oper.uI;rw[hrun];exact hK _ _ B' (H'.put o.dst hrel) hB
theorem Ma{t n:Nat}(h:IZ P t=some n){s:Nat}(hs:jT P t=some s){z:Value}(hz:qz P t=some z): ∃i,P.info? t=some i∧i.bytes=n∧i.size=s∧i.zero=some z:=by
 unfold IZ at h;unfold jT at hs;unfold qz at hz;cases hi:P.info? t with
 | none=>simp[hi]at h
 | some i=>simp[hi]at h hs hz;exact⟨i,rfl,h,hs,hz⟩
theorem Qx{n:Int}(h0:0≤n)(h1:n≤9223372036854775807):IntKind.i64.wrap n=n:=IntWalk.i64_in n ⟨by omega,h1⟩
theorem run_makeSlice{t e p Eh:Nat}{n:Int}{z:Value}(hu:P.underlying t=some (.slice e))(hs:jT P e=some (p+1))(hb:IZ P e=some Eh)(hz:qz P e=some z)
  (h0:0≤n) (h1:n≤9223372036854775807) (h2:(Eh:Int)*n≤140737488355328):
  (Instr.makeSlice t (.int .i64 n) (.int .i64 n)).run P w= .ok (.slice (some ⟨w.heap.size,0,none⟩) n.toNat n.toNat) (w.alloc (.cells ((Array.range (n.toNat*(p+1))).map (λi=>z.cells[i%z.cells.size]!)) e)):=by
 obtain⟨i,hi,hib,his,hiz⟩:=Ma hb hs hz;have hw:=Qx h0 h1;have hl:(n<0 || (Eh:Int)*n>2^48)=false:=by simp;omega
 unfold Instr.makeSlice;simp only[Sem.run_bind,run_underlying hu,Result.andThen_ok,asInt,asIntOf,Sem.run_pure,typeInfo,run_program,hi,hib,hw,hl];have h00: ¬n<0:=by omega
 by_cases hn:n.toNat*(p+1)=0
 ·have hr:Array.range 0= #[]:=rfl
  simp[h00,sizeOf,typeInfo,hi,his,hn,newRow,hr]
 ·have hne:n.toNat≠0:=by rintro h;rw[h]at hn;simp at hn
  simp[h00,sizeOf,typeInfo,hi,his,hne,newRow,zeroValue,hiz];intro h;exact absurd h hn
theorem T9{l:List Value}{j:Nat}(hj:j<l.length):(l.map IV.v).getD j (.v undef)= .v l[j]:=by simp[dR,hj]
theorem Mc{A:Nat→Prop}{n p:Nat}{z:Value}{e:TypeId}{cs:Array Value}(hzs:z.cells.size=p+1)(hok:z.cells.toList.all (·.oneCell')=true)(hsz:cs.size=n*(p+1))
  (hcs: ∀i,i<n*(p+1)→cs.getD i undef=z.cells.toList.getD (i%(p+1)) undef):
  iK A B w (.arr n (p+1) (λ_=>z.cells.toList.map .v) e) (some (.cells cs e (0,0))):=by
 refine .arr n (p+1) _ e cs (by omega) (λk hk=>by simpa using hzs) λk j hk hj=> ?_
 have hlt:=jQ hk hj;rw[hcs _ hlt];have hm:(k*(p+1)+j)%(p+1)=j:=by rw[Nat.mul_comm,Nat.mul_add_mod,Nat.mod_eq_of_lt hj]
 rw[hm];have hjl:j<z.cells.toList.length:=by simpa[hzs]using hj
 rw[T9 hjl];have hv:z.cells.toList.getD j undef=z.cells.toList[j]:=by rw[dR,List.getElem?_eq_getElem hjl];rfl
 rw[hv];exact⟨List.all_eq_true.1 hok _ (List.getElem_mem hjl),.v _⟩
theorem Ja(hC:C.Ok)(H:Holds C B S a w)(hs:B slot=none)(hnx:Between C S slot){t:TypeId}{x y:Operand}(hop:o.op= .makeSlice t x y)
  (h:Bv P slot t (cZ S.tm x) (cZ S.tm y)=some r) (hc: ∀p∈r.conds,p) (hK:Cont C B slot (S.apply o.dst r) K):o.uI P a w K Q:=by
 have hx:=bP H x;have hy:=bP H y;unfold Bv at h
 split at h
 ·rename_i e n k hu hxe hye
  rw[hxe]at hx;rw[hye]at hy
  split at h
  ·rename_i p Eh z hsz hby hz
   cases hb:(Nat.beq z.cells.size (p+1)&&z.cells.toList.all (·.oneCell'))with
   | false=>rw[hb]at h;cases h
   | true=>
     rw[hb]at h;simp only[cond_true,fK]at h;subst h;simp only[cu,Nat.beq_eq]at hb;have hnk:n=k:=dec (hc _ (by simp));have h0:0≤n:=dec (hc _ (by simp));have h1:n≤9223372036854775807:=dec (hc _ (by simp));have h2:(Eh:Int)*n≤140737488355328:=dec (hc _ (by simp));subst hnk;have hrun:=run_makeSlice (w:=w) hu hsz hby hz h0 h1 h2;have hent:=Mc (A:=aT C.A0 B S.mem) (B:=B) (w:=w) (n:=n.toNat) (p:=p) (z:=z) (e:=e) (cs:=(Array.range (n.toNat*(p+1))).map (λi=>z.cells[i%z.cells.size]!)) hb.1 hb.2 (by simp) (λi hi=>by
      have hz0:i%z.cells.size<z.cells.size:=Nat.mod_lt _ (by omega);simp[oQ,hi,dR,hb.1 ▸ hz0,hz0,hb.1])
     refine kV hK (w':=w.alloc (.cells ((Array.range (n.toNat*(p+1))).map (λi=>z.cells[i%z.cells.size]!)) e)) (v:= .slice (some ⟨w.heap.size,0,none⟩) n.toNat n.toNat) (B':=ji B slot w.heap.size) ?_ (H.alloc hC hs hnx hent) ?_ (λj hj=>by simp[ji,hj])
     ·simp only[execOp,hop,hx.plain,hy.plain,Sem.run_bind,hrun,Result.andThen_ok,Sem.run_pure]
     ·refine .iP slot n.toNat (p+1) n.toNat w.heap.size (by simp[ji]) (Nat.le_refl _) (by unfold maxLen;omega) ⟨_,e,(0,0),by show(w.heap.push _)[w.heap.size]? =_;simp;rfl,by simp⟩
  ·cases h
 ·cases h
end
end Go.bI
namespace Go.bI
open Go.RowKit
section
variable{P:Program}{C:Ctx}{B:eB}{S:St}{a:Act}{w:World}{o:Oper}{r:Eff}{slot:Nat}
 {K:Act→World→Prop} {Q:Exit→Act→World→Prop}
theorem dV(H:Holds C B S a w)(hK:Cont C B slot (S.apply o.dst r) K){v:Value}(hrun:(execOp a.eval o).run P w= .ok (.value v) w)
  (hrel:aV (aT C.A0 B S.mem) B w r.val v) (hu:r.upd=[]):o.uI P a w K Q:=by
 refine kV hK (B':=B) hrun ?_ ?_ (λ_ _=>rfl)
 ·rw[hu];exact H
 ·rw[hu];exact hrel
theorem jL(β off n:Nat):(⟨β,off,none⟩:Addr).add n=⟨β,off+n,none⟩:=Addr.add_mid β off n
theorem Ua{A:Nat→Prop}{n sz:Nat}{el:Nat→List IV}{b off:Nat}(hA: ¬A b)(hb:b<w.heap.size){k:Nat}(hl:(el k).length=sz)
  (h: ∀j,j<sz→(w.cell? ⟨b,off+(k*sz+j),none⟩).isSome=true∧jG A w ((el k).getD j (.v undef)) (kJ w ⟨b,off+(k*sz+j),none⟩)):
  aV A B w (.gq (el k)) (.pointer (some ⟨b,off+k*sz,none⟩)):=by
 refine .gq _ b (off+k*sz) hA hb λj hj=> ?_
 rw[hl]at hj;have:=h j hj;rw[Nat.add_assoc];exact this
theorem Jb(H:Holds C B S a w){t:TypeId}{x y:Operand}(hop:o.op= .indexAddr t x y)
  (h:Bu P S.mem t (cZ S.tm x) (cZ S.tm y)=some r) (hc: ∀p∈r.conds,p)
  (hK:Cont C B slot (S.apply o.dst r) K):o.uI P a w K Q:=by
 have hx:=bP H x;have hy:=bP H y;unfold Bu at h
 split at h
 ·rename_i e ki i hu hye
  rw[hye]at hy;have hyv:=hy.plain
  split at h
  ·rename_i b n sz p hxe hp
   cases hz:Nat.beq p sz with
   | false=>simp[hz]at h
   | true=>
   simp only[hz,cond_true,fK]at h;subst h;have hi:=dec (hc (decide (0≤i∧i<(n:Int))) (by simp));obtain rfl:p=sz:=by simpa using hz
   rw[hxe]at hx;generalize pq:a.eval x=vx at hx;cases hx with
   | iP _ _ _ cap β hβ hn hm hcc=>
     refine dV H hK (v:= .pointer (some ⟨β,i.toNat*p+0,none⟩)) ?_ (.kI b i.toNat 0 p β hβ) rfl;simp[execOp,hop,Instr.indexAt,hyv,pq,asIntOf,run_underlying hu,hi.1,hi.2,gN hp,jL]
   | uH=>omega
  ·rename_i n sz el p hxe hp
   cases hz:Nat.beq p sz with
   | false=>simp[hz]at h
   | true=>
     simp only[hz,cond_true,fK]at h;subst h;have hi:=dec (hc (decide (0≤i∧i<(n:Int))) (by simp));obtain rfl:p=sz:=by simpa using hz
     rw[hxe]at hx;generalize pq:a.eval x=vx at hx;cases hx with
     | c _ _ hi2=>
       cases hi2 with
       | nil=>omega
       | zero=>omega
       | sl _ _ _ b off cap hA hb hn hl hs hh=>
         have hik:i.toNat<n:=by omega
         refine dV H hK (v:= .pointer (some ⟨b,off+i.toNat*p,none⟩)) ?_ (Ua (n:=n) hA hb (hl _ hik) λj hj=>⟨(hs _ j hik hj).1,hh _ j hik hj⟩) rfl;simp[execOp,hop,Instr.indexAt,hyv,pq,asIntOf,run_underlying hu,hi.1,hi.2,gN hp,jL]
  ·rename_i b k n sz p hxe hp
   cases hz:Nat.beq p sz with
   | false=>simp[hz]at h
   | true=>
     simp only[hz,cond_true,fK]at h;subst h;have hi:=dec (hc (decide (0≤i∧i<(n:Int))) (by simp));obtain rfl:p=sz:=by simpa using hz
     rw[hxe]at hx;generalize pq:a.eval x=vx at hx;cases hx with
     | IL _ _ _ _ cap β hβ hn h0 hcc=>
       refine dV H hK (v:= .pointer (some ⟨β,(k+i.toNat)*p+0,none⟩)) ?_ (.kI b (k+i.toNat) 0 p β hβ) rfl;have e:(k+i.toNat)*p+0=k*p+i.toNat*p:=by rw[Nat.add_mul,Nat.add_zero]
       rw[e];simp[execOp,hop,Instr.indexAt,hyv,pq,asIntOf,run_underlying hu,hi.1,hi.2,gN hp,jL]
  ·cases h
 ·rename_i n e ki i hu hye
  rw[hye]at hy;have hyv:=hy.plain
  split at h
  ·rename_i b sz p hxe hp
   cases hz:Nat.beq sz p with
   | false=>simp[hz]at h
   | true=>
     simp only[hz,cond_true,fK]at h;subst h;obtain rfl:sz=p:=by simpa using hz
     have hi:=dec (hc (decide (0≤i∧i<(n:Int))) (by simp));rw[hxe]at hx;generalize pq:a.eval x=vx at hx;cases hx with
     | kI _ _ _ _ β hβ=>
       refine dV H hK (v:= .pointer (some ⟨β,i.toNat*sz+0,none⟩)) ?_ (.kI b i.toNat 0 sz β hβ) rfl;simp[execOp,hop,Instr.indexAt,hyv,pq,asIntOf,run_underlying hu,hi.1,hi.2,gN hp,jL,Instr.sureAddr]
  ·rename_i b off p hxe hp
   cases h;have hi:=dec (hc (decide (0≤i∧i<(n:Int))) (by simp));rw[hxe]at hx;obtain⟨β,hβ,pq⟩:=hx.mQ;refine dV H hK (v:= .pointer (some ⟨β,off+i.toNat*p,none⟩)) ?_ (.ptr b _ β hβ) rfl;simp[execOp,hop,Instr.indexAt,hyv,pq,asIntOf,run_underlying hu,hi.1,hi.2,gN hp,jL,Instr.sureAddr]
  ·cases h
 ·cases h
theorem ac4{A:Nat→Prop}{l:List IV}{cs:List Value}(hl:cs.length=l.length)(h: ∀j,j<l.length→jG A w (l.getD j (.v undef)) (cs.getD j undef)):eF A B w (Qk l) cs:=
 ⟨by simpa[Qk]using hl,λj hj=>by
  have hj':j<l.length:=by simpa[Qk]using hj
  have:=h j hj';simp only[Qk,dR,List.getElem?_map,List.getElem?_eq_getElem hj',Option.map_some,Option.getD_some]at this⊢;exact .c _ _ this⟩
theorem pz{A:Nat→Prop}{t:Nat}{l:List IV}{b off j:Nat}(h: ∀i,i<l.length→(w.cell? ⟨b,off+i,none⟩).isSome=true∧jG A w (l.getD i (.v undef)) (kJ w ⟨b,off+i,none⟩)){x:AV}
  (hp:kS P t (Qk l) j=some x): ∃v,(loadVar t ⟨b,off+j,none⟩).run P w= .ok v w∧aV A B w x v:=by
 obtain⟨d,hu,hp⟩:=yR hp;have hr:eF A B w (Qk l) ((List.range l.length).map λi=>kJ w ⟨b,off+i,none⟩):=
  ac4 (by simp) λi hi=>by
   have:=(h i hi).2;simpa[dR,hi]using this
 unfold loadVar;rw[Sem.run_bind,wY hu,Result.andThen_ok];rcases hp with⟨hag,n,hs,hle,rfl⟩|⟨hag,hx⟩
 ·have hle':j+n≤l.length:=by simpa[Qk]using hle
  refine⟨.agg ((((List.range l.length).map λi=>kJ w ⟨b,off+i,none⟩).drop j).take n).toArray,?_,aV.tH ((hr.drop j).take n)⟩;have hload:=run_loadCells_list (P:=P) w ⟨b,off+j,none⟩ ((((List.range l.length).map λi=>kJ w ⟨b,off+i,none⟩).drop j).take n) (λi v hv=>by
   rw[jL];have hin:i<n:=by have:=(List.getElem?_eq_some_iff.1 hv).1;simp at this;omega
   simp only[List.getElem?_take,hin,if_true,List.getElem?_drop,List.getElem?_map,Option.map_eq_some_iff]at hv;obtain⟨k,hk,rfl⟩:=hv;obtain⟨hk1,rfl⟩:=List.getElem?_eq_some_iff.1 hk;simp only[List.getElem_range];rw[Nat.add_assoc];exact vM (h _ (by omega)).1)
  have hlen:((((List.range l.length).map λi=>kJ w ⟨b,off+i,none⟩).drop j).take n).length=n:=by simp;omega
  rw[hlen]at hload;simp only[hag,if_true,Sem.run_bind,gN hs,Result.andThen_ok,hload,Sem.run_pure]
 ·obtain⟨v,hv,hrel⟩:=hr.get hx
  refine⟨v,?_,hrel⟩;simp only[List.getElem?_map,Option.map_eq_some_iff]at hv;obtain⟨k,hk,rfl⟩:=hv;obtain⟨hk1,rfl⟩:=List.getElem?_eq_some_iff.1 hk;simp only[List.getElem_range];simp only[List.length_range]at hk1;have:=vM (h j hk1).1;simp[hag,this]
theorem Md(H:Holds C B S a w){t:TypeId}{x:AV}{vx:Value}(hx:aV (aT C.A0 B S.mem) B w x vx)(h:FV P S.mem t x=some r)(hc: ∀p∈r.conds,p):
  r.upd=[]∧ ∃ad v,vx= .pointer (some ad)∧(loadVar t ad).run P w= .ok v w∧aV (aT C.A0 B S.mem) B w r.val v:=by
 unfold FV at h
 split at h
 ·rename_i b off
  obtain⟨β,hβ,hxe⟩:=hx.mQ
  split at h
  ·rename_i l ty hm
   obtain⟨γ,hγ,hent⟩: ∃β,B b=some β∧iK (aT C.A0 B S.mem) B w _ w.heap[β]? :=(H.mem b _ hm).resolve_right (λh=>h.2);rw[hβ]at hγ;cases hγ
   split at h
   ·rename_i v hpart
    cases h;generalize uG:w.heap[β]? =ob at hent;cases hent with
    | cells _ _ cs hsz qB=>
      obtain⟨u,hrun,hrel⟩:=Es (P:=P) (l:=l) uG ⟨by simpa using hsz,λj hj=>by simpa[oQ,dR]using qB j hj⟩ hpart;exact⟨rfl,_,u,hxe,hrun,hrel⟩
   ·cases h
  ·cases h
 ·rename_i b k j sz
  split at h
  ·rename_i n sz' el ty hm
   cases hb:Nat.beq sz sz' with
   | false=>simp[hb]at h
   | true=>
     simp only[hb,cond_true]at h;obtain rfl:sz=sz':=by simpa using hb
     split at h
     ·rename_i v hpart
      cases h;have hk:=dec (hc (decide (k<n)) (by simp));cases hx with
      | kI _ _ _ _ β hβ=>
        rcases H.mem b _ hm with⟨γ,hγ,hent⟩|⟨hno,_⟩
        ·rw[hβ]at hγ
         cases hγ;obtain⟨cs,hcs,hsz,hsl⟩:=Hq hent;rcases hsl n (Nat.le_refl _)with⟨b',off',he,_,hl,hall⟩
         ·simp only[fK,Addr.mk.injEq,and_true]at he
          obtain⟨rfl,rfl⟩:=he;obtain⟨u,hrun,hrel⟩:=pz (P:=P) (B:=B) (b:=β) (off:=k*sz) (l:=el k) (λi hi=>by
           have hi':i<sz:=by rw[hl k hk]at hi;exact hi
           have:=hall k i hk hi';simp only[Nat.zero_add]at this;exact⟨this.1,this.2.2⟩) hpart
          exact⟨rfl,_,u,rfl,hrun,hrel⟩
        ·rw[hβ]at hno;cases hno
     ·cases h
  ·cases h
 ·rename_i l
  split at h
  ·rename_i v hpart
   cases h;cases hx with
   | gq _ b off hA hb hall=>
     obtain⟨u,hrun,hrel⟩:=pz (P:=P) (B:=B) (b:=b) (off:=off) (j:=0) hall hpart;exact⟨rfl,_,u,rfl,hrun,hrel⟩
  ·cases h
 ·rename_i ad
  split at h
  ·rename_i fs hz hu
   cases h;have hi:=wY (w:=w) hu;have ha:Bq P t=true:=by unfold Bq;rw[hu]
   rw[ha]at hi;refine⟨rfl,ad,.agg #[],hx.plain,?_,aV.tH .nil⟩;simp[loadVar,Sem.run_bind,hi,gN hz,loadCells,loadCellsFrom]
  ·cases h
 ·cases h
theorem ZY(H:Holds C B S a w){t:TypeId}{x:Operand}(hop:o.op= .load t x)
  (h:FV P S.mem t (cZ S.tm x)=some r) (hc: ∀p∈r.conds,p) (hK:Cont C B slot (S.apply o.dst r) K):o.uI P a w K Q:=by
 obtain⟨hu,ad,v,hxe,hrun,hrel⟩:=Md H (bP H x) h hc;exact dV H hK (v:=v) (by simp[execOp,hop,Instr.loadAt,hxe,Instr.sureAddr,hrun]) hrel hu
theorem qH: ∀{l:List AV} {c:List IV},l.mapM Ql=some c→l=Qk c
 | [],c,h=>by simp at h;subst h;rfl
 | x::l,c,h=>by
   simp only[List.mapM_cons,Option.bind_eq_bind,Option.pure_def]at h;cases x with
   | c i=>
     cases hl:l.mapM Ql with
     | none=>simp[Ql,hl]at h
     | some d=>simp[Ql,hl]at h;subst h;rw[qH hl];rfl
   | _=>simp[Ql]at h
theorem yT{A:Nat→Prop}{c:List IV}{cs:List Value}(h:eF A B w (Qk c) cs):cs.length=c.length∧ ∀j,j<c.length→jG A w (c.getD j (.v undef)) (cs.getD j undef):=by
 refine⟨by simpa[Qk]using h.1,λj hj=> ?_⟩;have:=h.2 j (by simpa[Qk]using hj);simp only[Qk,dR,List.getElem?_map,List.getElem?_eq_getElem hj,Option.map_some,Option.getD_some]at this⊢;cases this with
 | c _ _ h=>exact h
theorem Uc(H:Holds C B S a w){t:TypeId}{x y:Operand}(hop:o.op= .store t x y)
  (h:Ee P S.mem t (cZ S.tm x) (cZ S.tm y)=some r) (hc: ∀p∈r.conds,p) (hK:Cont C B slot (S.apply o.dst r) K):o.uI P a w K Q:=by
 have hx:=bP H x;have hy:=bP H y;have fin: ∀(ad:Addr) (w':World),a.eval x= .pointer (some ad)→(storeVar t ad (a.eval y)).run P w= .ok () w'→r.val= .c (.v undef)→Holds C B {S with mem:=dA S.mem r.upd} a w'→o.uI P a w K Q:=by
  intro ad w' hxe hrun hv H';unfold Oper.uI;rw[show(execOp a.eval o).run P w= .ok .skip w' by simp[execOp,hop,Instr.storeAt,hxe,Instr.sureAddr,hrun]];exact hK _ _ B (H'.put o.dst (by rw[hv];exact aV.lit _)) (λ_ _=>rfl)
 unfold Ee at h
 split at h
 ·rename_i b off Bz
  rw[Bz]at hx;obtain⟨β,hβ,hxe⟩:=hx.mQ
  split at h
  ·rename_i l ty n hm hsz
   obtain⟨γ,hγ,hent⟩: ∃β,B b=some β∧iK (aT C.A0 B S.mem) B w _ w.heap[β]? :=(H.mem b _ hm).resolve_right (λh=>h.2);rw[hβ]at hγ;cases hγ;dsimp only at h;cases hb:(Nat.beq (jP (cZ S.tm y)).length n&&Nat.ble (off+n) l.length&&(jP (cZ S.tm y)).all jo)with
   | false=>rw[hb]at h;cases h
   | true=>
     rw[hb]at h;simp only[cond_true,fK]at h;subst h;simp only[cu,Nat.beq_eq,Nat.ble_eq]at hb;obtain⟨⟨hn,hle⟩,hok⟩:=hb;have hcells:=zN hy (.inl hok);generalize uG:w.heap[β]? =ob at hent;cases hent with
     | cells _ _ cs hcs qB=>
       have ac5:eF (aT C.A0 B S.mem) B w l cs.toList:=⟨by simpa using hcs,λj hj=>by simpa[oQ,dR]using qB j hj⟩
       have hvn:(a.eval y).cells.size=n:=by have:=hcells.1;simpa[hn]using this
       have hrun:=uQ (P:=P) (w:=w) (t:=t) hsz uG (off:=off) hvn (by omega) (sw hcells hok);have hnew:eF (aT C.A0 B S.mem) B w (l.take off++jP (cZ S.tm y)++l.drop (off+n)) (cs.toList.take off++(a.eval y).cells.toList++cs.toList.drop (off+n)):=((ac5.take off).append hcells).append (ac5.drop (off+n));exact fin _ _ hxe hrun rfl (H.setRow hm hβ uG (by simp;omega) (.cells _ _ _ (by simpa using hnew.1) λj hj=>by simpa[oQ,dR]using hnew.2 j hj))
  ·cases h
 ·rename_i b k j sz Bz
  rw[Bz]at hx
  split at h
  ·rename_i n sz' el ty p hm hsz
   split at h
   ·rename_i c hcm
    cases hb:(Nat.beq sz sz'&&Nat.beq c.length p&&Nat.ble (j+p) sz&&(jP (cZ S.tm y)).all jo)with
    | false=>rw[hb]at h;cases h
    | true=>
      rw[hb]at h;simp only[cond_true,fK]at h;subst h;simp only[cu,Nat.beq_eq,Nat.ble_eq]at hb;obtain⟨⟨⟨rfl,hcp⟩,hjp⟩,hok⟩:=hb;have hk:=dec (hc (decide (k<n)) (by simp));generalize pq:a.eval x=vx at hx;cases hx with
      | kI _ _ _ _ β hβ=>
        rcases H.mem b _ hm with⟨γ,hγ,hent⟩|⟨hno,_⟩
        ·rw[hβ]at hγ
         cases hγ;generalize uG:w.heap[β]? =ob at hent;cases hent with
         | arr _ _ _ _ cs hcs hlen qB=>
           have hcells:=zN hy (.inl hok);rw[qH hcm]at hcells;obtain⟨hcl,hcr⟩:=yT hcells;have hvn:(a.eval y).cells.size=p:=by simpa[hcp]using hcl
           have hlt:k*sz+(j+p)≤n*sz:=by
            calc k*sz+(j+p)≤k*sz+sz:=by omega
             _=(k+1)*sz:=by rw[Nat.add_mul,Nat.one_mul]
             _≤n*sz:=Nat.mul_le_mul_right _ hk
           have h1: ∀x∈(a.eval y).cells.toList,x.oneCell'=true:=by
            rw[qH hcm]at hok;exact sw hcells hok
           have hrun:=uQ (P:=P) (w:=w) (t:=t) hsz uG (off:=k*sz+j) hvn (by omega) h1;refine fin _ _ pq hrun rfl (H.setRow hm hβ uG (by simp;omega) (.arr n sz _ ty _ (by simp;omega) (λi hi=> ?_) λi q hi hq=> ?_))
           ·unfold aP
            split
            ·rename_i hik;subst hik;simp[hlen i hi];omega
            ·exact hlen i hi
           ·have hil:=hlen i hi
            have hq2:i*sz+q<cs.size:=Nat.lt_of_lt_of_le (jQ hi hq) hcs
            have hcell:((cs.toList.take (k*sz+j)++(a.eval y).cells.toList++cs.toList.drop (k*sz+j+p)).toArray).getD (i*sz+q) undef=
              if k*sz+j≤i*sz+q∧i*sz+q<k*sz+j+p then(a.eval y).cells.toList.getD (i*sz+q-(k*sz+j)) undef else cs.getD (i*sz+q) undef:=by
             simp only[oQ,List.getElem?_toArray,dR,List.append_assoc];have htl:(cs.toList.take (k*sz+j)).length=k*sz+j:=by simp;omega
             have hvl:(a.eval y).cells.toList.length=p:=by simpa using hvn
             by_cases ha1:i*sz+q<k*sz+j
             ·rw[List.getElem?_append_left (by omega),List.getElem?_take,if_pos ha1,if_neg (by omega)]
              simp
             ·rw[List.getElem?_append_right (by omega),htl]
              by_cases ha2:i*sz+q<k*sz+j+p
              ·rw[List.getElem?_append_left (by omega),if_pos ⟨by omega,ha2⟩]
              ·rw[List.getElem?_append_right (by omega),hvl,List.getElem?_drop,if_neg (by omega)]
               rw[show k*sz+j+p+(i*sz+q-(k*sz+j)-p)=i*sz+q by omega];simp
            rw[hcell];by_cases hik:i=k
            ·subst hik
             simp only[aP,if_true];by_cases hin:i*sz+j≤i*sz+q∧i*sz+q<i*sz+j+p
             ·rw[if_pos hin]
              have hqj:q-j<c.length:=by omega
              have e1:i*sz+q-(i*sz+j)=q-j:=by omega
              rw[e1];have e2:((el i).take j++c++(el i).drop (j+c.length)).getD q (.v undef)=c.getD (q-j) (.v undef):=by
               have htl:((el i).take j).length=j:=by simp;omega
               rw[dR,List.append_assoc,List.getElem?_append_right (by omega),htl,List.getElem?_append_left hqj, ←dR]
              rw[e2];refine⟨h1 _ ?_,hcr _ hqj⟩;have hlt2:q-j<(a.eval y).cells.toList.length:=by omega
              rw[dR,List.getElem?_eq_getElem hlt2];exact List.getElem_mem hlt2
             ·rw[if_neg hin]
              have e2:((el i).take j++c++(el i).drop (j+c.length)).getD q (.v undef)=(el i).getD q (.v undef):=by
               have htl:((el i).take j).length=j:=by simp;omega
               simp only[dR,List.append_assoc];by_cases hqj:q<j
               ·rw[List.getElem?_append_left (by omega),List.getElem?_take,if_pos hqj]
               ·rw[List.getElem?_append_right (by omega),htl,List.getElem?_append_right (by omega),List.getElem?_drop]
                rw[show j+c.length+(q-j-c.length)=q by omega]
              rw[e2];exact qB i q hi hq
            ·simp only[aP,hik,if_false]
             have hout: ¬(k*sz+j≤i*sz+q∧i*sz+q<k*sz+j+p):=by
              rintro⟨h2,h3⟩;rcases Nat.lt_or_gt_of_ne hik with hlt'|avs
              ·have:(i+1)*sz≤k*sz:=Nat.mul_le_mul_right _ hlt'
               rw[Nat.add_mul,Nat.one_mul]at this;omega
              ·have:(k+1)*sz≤i*sz:=Nat.mul_le_mul_right _ avs
               rw[Nat.add_mul,Nat.one_mul]at this;omega
             rw[if_neg hout];exact qB i q hi hq
        ·rw[hβ]at hno;cases hno
   ·cases h
  ·cases h
 ·cases h
theorem Jc(H:Holds C B S a w){t:TypeId}{x:Operand}{f:Nat}(hop:o.op= .fieldAddr t x f)
  (h:Br P t (cZ S.tm x) f=some r) (hK:Cont C B slot (S.apply o.dst r) K):o.uI P a w K Q:=by
 have hx:=bP H x;unfold Br at h
 split at h
 ·rename_i fs hu
  split at h
  ·rename_i fl hfl
   split at h
   ·rename_i m hsz
    have fin: ∀(β off:Nat),a.eval x= .pointer (some ⟨β,off,none⟩)→(execOp a.eval o).run P w= .ok (.value (.pointer (some ⟨β,off+fl.offset,none⟩))) w:=by
     intro β off hxe;simp[execOp,hop,Instr.fieldAt,run_underlying hu,hfl,hxe,Instr.sureAddr,fieldPlace,gN hsz,jL]
    split at h
    ·rename_i b off Bz
     cases h;rw[Bz]at hx;obtain⟨β,hβ,hxe⟩:=hx.mQ;exact dV H hK (fin β off hxe) (.ptr _ _ _ hβ) rfl
    ·rename_i b k j sz Bz
     cases h;rw[Bz]at hx;generalize pq:a.eval x=vx at hx;cases hx with
     | kI _ _ _ _ β hβ=>
       refine dV H hK (fin β _ pq) ?_ rfl;rw[Nat.add_assoc];exact .kI b k _ sz β hβ
    ·rename_i l Bz
     rw[Bz]at hx;cases hb:Nat.blt fl.offset l.length with
     | false=>simp[hb]at h
     | true=>
       simp only[hb,cond_true,fK]at h;subst h;generalize pq:a.eval x=vx at hx;cases hx with
       | gq _ b off hA hbw hall=>
         refine dV H hK (fin b off pq) (.gq _ b _ hA hbw λj hj=> ?_) rfl;have hj':fl.offset+j<l.length:=by simp at hj;omega
         have:=hall (fl.offset+j) hj';rw[Nat.add_assoc];have e:(l.drop fl.offset).getD j (.v undef)=l.getD (fl.offset+j) (.v undef):=by simp[dR,List.getElem?_drop]
         rw[e];exact this
    ·cases h
   ·cases h
  ·cases h
 ·cases h
end
end Go.bI
namespace Go.bI
open Go.RowKit
section
variable{P:Program}{C:Ctx}{B:eB}{S:St}{a:Act}{w:World}{o:Oper}{r:Eff}{slot:Nat}
 {K:Act→World→Prop} {Q:Exit→Act→World→Prop}
theorem N9(s:ByteArray)(l h:Nat)(hl:l≤h)(hh:h≤s.data.toList.length):s.extract l h=⟨⟨(s.data.toList.take h).drop l⟩⟩:=by
 apply ByteArray.ext
 rw[ByteArray.data_extract]
 apply Array.ext'
 rw[Array.toList_extract,List.extract_eq_take_drop, ←List.drop_take]
theorem jd{k:IntKind}{i:Int}{y:Nat}{c:BoundsCode}(h0:0≤i)(h1:i≤(y:Int)):(Instr.sliceBound (.int k i) y c).run P w= .ok i.toNat w:=by
 simp[Instr.sliceBound,asIntOf,h0,h1]
theorem Ud(H:Holds C B S a w)(hC:C.Ok){t:TypeId}{x:Operand}{lo hi mx:Option Operand}(hop:o.op= .slice t x lo hi mx)(hmx:mx=none)
  (h:Ej P S.mem t (cZ S.tm x) (lo.map (cZ S.tm)) (hi.map (cZ S.tm))=some r) (hc: ∀p∈r.conds,p) (hK:Cont C B slot (S.apply o.dst r) K):o.uI P a w K Q:=by
 subst hmx;have hx:=bP H x;have FZ: ∀v w',(Instr.sliceAt t (a.eval x) (lo.map a.eval) (hi.map a.eval) none).run P w= .ok v w'→(execOp a.eval o).run P w= .ok (.value v) w':=by
  intro v w' hr;simp[execOp,hop,hr]
 have hlo: ∀{k:IntKind} {i:Int},lo.map (cZ S.tm)=some (.c (.v (.int k i)))→lo.map a.eval=some (.int k i):=by
  intro k i hl;cases lo with
  | none=>cases hl
  | some z=>
    simp only[Option.map_some,fK]at hl⊢;have:=bP H z;rw[hl]at this;exact this.plain
 have hlo0:lo.map (cZ S.tm)=none→lo.map a.eval=none:=by intro hl;cases lo with|none=>rfl|some z=>cases hl
 have hhi: ∀{k:IntKind} {i:Int},hi.map (cZ S.tm)=some (.c (.v (.int k i)))→hi.map a.eval=some (.int k i):=by
  intro k i hl;cases hi with
  | none=>cases hl
  | some z=>
    simp only[Option.map_some,fK]at hl⊢;have:=bP H z;rw[hl]at this;exact this.plain
 have hhi0:hi.map (cZ S.tm)=none→hi.map a.eval=none:=by intro hl;cases hi with|none=>rfl|some z=>cases hl
 unfold Ej at h
 split at h
 ·
  rename_i s hu hxe;rw[hxe]at hx;have hxv:=hx.plain;have hsz:s.size=s.data.toList.length:=by simp
  have fin: ∀l h':Nat,l≤h'→h'≤s.data.toList.length→(Instr.sliceBounds false s.size s.size (lo.map a.eval) (hi.map a.eval) none).run P w= .ok (l,h',s.size) w→
    (execOp a.eval o).run P w= .ok (.value (.string ⟨⟨(s.data.toList.take h').drop l⟩⟩)) w:=by
   intro l h' h1 h2 hb
   apply FZ
   simp only[Instr.sliceAt,Sem.run_bind,run_underlying hu,Result.andThen_ok,Instr.slice,hxv];simp[hb,N9 s l h' h1 h2]
  split at h
  ·rename_i hl hh
   cases h;have:=fin 0 s.data.toList.length (Nat.zero_le _) (Nat.le_refl _) (by simp only[Instr.sliceBounds,hlo0 hl,hhi0 hh,hsz];rfl);refine dV H hK (v:= .string s) ?_ (aV.lit _) rfl;rw[this];simp only[List.take_length,List.drop_zero]
  ·rename_i k l hl hh
   cases h;have hb:=dec (hc (decide (0≤l∧l≤(s.data.toList.length:Int))) (by simp));have:=fin l.toNat s.data.toList.length (by omega) (Nat.le_refl _) (by
    simp only[Instr.sliceBounds,hlo hl,hhi0 hh,Sem.run_bind,Sem.run_pure,Result.andThen_ok,hsz];rw[jd hb.1 hb.2];rfl)
   refine dV H hK this ?_ rfl;simp only[List.take_length];exact aV.lit _
  ·rename_i k h' hl hh
   cases h;have hb:=dec (hc (decide (0≤h'∧h'≤(s.data.toList.length:Int))) (by simp));have:=fin 0 h'.toNat (Nat.zero_le _) (by omega) (by
    simp only[Instr.sliceBounds,hlo0 hl,hhi hh,Sem.run_bind,Sem.run_pure,Result.andThen_ok,hsz];rw[jd hb.1 hb.2];rfl)
   refine dV H hK this ?_ rfl;exact aV.lit _
  ·rename_i k l k' h' hl hh
   cases h;have hb:=dec (hc (decide (0≤l∧l≤h'∧h'≤(s.data.toList.length:Int))) (by simp));have:=fin l.toNat h'.toNat (by omega) (by omega) (by
    simp only[Instr.sliceBounds,hlo hl,hhi hh,Sem.run_bind,Sem.run_pure,Result.andThen_ok,hsz];rw[jd (by omega) hb.2.2];simp only[Result.andThen_ok];rw[jd hb.1 (by omega)];rfl)
   exact dV H hK this (aV.lit _) rfl
  ·cases h
 ·
  rename_i e b n sz hu hxe;rw[hxe]at hx
  split at h
  ·rename_i p k h' hp hl hh
   cases h;have hb:=dec (hc (decide (0≤h'∧h'≤(n:Int))) (by simp));have fin: ∀(ad:Option Addr) (cap:Nat),a.eval x= .slice ad n cap→n≤cap→(ad=none∨ ∃β,ad=some ⟨β,0,none⟩)→(execOp a.eval o).run P w= .ok (.value (.slice ad h'.toNat cap)) w:=by
    intro ad cap pq hn had
    apply FZ
    simp only[Instr.sliceAt,Sem.run_bind,run_underlying hu,Result.andThen_ok,Instr.slice,pq,Instr.sliceBounds,hlo0 hl,hhi hh,Sem.run_pure,if_true];rw[jd (y:=cap) hb.1 (by omega)];simp only[Result.andThen_ok,Sem.run_pure,gN hp,Nat.sub_zero];rcases had with rfl|⟨β,rfl⟩
    ·simp
    ·by_cases hc0:cap=0
     ·simp[hc0]
     ·simp[hc0,jL]
   generalize pq:a.eval x=vx at hx;cases hx with
   | iP _ _ _ cap β hβ hn hm hcc=>
     exact dV H hK (fin _ cap pq hn (.inr ⟨β,rfl⟩)) (.iP b h'.toNat sz cap β hβ (by omega) hm hcc) rfl
   | uH=>
     have:=fin none 0 pq (Nat.le_refl _) (.inl rfl);have hz:h'.toNat=0:=by omega
     rw[hz]at this;refine dV H hK this ?_ rfl;simp only[hz];exact .uH b sz
  ·rename_i p k l hp hl hh
   cases hps:Nat.beq p sz with
   | false=>simp[hps]at h
   | true=>
     obtain rfl:p=sz:=by simpa using hps
     cases hln:Nat.beq l.toNat n with
     | true=>
       simp only[hps,hln,cond_true,fK]at h;subst h;have hb:=dec (hc (decide (0≤l)) (by simp));have hl':l.toNat=n:=by simpa using hln
       have key: ∀(ad:Option Addr) (cap:Nat),a.eval x= .slice ad n cap→ ∃v,(execOp a.eval o).run P w= .ok (.value v) w:=λad cap pq=>by
        refine⟨.slice (if cap=l.toNat then ad else ad.map (·.add (l.toNat*p))) (n-l.toNat) (cap-l.toNat),?_⟩
        apply FZ
        simp only[Instr.sliceAt,Sem.run_bind,run_underlying hu,Result.andThen_ok,Instr.slice,pq,Instr.sliceBounds,hlo hl,hhi0 hh,Sem.run_pure];rw[jd (y:=n) hb (by omega)];simp only[Result.andThen_ok,Sem.run_pure,gN hp]
       generalize pq:a.eval x=vx at hx;cases hx with
       | uH=>
         obtain⟨v,hv⟩:=key _ _ pq;exact dV H hK hv (.any v) rfl
       | iP _ _ _ cap β hβ hn hm hcc=>
         obtain⟨v,hv⟩:=key _ _ pq;exact dV H hK hv (.any v) rfl
     | false=>
     simp only[hps,hln,cond_true,cond_false,fK]at h;subst h;have hb:=dec (hc (decide (0≤l∧l<(n:Int))) (by simp));generalize pq:a.eval x=vx at hx;cases hx with
     | uH=>omega
     | iP _ _ _ cap β hβ hn hm hcc=>
       have hcl:cap≠l.toNat:=by omega
       have hrun:(execOp a.eval o).run P w= .ok (.value (.slice (some ⟨β,l.toNat*p,none⟩) (n-l.toNat) (cap-l.toNat))) w:=by
        apply FZ
        simp only[Instr.sliceAt,Sem.run_bind,run_underlying hu,Result.andThen_ok,Instr.slice,pq,Instr.sliceBounds,hlo hl,hhi0 hh,Sem.run_pure];rw[jd (y:=n) hb.1 (by omega)];simp only[Result.andThen_ok,Sem.run_pure,gN hp];simp[hcl,jL]
       obtain⟨Cc,tt,fz,hcell,hsize⟩:=hcc;refine dV H hK hrun (.IL b l.toNat (n-l.toNat) p (cap-l.toNat) β hβ (by omega) (by omega) ⟨Cc,tt,fz,hcell,?_⟩) rfl;rw[hsize,show l.toNat+(n-l.toNat)=n by omega];exact Nat.mul_le_mul_right _ hn
  ·cases h
 ·
  rename_i e n sz el hu hxe;rw[hxe]at hx
  split at h
  ·rename_i p hp
   cases hps:Nat.beq p sz with
   | false=>simp[hps]at h
   | true=>
     simp only[hps,cond_true]at h;obtain rfl:p=sz:=by simpa using hps
     have shift: ∀(ad:Option Addr) (cap l m:Nat),jG (aT C.A0 B S.mem) w (.sl n p el) (.slice ad n cap)→l+m≤n→ ∀(ad':Option Addr),ad'=(if cap=l then ad else ad.map (·.add (l*p)))→
       jG (aT C.A0 B S.mem) w (.sl m p λk=>el (k+l)) (.slice ad' m (cap-l)):=by
      intro ad cap l m hr hlm ad' had;cases hr with
      | nil=>
        obtain⟨rfl,rfl⟩:l=0∧m=0:=by omega
        simp at had;subst had;exact .nil _ _
      | zero=>
        obtain⟨rfl,rfl⟩:l=0∧m=0:=by omega
        simp at had;subst had;exact .zero _ _ _
      | sl _ _ _ b off _ hA hbw hn hl hs hh=>
        by_cases hcl:cap=l
        ·have hm0:m=0:=by omega
         subst hm0;rw[if_pos hcl]at had;subst had;exact .sl 0 p _ b off _ hA hbw (Nat.zero_le _) (λk hk=>by omega) (λk j hk=>by omega) (λk j hk=>by omega)
        ·rw[if_neg hcl]at had
         simp only[Option.map_some,jL]at had;subst had;refine .sl m p _ b (off+l*p) _ hA hbw (by omega) (λk hk=>hl _ (by omega)) (λk j hk hj=> ?_) (λk j hk hj=> ?_)
         ·have:=hs (k+l) j (by omega) hj
          rw[show off+l*p+(k*p+j)=off+((k+l)*p+j)by rw[Nat.add_mul];omega];exact this
         ·have:=hh (k+l) j (by omega) hj
          rw[show off+l*p+(k*p+j)=off+((k+l)*p+j)by rw[Nat.add_mul];omega];exact this
     have form: ∃ad cap,a.eval x= .slice ad n cap∧n≤cap∧jG (aT C.A0 B S.mem) w (.sl n p el) (.slice ad n cap):=by
      generalize a.eval x=vx at hx;cases hx with
      | c _ _ hi=>
        cases hi with
        | nil=>exact⟨none,0,rfl,Nat.le_refl _,.nil _ _⟩
        | zero=>exact⟨_,0,rfl,Nat.le_refl _,.zero _ _ _⟩
        | sl _ _ _ b off cap hA hb hn hl hs hh=>exact⟨_,cap,rfl,hn,.sl _ _ _ b off cap hA hb hn hl hs hh⟩
     obtain⟨ad,cap,pq,hn,hir⟩:=form
     have fin: ∀l m:Nat,l+m≤n→(Instr.sliceBounds true n cap (lo.map a.eval) (hi.map a.eval) none).run P w= .ok (l,l+m,cap) w→
       (execOp a.eval o).run P w= .ok (.value (.slice (if cap=l then ad else ad.map (·.add (l*p))) m (cap-l))) w:=by
      intro l m hlm hb
      apply FZ
      simp only[Instr.sliceAt,Sem.run_bind,run_underlying hu,Result.andThen_ok,Instr.slice,pq,hb,gN hp,Sem.run_pure];rw[show l+m-l=m by omega]
     split at h
     ·rename_i k h' hl hh
      cases h;have hb:=dec (hc (decide (0≤h'∧h'≤(n:Int))) (by simp));have:=fin 0 h'.toNat (by omega) (by
       simp only[Instr.sliceBounds,hlo0 hl,hhi hh,Sem.run_bind,Sem.run_pure,Result.andThen_ok,if_true];rw[jd hb.1 (by omega)];simp)
      exact dV H hK this (.c _ _ (shift ad cap 0 h'.toNat hir (by omega) _ rfl)) rfl
     ·rename_i k l hl hh
      cases h;have hb:=dec (hc (decide (0≤l∧l≤(n:Int))) (by simp));have:=fin l.toNat (n-l.toNat) (by omega) (by
       simp only[Instr.sliceBounds,hlo hl,hhi0 hh,Sem.run_bind,Sem.run_pure,Result.andThen_ok];rw[jd hb.1 hb.2];simp only[Result.andThen_ok];rw[show l.toNat+(n-l.toNat)=n by omega])
      exact dV H hK this (.c _ _ (shift ad cap l.toNat _ hir (by omega) _ rfl)) rfl
     ·rename_i k l k' h' hl hh
      cases h;have hb:=dec (hc (decide (0≤l∧l≤h'∧h'≤(n:Int))) (by simp));have:=fin l.toNat (h'.toNat-l.toNat) (by omega) (by
       simp only[Instr.sliceBounds,hlo hl,hhi hh,Sem.run_bind,Sem.run_pure,Result.andThen_ok,if_true];rw[jd (by omega) (by omega)];simp only[Result.andThen_ok];rw[jd hb.1 (by omega)];simp only[Result.andThen_ok];rw[show l.toNat+(h'.toNat-l.toNat)=h'.toNat by omega])
      exact dV H hK this (.c _ _ (shift ad cap l.toNat _ hir (by omega) _ rfl)) rfl
     ·cases h
  ·cases h
 ·
  rename_i e hu hxe;rw[hxe]at hx;have hxv:=hx.plain
  split at h
  ·rename_i _ _ _ _ k h' hp hl hh
   cases h;have hb:=dec (hc (decide (0≤h'∧h'≤0)) (by simp));obtain rfl:h'=0:=by omega
   refine dV H hK (v:= .slice none 0 0) (FZ _ _ ?_) (aV.lit _) rfl;simp only[Instr.sliceAt,Sem.run_bind,run_underlying hu,Result.andThen_ok,Instr.slice,hxv,Instr.sliceBounds,hlo0 hl,hhi hh,Sem.run_pure,if_true];rw[jd (y:=0) (by omega) (by omega)];simp[gN hp]
  ·cases h
 ·
  rename_i n e b sz hu hxe;rw[hxe]at hx
  split at h
  ·rename_i p n' sz' el ty k h' hp hm hl hh
   cases hb0:(Nat.beq sz p&&Nat.beq sz' p&&Nat.beq n n'&& !Nat.beq n 0)with
   | false=>rw[hb0]at h;cases h
   | true=>
     rw[hb0]at h;simp only[cond_true,fK]at h;subst h;simp only[cu,Nat.beq_eq,Bool.not_eq_true']at hb0;obtain⟨⟨⟨rfl,rfl⟩,rfl⟩,hn0⟩:=hb0;have hne:n≠0:=by rintro rfl;cases hn0
     have hb:=dec (hc (decide (0≤h'∧h'≤(n:Int))) (by simp));generalize pq:a.eval x=vx at hx;cases hx with
     | kI _ _ _ _ β hβ=>
       rcases H.mem b _ hm with⟨γ,hγ,hent⟩|⟨hno,_⟩
       ·rw[hβ]at hγ
        cases hγ;obtain⟨cs,hcs,hsz,hsl⟩:=Hq hent;have hd:=H.drop b;have hA: ∀i,i<w.heap.size→aT C.A0 B (S.mem.set b none) i→aT C.A0 B S.mem i:=by
         intro i _ h;rcases h with h|⟨j,e2,h1,h2⟩
         ·exact .inl h
         ·rw[bR]at h1
          by_cases hj:j=b
          ·simp[hj]at h1
          ·simp only[hj,if_false]at h1;exact .inr ⟨j,e2,h1,h2⟩
        have hnot: ¬aT C.A0 B (S.mem.set b none) β:=by
         rintro(h|⟨j,e2,h1,h2⟩)
         ·rcases(H.old b β hβ).1 with h3|h3
          ·exact absurd (hC.a0 β h) (Nat.not_lt.2 h3)
          ·exact hC.Lh β h h3
         ·rw[bR]at h1
          by_cases hj:j=b
          ·simp[hj]at h1
          ·simp only[hj,if_false]at h1
           exact hj (H.inj j b _ _ β h1 hm h2 hβ)
        refine kV hK (B':=B) (v:= .slice (some ⟨β,0*sz'+0,none⟩) h'.toNat n) (w':=w) ?_ hd ?_ (λ_ _=>rfl)
        ·apply FZ
         simp only[Instr.sliceAt,Sem.run_bind,run_underlying hu,Result.andThen_ok,pq,Instr.sureAddr,Sem.run_pure,Instr.sliceBounds,hlo0 hl,hhi hh];rw[jd (y:=n) hb.1 (by omega)];simp[gN hp,hne,jL]
        ·rcases hsl h'.toNat (by omega)with⟨b',off',he,hbw,hl2,hall⟩
         ·simp only[fK,Addr.mk.injEq,and_true]at he
          obtain⟨rfl,rfl⟩:=he;refine .c _ _ (.sl _ _ _ β (0*sz'+0) n hnot (lt_of_heap hcs) (by omega) hl2 (λk j hk hj=> ?_) (λk j hk hj=> ?_))
          ·have:=hall k j hk hj
           simp only[Nat.zero_mul,Nat.zero_add]at this⊢;exact⟨this.1,this.2.1⟩
          ·have:=(hall k j hk hj).2.2.trans (Trans.refl _ _) hA
           simp only[Nat.zero_mul,Nat.zero_add]at this⊢;exact this
       ·rw[hβ]at hno;cases hno
  ·cases h
 ·
  rename_i n e b hu hxe;rw[hxe]at hx;obtain⟨β,hβ,pq⟩:=hx.mQ
  split at h
  ·rename_i p l ty k h' hp hm hl hh
   split at h
   ·rename_i c hcm
    cases hb0:(Nat.beq l.length (n*p)&& !Nat.beq n 0&&l.all jo)with
    | false=>rw[hb0]at h;cases h
    | true=>
      rw[hb0]at h;simp only[cond_true,fK]at h;subst h;simp only[cu,Nat.beq_eq,Bool.not_eq_true']at hb0;obtain⟨⟨hlen,hn0⟩,hok⟩:=hb0;have hne:n≠0:=by rintro rfl;cases hn0
      have hb:=dec (hc (decide (0≤h'∧h'≤(n:Int))) (by simp));rcases H.mem b _ hm with⟨γ,hγ,hent⟩|⟨_,hno⟩
      ·rw[hβ]at hγ
       cases hγ;have hd:=H.drop b;have hA: ∀i,i<w.heap.size→aT C.A0 B (S.mem.set b none) i→aT C.A0 B S.mem i:=by
        intro i _ h;rcases h with h|⟨j,e2,h1,h2⟩
        ·exact .inl h
        ·rw[bR]at h1
         by_cases hj:j=b
         ·simp[hj]at h1
         ·simp only[hj,if_false]at h1;exact .inr ⟨j,e2,h1,h2⟩
       have hnot: ¬aT C.A0 B (S.mem.set b none) β:=by
        rintro(h|⟨j,e2,h1,h2⟩)
        ·rcases(H.old b β hβ).1 with h3|h3
         ·exact absurd (hC.a0 β h) (Nat.not_lt.2 h3)
         ·exact hC.Lh β h h3
        ·rw[bR]at h1
         by_cases hj:j=b
         ·simp[hj]at h1
         ·simp only[hj,if_false]at h1
          exact hj (H.inj j b _ _ β h1 hm h2 hβ)
       generalize uG:w.heap[β]? =ob at hent;cases hent with
       | cells _ _ cs hcs qB=>
         have hr:eF (aT C.A0 B S.mem) B w l cs.toList:=⟨by simpa using hcs,λj hj=>by simpa[oQ,dR]using qB j hj⟩
         have h1:=sw hr hok;rw[qH hcm]at hr;obtain⟨hcl,hcr⟩:=yT hr;have hcn:c.length=n*p:=by
          have:=hlen;rw[qH hcm]at this;simpa[Qk]using this
         have hcsz:cs.size=n*p:=by simpa[hcn]using hcl
         refine kV hK (B':=B) (v:= .slice (some ⟨β,0,none⟩) h'.toNat n) (w':=w) ?_ hd ?_ (λ_ _=>rfl)
         ·apply FZ
          simp only[Instr.sliceAt,Sem.run_bind,run_underlying hu,Result.andThen_ok,pq,Instr.sureAddr,Sem.run_pure,Instr.sliceBounds,hlo0 hl,hhi hh];rw[jd (y:=n) hb.1 (by omega)];simp[gN hp,hne,jL]
         ·refine .c _ _ (.sl _ _ _ β 0 n hnot (lt_of_heap uG) (by omega) (λk hk=> ?_) (λk j hk hj=> ?_) (λk j hk hj=> ?_))
          ·have:k*p+p≤n*p:=by
            calc k*p+p=(k+1)*p:=by rw[Nat.add_mul,Nat.one_mul]
             _≤n*p:=Nat.mul_le_mul_right _ (by omega)
           simp;omega
          ·have hlt:k*p+j<n*p:=jQ (by omega) hj
           rw[Nat.zero_add,Et uG];refine⟨Qt uG (by omega),h1 _ ?_⟩;rw[oQ,Array.getElem?_eq_getElem (show k*p+j<cs.size by omega)];simp
          ·have hlt:k*p+j<n*p:=jQ (by omega) hj
           have:=(hcr (k*p+j) (by omega)).trans (Trans.refl _ _) hA;rw[Nat.zero_add,Et uG];have e1:((c.drop (k*p)).take p).getD j (.v undef)=c.getD (k*p+j) (.v undef):=by
            simp[dR,List.getElem?_take,hj,List.getElem?_drop]
           rw[e1];have e2:cs.toList.getD (k*p+j) undef=cs.getD (k*p+j) undef:=by simp[oQ,dR]
           rw[e2]at this;exact this
      ·exact hno.elim
   ·cases h
  ·cases h
 ·cases h
end
end Go.bI
namespace Go.bI
open Go.RowKit
section
variable{P:Program}{C:Ctx}{B:eB}{S:St}{a:Act}{w:World}{o:Oper}{r:Eff}{slot:Nat}
 {K:Act→World→Prop} {Q:Exit→Act→World→Prop}
structure ac6 (P:Program) (w:World) (u:TypeId) (size:Nat) (x:Value) (m:Nat) (news:List Value):Prop where
 ty: ∃d,P.underlying u=some d∧(∀k,d≠ .int k)
 len:(Builtin.lenOf x).run P w= .ok m w
 first:(Builtin.firstCells size m x).run P w= .ok news.toArray w
 first':(Builtin.firstCells size m x).run P w.drew= .ok news.toArray w.drew
 size:news.length=m*size
structure avt (P:Program) (w:World) (u e:TypeId) (i:TypeInfo) (x:Value) (m:Nat) (news:List Value):Prop where
 ty: ∃k,P.underlying u=some (.int k)
 val: ∃k n,x= .int k n∧0≤n∧n≤9223372036854775807∧n.toNat=m
 fits:m*i.bytes≤140737488355328
 zero: ∃z,i.zero=some z∧news=(Builtin.zeroCells z.cells m).toList∧z.cells.size=i.size
 size:news.length=m*i.size
def Me(P:Program)(w:World)(u e:TypeId)(i:TypeInfo)(x:Value)(m:Nat)(news:List Value):Prop:=ac6 P w u i.size x m news∨avt P w u e i x m news
theorem Ue{d:TypeDesc}(hd: ∀k,d≠ .int k):(match d with | .int _=>true | _=>false)=false:=by
 cases d<;>first|rfl|exact absurd rfl (hd _)
section
variable{t u ty e:TypeId}{i:TypeInfo}{z:Value}{x:Value}{m:Nat}{news:List Value}
theorem Uf{n:Int}(h0:0≤n)(h1:n≤9223372036854775807):IntKind.i64.wrap n=n:=by
 unfold IntKind.wrap;simp[IntKind.signed,IntKind.bits];omega
theorem sQ(k:IntKind)(n:Int):(asInt (.int k n)).run P w= .ok n w:=by simp[asInt,asIntOf]
theorem Me.size(hs:Me P w u e i x m news):news.length=m*i.size:=by
 rcases hs with h|h
 ·exact h.size
 ·exact h.size
theorem GL(ht:P.underlying t=some (.slice e))(hi:P.info? e=some i)(hs:Me P w u e i x m news)(hm:m=0){ad:Option Addr}{n cap:Nat}(hn:n≤cap)
  (had:ad=none∨ ∃g:Nat,ad=some ⟨g,0,none⟩):
  (Builtin.append_ #[t,u] ty #[.slice ad n cap,x]).run P w= .ok (.slice ad n cap) w:=by
 subst hm;rcases hs with hs|hs
 ·obtain⟨d,hu,hd⟩:=hs.ty
  have hz:=Ue hd;have hne:news=[]:=List.eq_nil_of_length_eq_zero (by simpa using hs.size);have hf:=hs.first;rw[hne]at hf;rcases had with rfl|⟨g,rfl⟩
  ·simp[Builtin.append_,run_underlying ht,run_underlying hu,sizeOf,typeInfo,hi,hz,hs.len,hn,hf]
  ·simp[Builtin.append_,run_underlying ht,run_underlying hu,sizeOf,typeInfo,hi,hz,hs.len,hn,hf,storeCells]
 ·obtain⟨k,hu⟩:=hs.ty
  obtain⟨k',n',rfl,h0,h1,h2⟩:=hs.val;have hw:=Uf h0 h1;obtain rfl:n'=0:=by omega
  rcases had with rfl|⟨g,rfl⟩
  ·simp[Builtin.append_,run_underlying ht,run_underlying hu,sizeOf,typeInfo,hi,sQ,hw,hn]
  ·simp[Builtin.append_,run_underlying ht,run_underlying hu,sizeOf,typeInfo,hi,sQ,hw,hn,storeCells]
theorem Lj(ht:P.underlying t=some (.slice e))(hi:P.info? e=some i)(hs:Me P w u e i x m news){g n cap:Nat}{cur:Array Value}(hg:w.heap[g]? =some (.cells cur e (0,0)))
  (h1: ∀v∈news,v.oneCell'=true) (hroom:n+m≤cap) (hfit:n*i.size+news.length≤cur.size):
  (Builtin.append_ #[t,u] ty #[.slice (some ⟨g,0,none⟩) n cap,x]).run P w=
   .ok (.slice (some ⟨g,0,none⟩) (n+m) cap) (w.setRow g (cur.toList.take (n*i.size)++news++cur.toList.drop (n*i.size+news.length)).toArray):=by
 have hst:=run_storeCells_at P g (n*i.size) e news 0 cur w hg (by simpa using hfit) h1;simp only[Nat.add_zero]at hst;rcases hs with hs|hs
 ·obtain⟨d,hu,hd⟩:=hs.ty
  have hz:=Ue hd;simp[Builtin.append_,run_underlying ht,run_underlying hu,sizeOf,typeInfo,hi,hz,hs.len,hroom,hs.first,Addr.add_lit,hst]
 ·obtain⟨k,hu⟩:=hs.ty
  obtain⟨k',n',rfl,h0,h1,h2⟩:=hs.val;obtain⟨z,hz0,hz1,hz2⟩:=hs.zero;have hw:=Uf h0 h1;have hfits:=hs.fits;have hn0: ¬(n'<0):=by omega
  have hb: ¬(281474976710656<n'*(i.bytes:Int)):=by
   have:n'=(m:Int):=by omega
   rw[this];omega
  by_cases hmz:m*i.size=0
  ·have hne:news=[]:=List.eq_nil_of_length_eq_zero (by rw[hs.size];exact hmz)
   rw[hne]at hst⊢;simp[Builtin.append_,run_underlying ht,run_underlying hu,sizeOf,typeInfo,hi,sQ,hw,hn0,hb,h2,hroom,hmz,Addr.add_lit,hst]
  ·simp[Builtin.append_,run_underlying ht,run_underlying hu,sizeOf,typeInfo,hi,sQ,hw,hn0,hb,h2,hroom,hmz,zeroValue,hz0,Addr.add_lit, ←hz1,hst]
theorem Jd(ht:P.underlying t=some (.slice e))(hi:P.info? e=some i)(hz0:i.zero=some z)(hs:Me P w u e i x m news){ad:Option Addr}{n cap:Nat}{olds:List Value}
  (hold:(Builtin.firstCells i.size n (.slice ad n cap)).run P w.drew= .ok olds.toArray w.drew) (hg:cap<n+m) (h63:n+m≤9223372036854775807) (hb:(n+m)*i.bytes≤140737488355328):
  (Builtin.append_ #[t,u] ty #[.slice ad n cap,x]).run P w=
   .ok (.slice (some ⟨w.heap.size,0,none⟩) (n+m) (grownCap w (n+m) cap e))
    (w.drew.alloc (.cells (olds.toArray++news.toArray++Builtin.zeroCells z.cells (grownCap w (n+m) cap e-(n+m))) e)):=by
 have hn: ¬(n+m≤cap):=by omega
 have h63': ¬(9223372036854775807<((n:Int)+(m:Int))):=by omega
 have h48': ¬(281474976710656<Builtin.nextslicecap (n+m) cap*i.bytes):=by have:=growslice_fits hg hb;omega
 have h0: ¬((n:Int)+(m:Int)>9223372036854775807):=by omega
 rcases hs with hs|hs
 ·obtain⟨d,hu,hd⟩:=hs.ty
  have hz:=Ue hd;simp[Builtin.append_,run_underlying ht,run_underlying hu,sizeOf,typeInfo,zeroValue,hi,hz0,hz,hs.len,hn,h63',h48',Question.forced,hs.first',hold,newRow,grownCap]
  congr 2
  apply Array.ext'
  simp[List.append_assoc]
 ·obtain⟨k,hu⟩:=hs.ty
  obtain⟨k',n',rfl,h0',h1,h2⟩:=hs.val;obtain⟨z',hz0',hz1,hz2⟩:=hs.zero;rw[hz0]at hz0';cases hz0';have hw:=Uf h0' h1;have hfits:=hs.fits;have hn0: ¬(n'<0):=by omega
  have hbb: ¬(281474976710656<n'*(i.bytes:Int)):=by
   have:n'=(m:Int):=by omega
   rw[this];omega
  have hmx: ¬(9223372036854775807<((n:Int)+max n' 0)):=by omega
  by_cases hmz:m*i.size=0
  ·have hne:news=[]:=List.eq_nil_of_length_eq_zero (by rw[hs.size];exact hmz)
   rw[hne];simp[Builtin.append_,run_underlying ht,run_underlying hu,sizeOf,typeInfo,zeroValue,hi,hz0,sQ,hw,hn0,hbb,h2,hn,h63',hmx,h48',Question.forced,hmz,hold,newRow,grownCap]
  ·simp[Builtin.append_,run_underlying ht,run_underlying hu,sizeOf,typeInfo,zeroValue,hi,hz0,sQ,hw,hn0,hbb,h2,hn,h63',hmx,h48',Question.forced,hmz,hold,newRow,grownCap,hz1]
end
def ku(A:Nat→Prop)(w:World)(n sz:Nat)(el:Nat→List IV)(xs:List Value):Prop:=
 xs.length=n*sz∧(∀k,k<n→(el k).length=sz)∧
  ∀k j,k<n→j<sz→(xs.getD (k*sz+j) undef).oneCell'=true∧jG A w ((el k).getD j (.v undef)) (xs.getD (k*sz+j) undef)
theorem ku.oneCell{A:Nat→Prop}{n sz:Nat}{el:Nat→List IV}{xs:List Value}(h:ku A w n sz el xs): ∀v∈xs,v.oneCell'=true:=by
 intro v hv;obtain⟨i,hi,rfl⟩:=List.mem_iff_getElem.1 hv;have hi':i<n*sz:=by rw[←h.1];exact hi
 have hsz:0<sz:=by rcases Nat.eq_zero_or_pos sz with h0|h0; · subst h0;simp at hi'
                   exact h0
 have:=(h.2.2 (i/sz) (i%sz) (Nat.div_lt_of_lt_mul (by rwa [Nat.mul_comm])) (Nat.mod_lt _ hsz)).1;rw[Nat.div_add_mod' i sz]at this;simpa[dR,hi]using this
theorem qA.row{A:Nat→Prop}{n sz:Nat}{el:Nat→List IV}{ad:Option Addr}(h:qA A w n sz el ad):ku A w n sz el (iV w n sz ad):=by
 refine⟨h.length,?_,?_⟩
 ·rcases h with rfl|⟨b,off,_,_,hl,_⟩
  ·intro k hk;omega
  ·exact hl
 ·intro k j hk hj
  rcases h with rfl|⟨b,off,rfl,_,hl,hh⟩
  ·omega
  ·have hlt:=jQ hk hj
   have e:(iV w n sz (some ⟨b,off,none⟩)).getD (k*sz+j) undef=kJ w ⟨b,off+(k*sz+j),none⟩:=by
    simp[iV,dR,hlt,jL]
   rw[e];exact(hh k j hk hj).2
theorem ku.join{A:Nat→Prop}{n m sz:Nat}{el jw:Nat→List IV}{xs ys:List Value}(h:ku A w n sz el xs)(k:ku A w m sz jw ys):ku A w (n+m) sz (bN n el jw) (xs++ys):=by
 refine⟨by rw[List.length_append,h.1,k.1,Nat.add_mul],λi hi=> ?_,λi j hi hj=> ?_⟩
 ·unfold bN
  split
  ·exact h.2.1 i ‹_›
  ·exact k.2.1 _ (by omega)
 ·unfold bN
  by_cases hin:i<n
  ·rw[if_pos hin]
   have hlt:i*sz+j<xs.length:=by rw[h.1];exact jQ hin hj
   have e:(xs++ys).getD (i*sz+j) undef=xs.getD (i*sz+j) undef:=by
    simp only[dR,List.getElem?_append_left hlt]
   rw[e];exact h.2.2 i j hin hj
  ·rw[if_neg hin]
   have hge:xs.length≤i*sz+j:=by rw[h.1];have:=Nat.mul_le_mul_right sz (Nat.le_of_not_lt hin);omega
   have e:(xs++ys).getD (i*sz+j) undef=ys.getD ((i-n)*sz+j) undef:=by
    simp only[dR,List.getElem?_append_right hge,h.1]
    congr 2
    rw[Nat.sub_mul];have:=Nat.mul_le_mul_right sz (Nat.le_of_not_lt hin);omega
   rw[e];exact k.2.2 _ j (by omega) hj
theorem ku.ent{A:Nat→Prop}{n sz:Nat}{el:Nat→List IV}{xs:List Value}(h:ku A w n sz el xs){cs:Array Value}(hcs:cs.toList.take (n*sz)=xs)(t:TypeId):
  iK A B w (.arr n sz el t) (some (.cells cs t (0,0))):=by
 have hlen:n*sz≤cs.size:=by
  have:=h.1;rw[←hcs]at this;simp at this;omega
 refine .arr n sz el t cs hlen h.2.1 λk j hk hj=> ?_
 have hlt:=jQ hk hj;have e:cs.getD (k*sz+j) undef=xs.getD (k*sz+j) undef:=by
  rw[←hcs];simp[oQ,dR,List.getElem?_take,hlt]
 rw[e];exact h.2.2 k j hk hj
theorem ku.trans{A A':Nat→Prop}{w':World}(ht:Trans A w w')(hA: ∀b,b<w.heap.size→A' b→A b){n sz:Nat}{el:Nat→List IV}{xs:List Value}(h:ku A w n sz el xs):ku A' w' n sz el xs:=
 ⟨h.1,h.2.1,λk j hk hj=>⟨(h.2.2 k j hk hj).1,(h.2.2 k j hk hj).2.trans ht hA⟩⟩
theorem Yc{A:Nat→Prop}{n k sz:Nat}{el:Nat→List IV}{t:TypeId}{cs:Array Value}(h:iK A B w (.arr n sz el t) (some (.cells cs t (0,0))))(hk:k≤n):ku A w k sz el (cs.toList.take (k*sz)):=by
 cases h with
 | arr _ _ _ _ _ hs hl hh=>
   have hks:k*sz≤n*sz:=Nat.mul_le_mul_right _ hk;refine⟨by simp;omega,λi hi=>hl i (by omega),λi j hi hj=> ?_⟩;have hlt:=jQ hi hj;have e:(cs.toList.take (k*sz)).getD (i*sz+j) undef=cs.getD (i*sz+j) undef:=by
    simp[oQ,dR,List.getElem?_take,hlt]
   rw[e];exact hh i j (by omega) hj
theorem Qy(b:Nat): ∀i,aT C.A0 B (S.mem.set b none) i→aT C.A0 B S.mem i:=by
 intro i h;rcases h with h|⟨j,e2,h1,h2⟩
 ·exact .inl h
 ·rw[bR]at h1
  by_cases hj:j=b
  ·simp[hj]at h1
  ·simp only[hj,if_false]at h1;exact .inr ⟨j,e2,h1,h2⟩
theorem Holds.Oa(H:Holds C B S a w)(hs:B slot=none){e:jk}(he:e.none0):Holds C B {S with mem:=S.mem.set slot (some e)} a w:=by
 have hA: ∀b,b<w.heap.size→aT C.A0 B (S.mem.set slot (some e)) b→aT C.A0 B S.mem b:=by
  intro b _ h;rcases h with h|⟨j,e2,h1,h2⟩
  ·exact .inl h
  ·rw[bR]at h1
   by_cases hj:j=slot
   ·subst hj;rw[hs]at h2;cases h2
   ·simp only[hj,if_false]at h1;exact .inr ⟨j,e2,h1,h2⟩
 refine{defers:=H.defers,size:=H.size,tm:=λt h=>(H.tm t h).trans (Trans.refl _ _) hA (λ_ _ h=>h),mem:=?_,inj:=?_,kept:=H.kept,old:=H.old,fresh:=H.fresh,base:=H.base,uF:=H.uF}
 ·intro j e' hj
  simp only[bR]at hj;by_cases hjs:j=slot
  ·subst hjs
   simp only[if_true,fK]at hj;subst hj;exact .inr ⟨hs,he⟩
  ·simp only[hjs,if_false]at hj
   rcases H.mem j e' hj with⟨β,h1,h3⟩|h
   ·exact .inl ⟨β,h1,h3.trans (Trans.refl _ _) hA (λ_ _ h=>h)⟩
   ·exact .inr h
 ·intro j j' e1 e2 β m1 m2 h1 h2
  simp only[bR]at m1 m2;by_cases hj:j=slot
  ·subst hj;rw[hs]at h1;cases h1
  ·by_cases hj':j'=slot
   ·subst hj';rw[hs]at h2;cases h2
   ·simp only[hj,hj',if_false]at m1 m2;exact H.inj j j' e1 e2 β m1 m2 h1 h2
theorem Holds.rename(H:Holds C B S a w){b β:Nat}{e:jk}(hm:S.mem b=some e)(hβ:B b=some β)(hs:B slot=none)(hnx:Between C S slot):
  Holds C (ji B slot β) {S with mem:=(S.mem.set b none).set slot (some e)} a w:=by
 have hbs:slot≠b:=by rintro rfl;rw[hs]at hβ;cases hβ
 have hB: ∀j γ,B j=some γ→ji B slot β j=some γ:=by
  intro j γ hj;unfold ji
  split
  ·rename_i h;subst h;rw[hs]at hj;cases hj
  ·exact hj
 have hA: ∀i,i<w.heap.size→aT C.A0 (ji B slot β) ((S.mem.set b none).set slot (some e)) i→aT C.A0 B S.mem i:=by
  intro i _ h;rcases h with h|⟨j,e2,h1,h2⟩
  ·exact .inl h
  ·rw[bR]at h1
   unfold ji at h2;by_cases hj:j=slot
   ·simp only[hj,if_true,fK]at h2
    subst h2;exact .inr ⟨b,e,hm,hβ⟩
   ·simp only[hj,if_false]at h1 h2
    rw[bR]at h1;by_cases hj2:j=b
    ·simp[hj2]at h1
    ·simp only[hj2,if_false]at h1;exact .inr ⟨j,e2,h1,h2⟩
 have live: ∀j e2,((S.mem.set b none).set slot (some e)) j=some e2→(j=slot∧e2=e)∨(j≠slot∧j≠b∧S.mem j=some e2):=by
  intro j e2 hj;rw[bR]at hj;by_cases h1:j=slot
  ·simp only[h1,if_true,fK]at hj;exact .inl ⟨h1,hj.symm⟩
  ·simp only[h1,if_false]at hj
   rw[bR]at hj;by_cases h2:j=b
   ·simp[h2]at hj
   ·simp only[h2,if_false]at hj;exact .inr ⟨h1,h2,hj⟩
 refine{defers:=H.defers,size:=H.size,tm:=λt h=>(H.tm t h).trans (Trans.refl _ _) hA hB,mem:=?_,inj:=?_,kept:=H.kept,old:=?_,fresh:=?_,base:=?_,uF:=H.uF}
 ·intro j e' hj
  rcases live j e' hj with⟨rfl,rfl⟩|⟨h1,h2,h3⟩
  ·rcases H.mem b _ hm with⟨γ,hγ,hent⟩|⟨hno,_⟩
   ·rw[hβ]at hγ
    cases hγ;exact .inl ⟨β,by simp[ji],hent.trans (Trans.refl _ _) hA hB⟩
   ·rw[hβ]at hno;cases hno
  ·rcases H.mem j e' h3 with⟨γ,hγ,hent⟩|⟨hno,hn⟩
   ·exact .inl ⟨γ,hB _ _ hγ,hent.trans (Trans.refl _ _) hA hB⟩
   ·exact .inr ⟨by simp[ji,h1,hno],hn⟩
 ·intro j j' e1 e2 γ m1 m2 h1 h2
  rcases live j e1 m1 with⟨rfl,rfl⟩|⟨a1,a2,a3⟩<;>rcases live j' e2 m2 with⟨rfl,rfl⟩|⟨b1,b2,b3⟩
  ·rfl
  ·simp only[ji,if_true,fK]at h1
   subst h1;simp only[ji,b1,if_false]at h2;exact absurd (H.inj j' b _ _ β b3 hm h2 hβ) b2
  ·simp only[ji,if_true,fK]at h2
   subst h2;simp only[ji,a1,if_false]at h1;exact absurd (H.inj j b _ _ β a3 hm h1 hβ) a2
  ·simp only[ji,a1,if_false]at h1
   simp only[ji,b1,if_false]at h2;exact H.inj j j' _ _ γ a3 b3 h1 h2
 ·intro j γ h
  unfold ji at h;by_cases hj:j=slot
  ·simp only[hj,if_true,fK]at h;subst h;exact H.old b _ hβ
  ·simp only[hj,if_false]at h;exact H.old j γ h
 ·intro j hj
  have:j≠slot:=by rintro rfl;exact absurd hj (Nat.not_le.2 hnx.2)
  simp only[ji,this,if_false];exact H.fresh j hj
 ·intro j hj
  have:j≠slot:=by rintro rfl;exact absurd hj (Nat.not_lt.2 hnx.1)
  simp only[ji,this,if_false];exact H.base j hj
end
end Go.bI
namespace Go.bI
open Go.RowKit
section
variable{P:Program}{C:Ctx}{B:eB}{S:St}{a:Act}{w:World}{o:Oper}{r:Eff}{slot:Nat}
 {K:Act→World→Prop} {Q:Exit→Act→World→Prop}
theorem ac7{A:Nat→Prop}{u e:TypeId}(hu:P.underlying u=some (.slice e)){size k cap:Nat}{el:Nat→List IV}{ad:Option Addr}(h:qA A w k size el ad):
  ac6 P w u size (.slice ad k cap) k (iV w k size ad):=by
 refine⟨⟨_,hu,λk h=>by cases h⟩,by simp[Builtin.lenOf],?_,?_,h.length⟩
 ·cases ad with
  | none=>simp[Builtin.firstCells,iV]
  | some ad=>exact run_firstCells_some (P:=P) w size k ad k cap _ h.length h.news.1
 ·cases ad with
  | none=>simp[Builtin.firstCells,iV]
  | some ad=>exact run_firstCells_some (P:=P) w.drew size k ad k cap _ h.length h.news.1
theorem qA.zero{A:Nat→Prop}{sz sz':Nat}{el:Nat→List IV}{ad:Option Addr}(h:qA A w 0 sz el ad):qA A w 0 sz' el ad:=by
 rcases h with _|⟨b,off,rfl,hb,_,_⟩
 ·exact .inl rfl
 ·exact .inr ⟨b,off,rfl,hb,λk hk=>by omega,λk j hk=>by omega⟩
theorem Je(z:Array Value)(m k j:Nat)(hk:k<m)(hj:j<z.size):(Builtin.zeroCells z m).toList.getD (k*z.size+j) undef=z.toList.getD j undef:=by
 have hlt:k*z.size+j<m*z.size:=jQ hk hj;have hm:(k*z.size+j)%z.size=j:=by rw[Nat.mul_comm,Nat.mul_add_mod,Nat.mod_eq_of_lt hj]
 simp[Builtin.zeroCells,dR,hlt,hm,hj]
theorem aos{t u e p Eh:Nat}{i:TypeInfo}(hti:P.info? e=some i)(his:i.size=p)(hib:i.bytes=Eh){ya:AV}{vy:Value}{k:Nat}{el:Nat→List IV}{cs:List Bool}{rs:List Nat}(ht:P.underlying t=some (.slice e))(H:Holds C B S a w)
  (h:Ef P S.mem t u e p Eh ya=some (k,el,cs,rs)) (hc: ∀p∈cs,p) (hy:aV (aT C.A0 B S.mem) B w ya vy):
  ∃news,Me P w u e i vy k news∧ku (aT C.A0 B S.mem) w k p el news:=by
 unfold Ef at h;cases htu:Nat.beq t u with
 | true=>
   obtain rfl:t=u:=by simpa using htu
   simp only[htu,cond_true]at h
   split at h
   ·rename_i k' sz jw cs' rs' hv
    cases hsz:(Nat.beq sz p || Nat.beq k' 0)with
    | false=>rw[hsz]at h;cases h
    | true=>
      rw[hsz]at h;simp only[cond_true,fK,Prod.mk.injEq]at h;obtain⟨rfl,rfl,rfl,rfl⟩:=h;obtain⟨ad,cap,rfl,hn,hsl⟩:=w9 H hy hv hc;have Eu:qA (aT C.A0 B S.mem) w k' p jw ad:=by
       simp only[Bool.or_eq_true,Nat.beq_eq]at hsz;rcases hsz with rfl|rfl
       ·exact hsl
       ·exact hsl.zero
      exact⟨_,.inl (by rw[his];exact ac7 ht Eu),Eu.row⟩
   ·cases h
 | false=>
   simp only[htu,cond_false]at h
   split at h
   ·rename_i s hu he
    cases hp:(Nat.beq p 1&&Nat.beq Eh 1)with
    | false=>rw[hp]at h;cases h
    | true=>
      rw[hp]at h;simp only[cond_true,fK,Prod.mk.injEq]at h;obtain⟨rfl,rfl,rfl,rfl⟩:=h;simp only[cu,Nat.beq_eq]at hp;obtain⟨rfl,rfl⟩:=hp;obtain rfl:=hy.plain;have hsz:s.data.toList.length=s.size:=by simp
      refine⟨Lib.strCells s,.inl (his ▸ ⟨⟨_,hu,λk h=>by cases h⟩,by simp[Builtin.lenOf],by rw[hsz];exact Lib.run_firstCells_string w 1 s,by rw[hsz];exact Lib.run_firstCells_string w.drew 1 s,by rw[Lib.strCells_length];simp⟩),by rw[Lib.strCells_length];simp,λk _=>rfl,λk j hk hj=> ?_⟩
      ·obtain rfl:j=0:=by omega
       have hk':k<s.data.size:=by simpa using hk
       have e1:(Lib.strCells s).getD (k*1+0) undef= .int .u8 ((s.data.toList.getD k 0).toNat:Nat):=by
        simp only[Lib.strCells,dR,Nat.mul_one,Nat.add_zero,List.getElem?_map,Array.getElem?_toList,Array.getElem?_eq_getElem hk',Option.map_some,Option.getD_some]
       rw[e1];exact⟨rfl,.v _⟩
   ·rename_i n hu
    split at h
    ·rename_i z hz
     cases hp:(Nat.beq z.cells.size p&&z.cells.toList.all (·.oneCell'))with
     | false=>rw[hp]at h;cases h
     | true=>
       rw[hp]at h;simp only[cond_true,fK,Prod.mk.injEq]at h;obtain⟨rfl,rfl,rfl,rfl⟩:=h;simp only[cu,Nat.beq_eq]at hp;obtain⟨hp,hall⟩:=hp;obtain rfl:=hy.plain;have h0:0≤n:=dec (hc (decide (0≤n)) (by simp));have h1:n≤9223372036854775807:=dec (hc (decide (n≤9223372036854775807)) (by simp));have h2:n.toNat*Eh≤140737488355328:=dec (hc (decide (n.toNat*Eh≤140737488355328)) (by simp));have hzi:i.zero=some z:=by
        unfold qz at hz;rw[hti]at hz;simpa using hz
       have hlen:(Builtin.zeroCells z.cells n.toNat).toList.length=n.toNat*p:=by simp[Builtin.zeroCells,hp]
       refine⟨(Builtin.zeroCells z.cells n.toNat).toList,.inr ⟨⟨_,hu⟩,⟨_,_,rfl,h0,h1,rfl⟩,by rw[hib];exact h2,⟨z,hzi,rfl,by rw[his,hp]⟩,by rw[his,hlen]⟩,hlen,λk _=>by simp[hp],λk j hk hj=> ?_⟩;have hj':j<z.cells.size:=by rw[hp];exact hj
       have e1:=Je z.cells n.toNat k j hk hj';rw[hp]at e1;rw[e1];have e2:(z.cells.toList.map IV.v).getD j (.v undef)= .v (z.cells.toList.getD j undef):=by
        simp[dR,hj']
       rw[e2];refine⟨?_,.v _⟩;have hm:z.cells.toList.getD j undef∈z.cells.toList:=by
        rw[dR,List.getElem?_eq_getElem (by simpa using hj')];exact List.getElem_mem _
       exact List.all_eq_true.1 hall _ hm
    ·cases h
   ·cases h
theorem Jf{v:Value}{w':World}(hrun:(execOp a.eval o).run P w= .ok (.value v) w')(hk:K (a.put o.dst v) w'):o.uI P a w K Q:=by
 unfold Oper.uI;rw[hrun];exact hk
theorem Qz(H:Holds C B S a w)(hC:C.Ok)(hs:B slot=none)(hnx:Between C S slot){c:Call}{zx zy:Operand}(hop:o.op= .call c)(hb:c.callee= .builtin .append){ts:List TypeId}(hts:c.argTypes.toList=ts)(hxs:c.args= #[zx,zy])
  (h:zL P slot S.mem ts (cZ S.tm zx) (cZ S.tm zy)=some r) (hc: ∀p∈r.conds,p) (hK:Cont C B slot (S.apply o.dst r) K):o.uI P a w K Q:=by
 have hx:=bP H zx;have hy:=bP H zy;unfold zL at h
 split at h
 ·rename_i t u
  have hty:c.argTypes= #[t,u]:=Array.ext' (by simpa using hts);have yU: ∀v w',(Builtin.append_ #[t,u] o.type #[a.eval zx,a.eval zy]).run P w= .ok v w'→(execOp a.eval o).run P w= .ok (.value v) w':=by
   intro v w' hr;simp[execOp,hop,resolve,hb,hxs,hty,invoke,builtin,hr]
  split at h
  ·rename_i e ht
   split at h
   ·rename_i p Eh z hsz hby hz
    cases hzc:Nat.beq z.cells.size (p+1)with
    | false=>rw[hzc]at h;cases h
    | true=>
    rw[hzc]at h;simp only[cond_true]at h;have hzc:z.cells.size=p+1:=by simpa using hzc
    split at h
    ·rename_i n el c1 r1 k jw c2 r2 hdst hsrc
     cases h;have h63:n+k≤9223372036854775807:=dec (hc _ (by simp));have hbytes:(n+k)*Eh≤140737488355328:=dec (hc _ (by simp));have hc1: ∀p∈c1,p:=λq hq=>hc q (by simp[hq])
     have hc2: ∀p∈c2,p:=λq hq=>hc q (by simp[hq])
     obtain⟨i,hi,hib,his,hiz⟩:=Ma hby hsz hz;have his:i.size=p+1:=his;obtain⟨news,hso,hrow⟩:=aos hi his hib ht H hsrc hc2 hy;subst hib
     have fresh: ∀(ad:Option Addr) (cap:Nat) (olds:List Value) (S2:St),a.eval zx= .slice ad n cap→cap<n+k→(Builtin.firstCells i.size n (.slice ad n cap)).run P w.drew= .ok olds.toArray w.drew→
       ku (aT C.A0 B S.mem) w n (p+1) el olds→Holds C B S2 a w→(∀b,aT C.A0 B S2.mem b→aT C.A0 B S.mem b)→S2.nx=S.nx→
       ({S2 with mem:=S2.mem.set slot (some (.arr (n+k) (p+1) (bN n el jw) e)),tm:=mD S2.tm o.dst (.iP slot (n+k) (p+1))}:St)=
        S.apply o.dst {val:= .iP slot (n+k) (p+1),upd:=r1.map (λb=>(b,none))++[(slot,some (.arr (n+k) (p+1) (bN n el jw) e))]}→o.uI P a w K Q:=by
      intro ad cap olds S2 hzx hcap hold hor H2 hA2 hnx2 hS;have hrun:=Jd (P:=P) (w:=w) (ty:=o.type) ht hi hiz hso (ad:=ad) (cap:=cap) hold hcap h63 hbytes;have H3:=H2.move (w':=w.drew) (Below.refl _ w).drew;have hge:=grownCap_ge w (n+k) cap e;have hcm:=grownCap_le_maxLen w (n+k) cap e (by unfold maxLen;omega);have hj:=(hor.join hrow).trans (w':=w.drew) (A':=aT C.A0 B S2.mem) (Trans.of_below (Below.refl _ w).drew) (λb _ h=>hA2 b h);have hlen:(olds.toArray++news.toArray++Builtin.zeroCells z.cells (grownCap w (n+k) cap e-(n+k))).size=grownCap w (n+k) cap e*(p+1):=by
       simp only[Array.size_append,List.size_toArray,size_zeroCells,hzc,hor.1,hrow.1, ←Nat.add_mul]
       congr 1
       omega
      have hent:=hj.ent (B:=B) (cs:=olds.toArray++news.toArray++Builtin.zeroCells z.cells (grownCap w (n+k) cap e-(n+k))) (by
       simp only[Array.toList_append];rw[List.take_left' (by simp[hor.1,hrow.1,Nat.add_mul])]) e
      have H4:=H3.alloc hC hs (by unfold Between;rw[hnx2];exact hnx) hent;have H5:=H4.put (x:= .iP slot (n+k) (p+1)) (v:= .slice (some ⟨w.heap.size,0,none⟩) (n+k) (grownCap w (n+k) cap e)) o.dst
       (.iP slot _ _ _ w.heap.size (by simp[ji]) hge hcm ⟨_,e,(0,0),heap_alloc_new w.drew _,hlen⟩)
      refine Jf (yU _ _ (by rw[hzx];exact hrun)) (hK _ _ (ji B slot w.heap.size) ?_ (λj hj=>by simp[ji,hj]))
      have:S.apply o.dst {val:= .iP slot (n+k) (p+1),upd:=r1.map (λb=>(b,none))++[(slot,some (.arr (n+k) (p+1) (bN n el jw) e))],
                          conds:=c1++c2++[decide (n+k≤9223372036854775807),decide ((n+k)*i.bytes≤140737488355328)],reads:=r1++r2}=
       {S2 with mem:=S2.mem.set slot (some (.arr (n+k) (p+1) (bN n el jw) e)),tm:=mD S2.tm o.dst (.iP slot (n+k) (p+1))}:=hS.symm
      rw[this];exact H5
     have nil: ∀(S2:St),a.eval zx= .slice none 0 0→n=0→k=0→Holds C B S2 a w→S2.nx=S.nx→
       ({S2 with mem:=S2.mem.set slot (some (.arr (n+k) (p+1) (bN n el jw) e)),tm:=mD S2.tm o.dst (.iP slot (n+k) (p+1))}:St)=
        S.apply o.dst {val:= .iP slot (n+k) (p+1),upd:=r1.map (λb=>(b,none))++[(slot,some (.arr (n+k) (p+1) (bN n el jw) e))]}→o.uI P a w K Q:=by
      intro S2 hzx hn0 hk0 H2 hnx2 hS;subst hn0;subst hk0;have hrun:=GL (P:=P) (w:=w) (ty:=o.type) ht hi hso rfl (ad:=none) (n:=0) (cap:=0) (Nat.le_refl _) (.inl rfl);have H4:=H2.Oa hs (e:= .arr (0+0) (p+1) (bN 0 el jw) e) rfl;have H5:=H4.put (x:= .iP slot (0+0) (p+1)) (v:= .slice none 0 0) o.dst (.uH slot _);refine Jf (yU _ _ (by rw[hzx];exact hrun)) (hK _ _ B ?_ (λj hj=>rfl))
      have:S.apply o.dst {val:= .iP slot (0+0) (p+1),upd:=r1.map (λb=>(b,none))++[(slot,some (.arr (0+0) (p+1) (bN 0 el jw) e))],
                          conds:=c1++c2++[decide (0+0≤9223372036854775807),decide ((0+0)*i.bytes≤140737488355328)],reads:=r1++r2}=
       {S2 with mem:=S2.mem.set slot (some (.arr (0+0) (p+1) (bN 0 el jw) e)),tm:=mD S2.tm o.dst (.iP slot (0+0) (p+1))}:=hS.symm
      rw[this];exact H5
     have ac8:ku (aT C.A0 B S.mem) w 0 (p+1) el []:=⟨by simp,λk hk=>by omega,λk j hk=>by omega⟩
     unfold I4 at hdst
     split at hdst
     ·rename_i hzx
      cases hdst;rw[hzx]at hx;have pq:=hx.plain;by_cases hk0:k=0
      ·exact nil S pq rfl hk0 H rfl rfl
      ·exact fresh none 0 [] S pq (by omega) (by simp[Builtin.firstCells]) ac8 H (λ_ h=>h) rfl rfl
     ·rename_i b n' sz hzx
      rw[hzx]at hx
      split at hdst
      ·rename_i m sz' el2 e' hm
       cases hall:(Nat.beq sz (p+1)&&Nat.beq sz' (p+1)&&Nat.beq e e')with
       | false=>rw[hall]at hdst;cases hdst
       | true=>
         rw[hall]at hdst;simp only[cond_true,fK,Prod.mk.injEq]at hdst;obtain⟨rfl,rfl,rfl,rfl⟩:=hdst;simp only[cu,Nat.beq_eq]at hall;obtain⟨⟨rfl,rfl⟩,rfl⟩:=hall;have hle:n'≤m:=dec (hc1 _ (by simp));generalize pq:a.eval zx=vx at hx;cases hx with
         | uH=>
           have Hd:=H.drop b;by_cases hk0:k=0
           ·exact nil _ pq rfl hk0 Hd rfl rfl
           ·exact fresh none 0 [] _ pq (by omega) (by simp[Builtin.firstCells]) ac8 Hd (Qy b) rfl rfl
         | iP _ _ _ cap β hβ hn hmx hcc=>
           rcases H.mem b _ hm with⟨γ,hγ,hent⟩|⟨hno,_⟩
           ·rw[hβ]at hγ
            cases hγ;generalize uG:w.heap[β]? =ob at hent;obtain⟨cs,t',rfl⟩:=hent.isCells;have ht':t'=e:=by cases hent;rfl
            subst ht';have hor:=Yc hent hle;obtain⟨C',t2,fz,hcc,hcs⟩:=hcc;rw[uG]at hcc;simp only[fK,Obj.cells.injEq]at hcc;obtain⟨rfl,rfl,rfl⟩:=hcc;by_cases hroom:n'+k≤cap
            ·have hnew:news.length=k*(p+1):=hrow.1
             have hmul:(n'+k)*(p+1)≤cap*(p+1):=Nat.mul_le_mul_right _ hroom;have hfit:n'*i.size+news.length≤cs.size:=by rw[his,hnew,hcs, ←Nat.add_mul];exact hmul
             have hrun:=Lj (P:=P) (w:=w) (ty:=o.type) ht hi hso uG hrow.oneCell hroom hfit;have QA:iK (aT C.A0 B S.mem) B w (.arr (n'+k) (p+1) (bN n' el2 jw) t') (some (.cells (cs.toList.take (n'*i.size)++news++cs.toList.drop (n'*i.size+news.length)).toArray t' (0,0))):=by
              refine(hor.join hrow).ent ?_ t';rw[his];rw[List.take_left' (by rw[List.length_append,hor.1,hrow.1,Nat.add_mul])]
             have H2:=H.setRow hm hβ uG (by simp;rw[his]at hfit⊢;omega) QA;have H3:=H2.rename (slot:=slot) (e:= .arr (n'+k) (p+1) (bN n' el2 jw) t') (by show(S.mem.set b _) b=_;rw[bR,if_pos rfl]) hβ hs hnx;have hbs:b≠slot:=by rintro rfl;rw[hs]at hβ;cases hβ
             refine Jf (yU _ _ (by rw[pq];exact hrun)) (hK _ _ (ji B slot β) ?_ (λj hj=>by simp[ji,hj]));have H4:=H3.put (x:= .iP slot (n'+k) (p+1)) (v:= .slice (some ⟨β,0,none⟩) (n'+k) cap) o.dst
              (.iP slot _ _ _ β (by simp[ji]) hroom hmx ⟨_,t',(0,0),setRow_heap w β cs _ t' (0,0) uG,by simp;rw[his]at hfit⊢;omega⟩)
             have hmem:((S.mem.set b (some (.arr (n'+k) (p+1) (bN n' el2 jw) t'))).set b none).set slot (some (.arr (n'+k) (p+1) (bN n' el2 jw) t'))=
               (S.mem.set b none).set slot (some (.arr (n'+k) (p+1) (bN n' el2 jw) t')):=by
              funext j
              simp only[bR];by_cases h1:j=slot<;>by_cases h2:j=b<;>simp[h1,h2]
             simp only[hmem]at H4;exact H4
            ·refine fresh (some ⟨β,0,none⟩) cap (cs.toList.take (n'*(p+1))) _ pq (by omega) ?_ hor (H.drop b) (Qy b) rfl rfl
             rw[his];refine run_firstCells_some (P:=P) w.drew (p+1) n' ⟨β,0,none⟩ n' cap _ hor.1 λj u hu=> ?_
             rw[jL]
             show w.cell? _=_
             simp only[World.cell?,uG,Nat.zero_add];rw[List.getElem?_take]at hu
             split at hu
             ·simpa using hu
             ·cases hu
           ·rw[hβ]at hno;cases hno
      ·cases hdst
     ·cases hdst
    ·cases h
   ·cases h
  ·cases h
 ·cases h
end
end Go.bI
namespace Go.bI
open Go.RowKit
section
variable{P:Program}{C:Ctx}{B:eB}{S:St}{a:Act}{w:World}{o:Oper}{r:Eff}{slot:Nat}
 {K:Act→World→Prop} {Q:Exit→Act→World→Prop}
theorem qA.mono{A:Nat→Prop}{n k sz:Nat}{el:Nat→List IV}{ad:Option Addr}(h:qA A w n sz el ad)(hk:k≤n):qA A w k sz el ad:=by
 rcases h with rfl|⟨b,off,rfl,hb,hl,hh⟩
 ·exact .inl (by omega)
 ·exact .inr ⟨b,off,rfl,hb,λi hi=>hl i (by omega),λi j hi hj=>hh i j (by omega) hj⟩
theorem ku.asH{A:Nat→Prop}{n c sz:Nat}{el:Nat→List IV}{xs:List Value}(h:ku A w n sz el xs)(hc:c≤n):ku A w (n-c) sz (λi=>el (i+c)) (xs.drop (c*sz)):=by
 refine⟨by rw[List.length_drop,h.1,Nat.sub_mul],λk hk=>h.2.1 _ (by omega),λk j hk hj=> ?_⟩;have e:(xs.drop (c*sz)).getD (k*sz+j) undef=xs.getD ((k+c)*sz+j) undef:=by
  simp only[dR,List.getElem?_drop];rw[show c*sz+(k*sz+j)=(k+c)*sz+j by rw[Nat.add_mul];omega]
 rw[e];exact h.2.2 (k+c) j (by omega) hj
theorem Z0(H:Holds C B S a w){c:Call}{zx zy:Operand}(hop:o.op= .call c)(hb:c.callee= .builtin .copy){ts:List TypeId}(hts:c.argTypes.toList=ts)(hxs:c.args= #[zx,zy])
  (h:LY P S.mem ts (cZ S.tm zx) (cZ S.tm zy)=some r) (hc: ∀p∈r.conds,p) (hK:Cont C B slot (S.apply o.dst r) K):o.uI P a w K Q:=by
 have hx:=bP H zx;have hy:=bP H zy;unfold LY at h
 split at h
 ·rename_i t u b n sz hxe
  rw[hxe]at hx;have hty:c.argTypes= #[t,u]:=Array.ext' (by simpa using hts);have yU: ∀v w',(Builtin.copy_ #[t,u] o.type #[a.eval zx,a.eval zy]).run P w= .ok v w'→(execOp a.eval o).run P w= .ok (.value v) w':=by
   intro v w' hr;simp[execOp,hop,resolve,hb,hxs,hty,invoke,builtin,hr]
  split at h
  ·rename_i e hu
   split at h
   ·rename_i p n' sz' el ty k Ho jw cs rs hp hm hv
    cases htu:Nat.beq t u with
    | false=>rw[htu]at hv;cases hv
    | true=>
    rw[htu]at hv;simp only[cond_true]at hv;cases hall:(Nat.beq sz p&&Nat.beq sz' p&&Nat.beq Ho p&&(rs.all λr=> !Nat.beq r b))with
    | false=>rw[hall]at h;cases h
    | true=>
      rw[hall]at h;simp only[cond_true,fK]at h;subst h;simp only[cu,Nat.beq_eq]at hall;obtain⟨⟨⟨rfl,rfl⟩,rfl⟩,_⟩:=hall;have hle:n≤n':=dec (hc _ (by simp));obtain⟨ad,cap2,hvy,hn2,hsl⟩:=w9 H hy hv (λq hq=>hc q (by simp[hq]));have Eu:=hsl.mono (Nat.min_le_left k n);have hrow:=Eu.row;have Ug:(Builtin.firstCells Ho (min k n) (.slice ad k cap2)).run P w= .ok (iV w (min k n) Ho ad).toArray w:=by
       cases ad with
       | none=>simp[Builtin.firstCells,iV]
       | some ad=>exact run_firstCells_some (P:=P) w Ho (min k n) ad k cap2 _ Eu.length Eu.news.1
      generalize pq:a.eval zx=vx at hx;cases hx with
      | uH=>
        have hm0:min k 0=0:=by omega
        have hsame:(λi=>if i<min k 0 then jw i else el i)=el:=by funext i;simp
        have hcells:iV w (min k 0) Ho ad=[]:=List.eq_nil_of_length_eq_zero (by rw[Eu.length,hm0,Nat.zero_mul]);rw[hcells,hm0]at Ug;refine kV hK (B':=B) (v:=goInt ((min k 0:Nat):Int)) (w':=w) (yU _ _ ?_) ?_ (aV.lit _) (λ_ _=>rfl)
        ·rw[pq,hvy]
         simp[Builtin.copy_,run_underlying hu,Builtin.lenOf,gN hp,Ug]
        ·have:dA S.mem [(b,some (.arr n' Ho (λi=>if i<min k 0 then jw i else el i) ty))]=S.mem:=by
          funext j
          simp only[dA,bR];by_cases hj:j=b
          ·subst hj;rw[if_pos rfl,hsame,hm]
          ·rw[if_neg hj]
         rw[this];exact H
      | iP _ _ _ cap β hβ hn hmx hcc=>
        rcases H.mem b _ hm with⟨γ,hγ,hent⟩|⟨hno,_⟩
        ·rw[hβ]at hγ
         cases hγ;generalize uG:w.heap[β]? =ob at hent;obtain⟨cs0,t',rfl⟩:=hent.isCells;have ht':t'=ty:=by cases hent;rfl
         subst ht';have hor:=Yc hent (Nat.le_refl _);have hsz:n'*Ho≤cs0.size:=by cases hent;assumption
         have hlen:(iV w (min k n) Ho ad).length=min k n*Ho:=Eu.length;have hmn:min k n*Ho≤n'*Ho:=Nat.mul_le_mul_right _ (by omega);have hst:=run_storeCells_at P β 0 t' (iV w (min k n) Ho ad) 0 cs0 w uG (by rw[hlen];omega) hrow.oneCell;simp only[Nat.add_zero,Nat.zero_add,List.take_zero,List.nil_append]at hst;have hrun:(Builtin.copy_ #[t,u] o.type #[a.eval zx,a.eval zy]).run P w= .ok (goInt ((min k n:Nat):Int)) (w.setRow β (iV w (min k n) Ho ad++cs0.toList.drop (iV w (min k n) Ho ad).length).toArray):=by
          rw[pq,hvy];simp[Builtin.copy_,run_underlying hu,Builtin.lenOf,gN hp,Ug,hst]
         have hj:=hrow.join (hor.asH (c:=min k n) (by omega));rw[show min k n+(n'-min k n)=n' by omega]at hj;have hfun:bN (min k n) jw (λi=>el (i+min k n))=λi=>if i<min k n then jw i else el i:=by
          funext i
          unfold bN;by_cases hi:i<min k n
          ·rw[if_pos hi,if_pos hi]
          ·rw[if_neg hi,if_neg hi]
           show el (i-min k n+min k n)=el i
           rw[show i-min k n+min k n=i by omega]
         rw[hfun]at hj;have QA:=hj.ent (B:=B) (cs:=(iV w (min k n) Ho ad++cs0.toList.drop (iV w (min k n) Ho ad).length).toArray) (by
          simp only[];rw[hlen,List.take_append,hlen,List.take_of_length_le (by rw[hlen];exact hmn),List.drop_take]) t'
         have H2:=H.setRow hm hβ uG (by simp;rw[hlen];omega) QA;exact kV hK (B':=B) (v:=goInt ((min k n:Nat):Int)) (yU _ _ hrun) H2 (aV.lit _) (λ_ _=>rfl)
        ·rw[hβ]at hno;cases hno
   ·cases h
  ·cases h
 ·cases h
theorem F7{n:Nat}{el:Nat→List IV}(h:isBytes n el=true)(k:Nat)(hk:k<n): ∃b:UInt8,el k=[.v (.int .u8 (b.toNat:Nat))]:=by
 have h1:=List.all_eq_true.1 h k (by simpa using hk);unfold isByte at h1
 split at h1
 ·rename_i x hx
  simp only[cu,fT]at h1;refine⟨UInt8.ofNat x.toNat,?_⟩;have e:((UInt8.ofNat x.toNat).toNat:Int)=x:=by
   simp only[UInt8.toNat_ofNat'];omega
  rw[e,hx]
 ·cases h1
theorem Oc{A:Nat→Prop}{n:Nat}{el:Nat→List IV}{xs:List Value}(h:ku A w n 1 el xs)(hb:isBytes n el):
  xs=((bytesOf n el).map λb=>(b.toNat:Int)).map (Value.int .u8):=by
 apply List.ext_getElem?
 intro i;by_cases hi:i<n
 ·have hil:i<xs.length:=by rw[h.1];omega
  obtain⟨b,hel⟩:=F7 hb i hi;have hr:=(h.2.2 i 0 hi (by omega)).2;rw[hel]at hr;simp only[List.getD_cons_zero,Nat.mul_one,Nat.add_zero]at hr;have hx:xs.getD i undef= .int .u8 (b.toNat:Nat):=by
   generalize xs.getD i undef=q at hr;cases hr;rfl
  have hx':xs[i]? =some (.int .u8 (b.toNat:Nat)):=by
   rw[dR,List.getElem?_eq_getElem hil]at hx;rw[List.getElem?_eq_getElem hil];simpa using hx
  rw[hx'];simp[bytesOf,hi,hel,byteOf]
 ·rw[List.getElem?_eq_none (by rw[h.1];omega),List.getElem?_eq_none (by simp[bytesOf];omega)]
theorem QB(H:Holds C B S a w){s d:TypeId}{x:Operand}(hop:o.op= .convert s d x)
  (h:El P S.mem s d (cZ S.tm x)=some r) (hc: ∀p∈r.conds,p) (hK:Cont C B slot (S.apply o.dst r) K):o.uI P a w K Q:=by
 have hx:=bP H x;unfold El at h
 split at h
 ·rename_i e hs hd
  split at h
  ·rename_i n sz el cs rs he hv
   cases hsz:(Nat.beq sz 1 || Nat.beq n 0)with
   | false=>rw[hsz]at h;cases h
   | true=>
     rw[hsz]at h;simp only[cond_true,fK]at h;subst h;obtain⟨ad,cap,pq,hn,hsl⟩:=w9 H hx hv (λq hq=>hc q (by simp[hq]));have hib:isBytes n el:=hc _ (by simp);have Eu:qA (aT C.A0 B S.mem) w n 1 el ad:=by
      simp only[Bool.or_eq_true,Nat.beq_eq]at hsz;rcases hsz with rfl|rfl
      ·exact hsl
      ·exact hsl.zero
     refine dV H hK (v:= .string ⟨⟨bytesOf n el⟩⟩) ?_ (aV.lit _) rfl;have hcells:=Oc Eu.row hib;have asI:(convert s d (a.eval x)).run P w= .ok (.string ⟨⟨bytesOf n el⟩⟩) w:=by
      rw[pq,run_convert_bytes_string w s d e ad n cap hs he hd];cases ad with
      | none=>
        have:n=0:=by rcases Eu with h|⟨_,_,h,_⟩<;>first|exact h|cases h
        subst this;simp[Conv.bytesToString,bytesOf];rfl
      | some ad=>
        have hload:(loadCells ad n).run P w= .ok (((bytesOf n el).map λb=>(b.toNat:Int)).map (Value.int .u8)).toArray w:=by
         have:=run_loadCells_list (P:=P) w ad (iV w n 1 (some ad)) Eu.news.1;rw[Eu.length,Nat.mul_one,hcells]at this;exact this
        rw[run_bytesToString w ad n cap _ hload,foldl_push_bytes]
        congr 2
        apply ByteArray.ext
        simp only[ByteArray.empty,ByteArray.emptyWithCapacity]
        apply Array.ext'
        show(#[]:Array UInt8).toList++_=_
        simp[Function.comp_def];rfl
     simp[execOp,hop,asI]
  ·cases h
 ·obtain⟨hu,v,hrun,hrel⟩:=Qq h hx
  exact dV H hK (v:=v) (by simp[execOp,hop,hrun]) hrel hu
theorem ac9(H:Holds C B S a w){c:Call}{z:Operand}(hop:o.op= .call c)(hb:c.callee= .builtin .cap){t:TypeId}(hts:c.argTypes.toList=[t])(hxs:c.args= #[z])
  (h:aoq P t (cZ S.tm z)=some r) (hK:Cont C B slot (S.apply o.dst r) K):o.uI P a w K Q:=by
 have hx:=bP H z;have hty:c.argTypes= #[t]:=Array.ext' (by simpa using hts);unfold aoq at h
 split at h
 ·rename_i e hu hxe
  rw[hxe]at hx;cases h;have hv:(Builtin.cap_ #[t] o.type #[a.eval z]).run P w= .ok (goInt 0) w:=by
   rw[hx.plain];simp[Builtin.cap_,run_underlying hu]
  refine dV H hK (v:=goInt 0) ?_ (aV.lit _) rfl;simp[execOp,hop,resolve,hb,hxs,hty,invoke,builtin,hv]
 ·cases h
theorem ada(H:Holds C B S a w){c:Call}{z:Operand}(hop:o.op= .call c)(hb:c.callee= .builtin .len){t:TypeId}(hts:c.argTypes.toList=[t])(hxs:c.args= #[z])
  (h:aon P t (cZ S.tm z)=some r) (hK:Cont C B slot (S.apply o.dst r) K):o.uI P a w K Q:=by
 have hx:=bP H z;have hty:c.argTypes= #[t]:=Array.ext' (by simpa using hts);have hbase: ∀v:Value,(Builtin.len_ #[t] o.type #[a.eval z]).run P w= .ok v w→(execOp a.eval o).run P w= .ok (.value v) w:=by
  intro v hv;simp[execOp,hop,resolve,hb,hxs,hty,invoke,builtin,hv]
 unfold aon at h
 split at h
 ·rename_i s hu hxe
  rw[hxe]at hx;cases h;refine dV H hK (v:=goInt s.size) (hbase _ ?_) (aV.lit _) rfl;rw[hx.plain];simp[Builtin.len_,run_underlying hu]
 ·rename_i e n sz el hu hxe
  rw[hxe]at hx;cases h;refine dV H hK (v:=goInt n) (hbase _ ?_) (aV.lit _) rfl;generalize a.eval z=vz at hx;cases hx with
  | c _ _ hi=>cases hi<;>simp[Builtin.len_,run_underlying hu]
 ·rename_i e hu hxe
  rw[hxe]at hx;cases h;refine dV H hK (v:=goInt 0) (hbase _ ?_) (aV.lit _) rfl;rw[hx.plain];simp[Builtin.len_,run_underlying hu]
 ·rename_i e b n sz hu hxe
  rw[hxe]at hx;cases h;refine dV H hK (v:=goInt n) (hbase _ ?_) (aV.lit _) rfl;generalize a.eval z=vz at hx;cases hx<;>simp[Builtin.len_,run_underlying hu]
 ·rename_i e b k n sz hu hxe
  rw[hxe]at hx;cases h;refine dV H hK (v:=goInt n) (hbase _ ?_) (aV.lit _) rfl;generalize a.eval z=vz at hx;cases hx<;>simp[Builtin.len_,run_underlying hu]
 ·rename_i n e hu
  cases h;refine dV H hK (v:=goInt n) (hbase _ ?_) (aV.lit _) rfl;simp[Builtin.len_,run_underlying hu]
 ·cases h
theorem adb(H:Holds C B S a w){c:Call}{zx zy:Operand}(hop:o.op= .call c)(hb:c.callee= .builtin .min)(hxs:c.args= #[zx,zy])
  (h:aoo (cZ S.tm zx) (cZ S.tm zy)=some r) (hK:Cont C B slot (S.apply o.dst r) K):o.uI P a w K Q:=by
 have hx:=bP H zx;have hy:=bP H zy;unfold aoo at h
 split at h
 ·rename_i k i k' j hxe hye
  rw[hxe]at hx;rw[hye]at hy;cases h;refine dV H hK (v:= .int k (if j<i then j else i)) ?_ (aV.lit _) rfl;simp[execOp,hop,resolve,hb,hxs,invoke,builtin,hx.plain,hy.plain,Builtin.min_,Builtin.min2]
 ·cases h
theorem ade(H:Holds C B S a w){c:Call}{zx zy:Operand}(hop:o.op= .call c)(hb:c.callee= .builtin .max)(hxs:c.args= #[zx,zy])
  (h:aop (cZ S.tm zx) (cZ S.tm zy)=some r) (hK:Cont C B slot (S.apply o.dst r) K):o.uI P a w K Q:=by
 have hx:=bP H zx;have hy:=bP H zy;unfold aop at h
 split at h
 ·rename_i k i k' j hxe hye
  rw[hxe]at hx;rw[hye]at hy;cases h;refine dV H hK (v:= .int k (if j>i then j else i)) ?_ (aV.lit _) rfl;simp[execOp,hop,resolve,hb,hxs,invoke,builtin,hx.plain,hy.plain,Builtin.max_,Builtin.max2]
 ·cases h
theorem Ll{z:Value}{n:Nat}(h:z.cells.toList.all (·.oneCell')=true): ∀v∈(Builtin.zeroCells z.cells n).toList,v.oneCell'=true:=by
 intro v hv;simp only[Builtin.zeroCells,Array.toList_map,List.mem_map]at hv;obtain⟨i,hi,rfl⟩:=hv;have hi:i<n*z.cells.size:=by simpa using hi
 have hlt:i%z.cells.size<z.cells.size:=Nat.mod_lt _ (by
  rcases Nat.eq_zero_or_pos z.cells.size with h0|h0
  ·rw[h0,Nat.mul_zero]at hi;omega
  ·exact h0)
 rw[getElem!_pos z.cells _ hlt];exact List.all_eq_true.1 h _ (by simpa using Array.getElem_mem hlt)
theorem Uh(H:Holds C B S a w){c:Call}{z:Operand}(hop:o.op= .call c)(hb:c.callee= .builtin .clear){t:TypeId}(hts:c.argTypes.toList=[t])(hxs:c.args= #[z])
  (h:Ei P S.mem t (cZ S.tm z)=some r) (hK:Cont C B slot (S.apply o.dst r) K):o.uI P a w K Q:=by
 have hx:=bP H z;have hty:c.argTypes= #[t]:=Array.ext' (by simpa using hts);have hbase: ∀(v:Value) (w':World),(Builtin.clear_ #[t] o.type #[a.eval z]).run P w= .ok v w'→(execOp a.eval o).run P w= .ok (.value v) w':=by
  intro v w' hv;simp[execOp,hop,resolve,hb,hxs,hty,invoke,builtin,hv]
 unfold Ei at h
 split at h
 ·rename_i e b k n sz hu hxe
  rw[hxe]at hx
  split at h
  ·rename_i p zv n' sz' el e' hp hz hm
   cases hall:(Nat.beq p sz&&(Nat.beq sz' sz&&(Nat.ble k n'&&(Nat.beq zv.cells.size sz&&zv.cells.toList.all (·.oneCell')))))with
   | false=>rw[hall]at h;cases h
   | true=>
     rw[hall]at h;simp only[cond_true,fK]at h;subst h;simp only[cu,Nat.beq_eq,Nat.ble_eq]at hall;obtain⟨rfl,rfl,hkn,hzs,hone⟩:=hall;generalize pq:a.eval z=vz at hx;cases hx with
     | IL _ _ _ _ cap β hβ hn h0 hcc=>
       obtain⟨Cc,tt,fz,hcell,hsize⟩:=hcc;rcases H.mem b _ hm with⟨γ,hγ,hent⟩|⟨hno,_⟩
       ·rw[hβ]at hγ
        cases hγ;rw[hcell]at hent;cases hent with
        | arr _ _ _ _ cs hcs hlen hrel=>
          have hzl:(Builtin.zeroCells zv.cells n).toList.length=n*sz':=by simp[Builtin.zeroCells,hzs]
          have hst:=run_storeCells_at P β (k*sz') e' (Builtin.zeroCells zv.cells n).toList 0 Cc w hcell (by rw[hzl,Nat.add_zero];rw[Nat.add_mul]at hsize;omega) (Ll hone);have hn0:n≠0:=by omega
          have hrun:(Builtin.clear_ #[t] o.type #[a.eval z]).run P w= .ok (.tuple #[]) (w.setRow β (Cc.toList.take (k*sz'+0)++(Builtin.zeroCells zv.cells n).toList++Cc.toList.drop (k*sz'+0+(Builtin.zeroCells zv.cells n).toList.length)).toArray):=by
           rw[pq];cases n with
           | zero=>exact absurd rfl hn0
           | succ n=>simp[Builtin.clear_,Sem.run_bind,run_underlying hu,wB hz,hst]
          have hz2:(Builtin.zeroCells zv.cells n).toList.length=n*sz':=hzl;generalize (Builtin.zeroCells zv.cells n).toList=zs at hrun hz2;rw[Nat.add_mul]at hsize;have hcl:Cc.toList.length=Cc.size:=by simp
          have hsz2:(Cc.toList.take (k*sz'+0)++zs++Cc.toList.drop (k*sz'+0+zs.length)).toArray.size=Cc.size:=by
           simp only[List.size_toArray,List.length_append,List.length_take,List.length_drop,hz2,hcl];omega
          have hget: ∀i,i<k*sz'→(Cc.toList.take (k*sz'+0)++zs++Cc.toList.drop (k*sz'+0+zs.length)).toArray.getD i undef=Cc.getD i undef:=by
           intro i hi;have h1:i<(Cc.toList.take (k*sz')).length:=by rw[List.length_take,hcl];omega
           simp only[oQ,List.getElem?_toArray,Nat.add_zero];rw[List.append_assoc,List.getElem?_append_left h1,List.getElem?_take_of_lt hi];simp
          have QA:iK (aT C.A0 B S.mem) B w (.arr k sz' el e') (some (.cells (Cc.toList.take (k*sz'+0)++zs++Cc.toList.drop (k*sz'+0+zs.length)).toArray e' (0,0))):=by
           refine .arr k sz' el e' _ (by rw[hsz2];omega) (λi hi=>hlen i (by omega)) λi j hi hj=> ?_
           rw[hget _ (jQ hi hj)];exact hrel i j (by omega) hj
          have H2:=H.setRow hm hβ hcell hsz2 QA;exact kV hK (B':=B) (v:= .tuple #[]) (hbase _ _ hrun) H2 (.iC [] #[] rfl (λj hj=>absurd hj (Nat.not_lt_zero j))) (λ_ _=>rfl)
       ·rw[hβ]at hno;cases hno
  ·cases h
 ·cases h
theorem QC{x y:Value}(h:Cn x y=true):x=y:=by
 unfold Cn at h
 split at h<;>first|rfl|cases h
theorem Lm(H:Holds C B S a w)(hC:C.Ok)(hs:B slot=none)(hnx:Between C S slot){t:TypeId}(hop:o.op= .alloc t){n p:Nat}{ze z:Value}(hz:qz P t=some z)(hzc:ze.cells.size=p+1)
  (h:IW slot t n (p+1) ze z=some r) (hK:Cont C B slot (S.apply o.dst r) K):o.uI P a w K Q:=by
 unfold IW at h;cases hall:(Nat.beq z.cells.toList.length (n*(p+1))&&ze.cells.toList.all (·.oneCell')&&(List.range (n*(p+1))).all (λj=>Cn (z.cells.toList.getD j undef) (ze.cells.toList.getD (j%(p+1)) undef)))with
 | false=>rw[hall]at h;cases h
 | true=>
   rw[hall]at h;simp only[cond_true,fK]at h;subst h;simp only[cu,Nat.beq_eq]at hall;obtain⟨⟨hlen,hok⟩,hsame⟩:=hall;have hent:=Mc (A:=aT C.A0 B S.mem) (B:=B) (w:=w) (n:=n) (p:=p) (z:=ze) (e:=t) (cs:=z.cells) hzc hok (by simpa using hlen) (λi hi=>by
    have:=List.all_eq_true.1 hsame i (by simpa using hi);have:=QC this;simpa[oQ,dR]using this)
   refine kV hK (w':=w.alloc (.cells z.cells t)) (v:= .pointer (some ⟨w.heap.size,0,none⟩)) (B':=ji B slot w.heap.size) ?_ (H.alloc hC hs hnx hent) ?_ (λj hj=>by simp[ji,hj])
   ·simp[execOp,hop,Instr.alloc,wB hz,newVar,newRow]
   ·have:=aV.kI (A:=aT C.A0 (ji B slot w.heap.size) (dA S.mem [(slot,some (.arr n (p+1) (λ_=>ze.cells.toList.map .v) t))])) (B:=ji B slot w.heap.size) (w:=w.alloc (.cells z.cells t)) slot 0 0 (p+1) w.heap.size (by simp[ji])
    simpa using this
theorem yV(H:Holds C B S a w)(hC:C.Ok)(hs:B slot=none)(hnx:Between C S slot){t:TypeId}{n:Nat}{ps:Array (Nat×Operand)}(hop:o.op= .buildSlice t n ps)
  (ys:List (Nat×AV)) (hyl:(ps.toList.map λ(i,x)=>(i,a.eval x)).length=ys.length) (hyr: ∀j,j<ys.length→((ps.toList.map λ(i,x)=>(i,a.eval x)).getD j (0,undef)).1=(ys.getD j (0,.any)).1∧aV (aT C.A0 B S.mem) B w (ys.getD j (0,.any)).2 ((ps.toList.map λ(i,x)=>(i,a.eval x)).getD j (0,undef)).2)
  (h:rz P slot t n ys=some r) (hK:Cont C B slot (S.apply o.dst r) K):o.uI P a w K Q:=by
 unfold rz at h
 split at h
 ·rename_i e hu
  split at h
  ·rename_i p z hp hz
   cases ah9:(Nat.beq n 0&&ys.isEmpty)with
   | true=>
     rw[ah9]at h;simp only[cond_true,fK]at h;subst h;simp only[cu,Nat.beq_eq,List.isEmpty_iff]at ah9;obtain⟨rfl,hys⟩:=ah9;subst hys;have hps:ps= #[]:=by
      have:ps.toList.length=0:=by simpa using hyl
      exact Array.ext' (List.eq_nil_of_length_eq_zero this)
     subst hps;have hrow:ku (aT C.A0 B S.mem) w 0 (p+1) (λ_=> []) []:=⟨by simp,λk hk=>by omega,λk j hk hj=>by omega⟩
     have hent:=hrow.ent (B:=B) (cs:= #[]) (by simp) e;refine kV hK (w':=w.alloc (.cells #[] e)) (v:= .slice (some ⟨w.heap.size,0,none⟩) 0 0) (B':=ji B slot w.heap.size) ?_ (H.alloc hC hs hnx hent) ?_ (λj hj=>by simp[ji,hj])
     ·simp[execOp,hop,Instr.buildSlice,run_underlying hu,gN hp,Instr.fill,newRow];exact congrArg (λl=>w.alloc (Obj.cells l e)) (Array.ext' (by simp))
     ·exact .iP slot 0 (p+1) 0 w.heap.size (by simp[ji]) (Nat.le_refl _) (by unfold maxLen;omega) ⟨_,e,(0,0),heap_alloc_new w _,by simp⟩
   | false=>
   rw[ah9]at h;simp only[cond_false]at h
   split at h
   ·rename_i l hf
    split at h
    ·rename_i c hcm
     cases hall:(Nat.ble (n*(p+1)) 16777216&&Nat.beq z.cells.size (p+1)&&l.all jo&& !Nat.beq n 0)with
     | false=>rw[hall]at h;cases h
     | true=>
       rw[hall]at h;simp only[cond_true,fK]at h;subst h;simp only[cu,Nat.ble_eq,Nat.beq_eq,Bool.not_eq_true']at hall;obtain⟨⟨⟨hbig,hzc⟩,hok⟩,hn0⟩:=hall;have hne:n≠0:=by rintro rfl;cases hn0
       have hnp: ¬n*(p+1)=0:=Nat.mul_ne_zero hne (by omega)
       let zs:List Value:=(List.range (n*(p+1))).map λj=>z.cells[j%z.cells.size]!
       have hz0:eF (aT C.A0 B S.mem) B w ((List.range (n*(p+1))).map λj=>AV.c (.v (z.cells[j%z.cells.size]!))) zs:=by
        have:=mR (A:=aT C.A0 B S.mem) (B:=B) (w:=w) zs;simpa[zs,List.map_map,Function.comp_def,Ec]using this
       obtain⟨cs',Qs,hr'⟩:=wZ (place:=λi=>some (i*(p+1),p+1)) (λi q hi=>by
        simp only[List.getElem?_map,Option.map_eq_some_iff]at hi;obtain⟨j,hj,rfl⟩:=hi;rw[List.getElem?_eq_some_iff]at hj;obtain⟨_,rfl⟩:=hj;simp) _ (ps.toList.map λ(i,x)=>(i,a.eval x)) _ l zs hf hz0 hyl hyr
       rw[qH hcm]at hr' hok;have h1:=sw hr' hok;obtain⟨hcl,hcr⟩:=yT hr';have hfl:cs'.length=n*(p+1):=by
        have hfa: ∀(pl:List (Nat×Nat)) (parts:List (Nat×AV)) (l0 l1:List AV),yh pl l0 parts=some l1→l1.length=l0.length:=by
         intro pl parts
         induction parts with
         | nil=>intro l0 l1 h;simp only[yh,fK]at h;rw[h]
         | cons q parts ih=>
           obtain⟨i,x⟩:=q;intro l0 l1 h;simp only[yh]at h;cases hpl:pl[i]? with
           | none=>simp[hpl]at h
           | some q=>
             obtain⟨off,m⟩:=q;simp only[hpl]at h;cases hb:(Nat.beq (jP x).length m&&Nat.ble (off+m) l0.length&&(jP x).all jo)with
             | false=>rw[hb]at h;cases h
             | true=>
               rw[hb]at h;simp only[cond_true]at h;simp only[cu,Nat.beq_eq,Nat.ble_eq]at hb;rw[ih _ _ h];simp;omega
        have:=hfa _ _ _ _ hf;rw[qH hcm]at this;rw[hcl];simpa[Qk]using this
       have hrow:ku (aT C.A0 B S.mem) w n (p+1) (λk=>(c.drop (k*(p+1))).take (p+1)) cs':=by
        refine⟨hfl,λk hk=> ?_,λk j hk hj=> ?_⟩
        ·have:k*(p+1)+(p+1)≤n*(p+1):=by
          calc k*(p+1)+(p+1)=(k+1)*(p+1):=by rw[Nat.add_mul,Nat.one_mul]
           _≤n*(p+1):=Nat.mul_le_mul_right _ hk
         simp;omega
        ·have hlt:=jQ hk hj
         have hlc:k*(p+1)+j<cs'.length:=by rw[hfl];exact hlt
         have e1:((c.drop (k*(p+1))).take (p+1)).getD j (.v undef)=c.getD (k*(p+1)+j) (.v undef):=by
          simp[dR,List.getElem?_take,hj,List.getElem?_drop]
         rw[e1];refine⟨h1 _ ?_,hcr _ (by omega)⟩;rw[dR,List.getElem?_eq_getElem hlc];exact List.getElem_mem hlc
       have hent:=hrow.ent (B:=B) (cs:=cs'.toArray) (by simp only[];rw[List.take_of_length_le (by omega)]) e;have hbig': ¬n*(p+1)>2^24:=by omega
       refine kV hK (w':=w.alloc (.cells cs'.toArray e)) (v:= .slice (some ⟨w.heap.size,0,none⟩) n n) (B':=ji B slot w.heap.size) ?_ (H.alloc hC hs hnx hent) ?_ (λj hj=>by simp[ji,hj])
       ·have aot:Instr.fill (λi=>some (i*(p+1),p+1)) ((Array.range (n*(p+1))).map (z.cells[· % z.cells.size]!)) (ps.map λ(i,x)=>(i,a.eval x)).toList=some cs'.toArray:=by
         have e1:((Array.range (n*(p+1))).map (z.cells[· % z.cells.size]!))=zs.toArray:=by
          apply Array.ext';simp[zs]
         rw[e1];simpa using Qs
        simp only[execOp,hop,Instr.buildSlice,Sem.run_bind,run_underlying hu,Result.andThen_ok,gN hp,if_neg hbig',if_neg hnp,wB hz,Sem.run_pure,Sem.run_ite];rw[aot];simp[newRow]
       ·refine .iP slot n (p+1) n w.heap.size (by simp[ji]) (Nat.le_refl _) ?_ ⟨_,e,(0,0),heap_alloc_new w _,by simpa using hfl⟩
        unfold maxLen;have:n≤n*(p+1):=Nat.le_mul_of_pos_right _ (by omega);omega
    ·cases h
   ·cases h
  ·cases h
 ·cases h
theorem GN(H:Holds C B S a w)(hC:C.Ok)(hs:B slot=none)(hnx:Between C S slot){t:TypeId}{n:Nat}{ps:Array (Nat×Operand)}(hop:o.op= .buildSlice t n ps)
  (h:rz P slot t n (ps.toList.map λ(i,x)=>(i,cZ S.tm x))=some r) (hK:Cont C B slot (S.apply o.dst r) K):o.uI P a w K Q:=by
 refine yV H hC hs hnx hop _ (by simp) (λj hj=> ?_) h hK;have hj':j<ps.toList.length:=by simpa using hj
 simp only[dR,List.getElem?_map,List.getElem?_eq_getElem hj',Option.map_some,Option.getD_some];exact⟨trivial,bP H _⟩
end
end Go.bI
namespace Go.bI
open Go.RowKit
section
variable{P:Program}{C:Ctx}{B:eB}{S:St}{a:Act}{w:World}{o:Oper}{r:Eff}{slot:Nat}
 {K:Act→World→Prop} {Q:Exit→Act→World→Prop}
theorem xk{t:TypeId}(h:oV P t=true): ∃k e,P.underlying t=some (.map k e)∧P.underlying k=some (.int .i64):=by
 unfold oV at h
 split at h
 ·rename_i k e ht
  split at h
  ·rename_i hk
   exact⟨k,e,ht,hk⟩
  ·cases h
 ·cases h
theorem Holds.anM(H:Holds C B S a w){s β:Nat}{e e':jk}(hm:S.mem s=some e)(hβ:B s=some β){o0 o':Obj}(hc:w.heap[β]? =some o0)(hnc: ∀cs t fz,o0≠ .cells cs t fz)
  (he:iK (aT C.A0 B S.mem) B w e' (some o')):Holds C B {S with mem:=S.mem.set s (some e')} a (w.putObj β o'):=by
 have hown:aT C.A0 B S.mem β:= .inr ⟨s,e,hm,hβ⟩;have hlt:β<w.heap.size:=lt_of_heap hc;have hother: ∀b,b≠β→(w.putObj β o').heap[b]? =w.heap[b]? :=λb hb=>World.putObj_heap_other hb
 have hrow: ∀(k:Nat) (D:Array Value) (t:TypeId) (fz:Nat×Nat),w.heap[k]? =some (.cells D t fz)→ ∃D' t' TM,(w.putObj β o').heap[k]? =some (.cells D' t' TM)∧D'.size=D.size:=by
  intro k D t fz hD;by_cases hk:k=β
  ·subst hk
   rw[hc]at hD;exact absurd (Option.some.inj hD) (hnc _ _ _)
  ·exact⟨D,t,fz,by rw[hother k hk];exact hD,rfl⟩
 have hk:Kept (λb=>b=β) w (w.putObj β o'):=⟨rfl,rfl,rfl,by simp,λk _ hk=>hother k hk,hrow⟩
 have ht:Trans (aT C.A0 B S.mem) w (w.putObj β o'):=⟨by simp,λb hb hn=>hother b (by rintro rfl;exact hn hown),λb _ D t2 fz2 hD=>hrow b D t2 fz2 hD⟩
 have hA0: ∀b,aT C.A0 B (S.mem.set s (some e')) b→aT C.A0 B S.mem b:=by
  intro b h;rcases h with h|⟨j,e2,h1,h2⟩
  ·exact .inl h
  ·rw[bR]at h1
   by_cases hj:j=s
   ·subst hj;exact .inr ⟨j,e,hm,h2⟩
   ·simp only[hj,if_false]at h1;exact .inr ⟨j,e2,h1,h2⟩
 refine{defers:=H.defers,size:=H.size,tm:=λt h=>(H.tm t h).trans ht (λb _ h=>hA0 b h) (λ_ _ h=>h),mem:=?_,inj:=?_,kept:=?_,old:=λj γ h=>⟨(H.old j γ h).1,Nat.lt_of_lt_of_le (H.old j γ h).2 hk.size⟩,fresh:=H.fresh,base:=H.base,uF:=H.uF}
 ·intro j e2 hj
  simp only[bR]at hj;by_cases hjs:j=s
  ·subst hjs
   simp only[if_true,fK]at hj;subst hj;refine .inl ⟨β,hβ,?_⟩;rw[World.putObj_heap_same hlt];exact he.trans ht (λb _ h=>hA0 b h) (λ_ _ h=>h)
  ·simp only[hjs,if_false]at hj
   rcases H.mem j e2 hj with⟨γ,h1,h3⟩|h
   ·refine .inl ⟨γ,h1,?_⟩
    rw[hother γ (by rintro rfl;exact hjs (H.inj j s _ _ γ hj hm h1 hβ))];exact h3.trans ht (λb _ h=>hA0 b h) (λ_ _ h=>h)
   ·exact .inr h
 ·have live: ∀j e2,(S.mem.set s (some e')) j=some e2→ ∃e3,S.mem j=some e3:=by
   intro j e2 hj;rw[bR]at hj;by_cases hjs:j=s
   ·subst hjs;exact⟨e,hm⟩
   ·simp only[hjs,if_false]at hj;exact⟨e2,hj⟩
  intro j j' e1 e2 γ m1 m2 h1 h2;obtain⟨e3,m1⟩:=live j e1 m1;obtain⟨e4,m2⟩:=live j' e2 m2;exact H.inj j j' e3 e4 γ m1 m2 h1 h2
 ·refine H.kept.trans hk λi hi hib=> ?_
  subst hib;rcases(H.old s i hβ).1 with h|h
  ·exact absurd hi (Nat.not_lt.2 h)
  ·exact h
theorem keys_nil:wX [] #[] 0:=⟨rfl,rfl,λi hi=>by simp at hi,λi hi=>by simp at hi,λi hi=>by simp at hi⟩
theorem Z4{es:List (Int×IV)}{entries:Array MapEntry}{clock:Nat}(h:wX es entries clock)(n:Int)(y:IV)(v:Value)(hv:v.oneCell'=true):
  wX (es++[(n,y)]) (entries.push {key:= .int .i64 n,val:=v,born:=clock}) (clock+1):=by
 have hs:=h.size;have hc:=h.clock
 have key: ∀i,i<(es++[(n,y)]).length→(i<es.length∧(entries.push {key:= .int .i64 n,val:=v,born:=clock}).getD i me0=entries.getD i me0∧(es++[(n,y)]).getD i mz=es.getD i mz)∨
   (i=es.length∧(entries.push {key:= .int .i64 n,val:=v,born:=clock}).getD i me0={key:= .int .i64 n,val:=v,born:=clock}∧(es++[(n,y)]).getD i mz=(n,y)):=by
  intro i hi;simp only[List.length_append,List.length_singleton]at hi;by_cases hlt:i<es.length
  ·refine .inl ⟨hlt,?_,?_⟩
   ·simp only[oQ,Array.getElem?_push_lt (show i<entries.size by omega),Array.getElem?_eq_getElem (show i<entries.size by omega)]
   ·simp[dR,List.getElem?_append_left hlt]
  ·obtain rfl:i=es.length:=by omega
   refine .inr ⟨rfl,?_,?_⟩
   ·rw[←hs]
    simp[oQ]
   ·simp[dR]
 refine⟨by simp[hs],by simp[hc],λi hi=> ?_,λi hi=> ?_,λi hi=> ?_⟩
 ·rcases key i hi with⟨h1,h2,h3⟩|⟨h1,h2,h3⟩
  ·rw[h2,h3];exact h.key i h1
  ·rw[h2,h3]
 ·rcases key i hi with⟨h1,h2,h3⟩|⟨h1,h2,h3⟩
  ·rw[h2];exact h.born i h1
  ·rw[h2,h1];exact hc
 ·rcases key i hi with⟨h1,h2,h3⟩|⟨h1,h2,h3⟩
  ·rw[h2];exact h.one i h1
  ·rw[h2];exact hv
theorem Z5{A:Nat→Prop}{es:List (Int×IV)}{entries:Array MapEntry}{clock:Nat}(h:wX es entries clock)(hv: ∀i,i<es.length→jG A w (es.getD i mz).2 (entries.getD i me0).val){n:Int}{y:IV}{v:Value}
  (hy:jG A w y v) (k:Value) (b:Nat): ∀i,i<(es++[(n,y)]).length→jG A w ((es++[(n,y)]).getD i mz).2 ((entries.push {key:=k,val:=v,born:=b}).getD i me0).val:=by
 have hs:=h.size;intro i hi;simp only[List.length_append,List.length_singleton]at hi;by_cases hlt:i<es.length
 ·have e1:(entries.push {key:=k,val:=v,born:=b}).getD i me0=entries.getD i me0:=by
   simp only[oQ,Array.getElem?_push_lt (show i<entries.size by omega),Array.getElem?_eq_getElem (show i<entries.size by omega)]
  have e2:(es++[(n,y)]).getD i mz=es.getD i mz:=by simp[dR,List.getElem?_append_left hlt]
  rw[e1,e2];exact hv i hlt
 ·obtain rfl:i=es.length:=by omega
  have e1:(entries.push {key:=k,val:=v,born:=b}).getD es.length me0={key:=k,val:=v,born:=b}:=by
   rw[←hs];simp[oQ]
  have e2:(es++[(n,y)]).getD es.length mz=(n,y):=by simp[dR]
  rw[e1,e2];exact hy
theorem Od(hC:C.Ok)(H:Holds C B S a w)(hs:B slot=none)(hnx:Between C S slot){t:TypeId}{x:Option Operand}(hop:o.op= .makeMap t x)
  (h:I5 P slot t (x.map (cZ S.tm))=some r) (hK:Cont C B slot (S.apply o.dst r) K):o.uI P a w K Q:=by
 unfold I5 at h;cases hb:(oV P t&&hintA (x.map (cZ S.tm)))with
 | false=>rw[hb]at h;cases h
 | true=>
   rw[hb]at h;simp only[cond_true,fK]at h;subst h;simp only[cu]at hb;obtain⟨k,e,ht,hk⟩:=xk hb.1;have hrun:(Instr.makeMap t (x.map a.eval)).run P w= .ok (.map (some w.heap.size)) (w.alloc (.map #[] 0)):=by
    cases x with
    | none=>exact run_makeMap t w
    | some x=>
      have hx:=bP H x;have hb2:=hb.2;simp only[Option.map_some]at hb2;unfold hintA at hb2
      split at hb2
      ·rename_i hh;cases hh
      ·rename_i k' n hh
       simp only[fK]at hh;rw[hh]at hx;simp only[Option.map_some,hx.plain];simp[Instr.makeMap,Sem.run_bind,run_underlying ht,asInt,asIntOf]
      ·cases hb2
   have hent:iK (aT C.A0 B S.mem) B w (.vJ []) (some (.map #[] 0)):= .vJ [] #[] 0 keys_nil λi hi=>by simp at hi
   exact kV hK (v:= .map (some w.heap.size)) (w':=w.alloc (.map #[] 0)) (B':=ji B slot w.heap.size) (by simp only[execOp,hop,Sem.run_bind,hrun,Result.andThen_ok,Sem.run_pure]) (H.alloc hC hs hnx hent)
    (.omap slot w.heap.size (by simp[ji])) (λj hj=>by simp[ji,hj])
theorem F8(n:Int): ∀(l:List MapEntry) (i:Nat),(∀e∈l, ∃k,e.key= .int .i64 k∧k≠n)→Instr.findNow (.int .i64) (.int .i64 n) l i=some none
 | [],_,_=>rfl
 | e::l,i,h=>by
   obtain⟨k,hk,hne⟩:=h e (by simp);have h1:(n==k)=false:=by
    cases hb:n==k with
    | false=>rfl
    | true=>exact absurd (by simpa using hb) (Ne.symm hne)
   have h2:Instr.sameNow (.int .i64) (.int .i64 n) e.key=some false:=by
    rw[hk];simp[Instr.sameNow,h1]
   unfold Instr.findNow;rw[h2];exact F8 n l (i+1) λe he=>h e (by simp[he])
theorem Jg(H:Holds C B S a w){t:TypeId}{x k v:Operand}(hop:o.op= .mapUpdate t x k v)
  (h:qF P S.mem t (cZ S.tm x) (cZ S.tm k) (cZ S.tm v)=some r) (hc: ∀p∈r.conds,p) (hK:Cont C B slot (S.apply o.dst r) K):o.uI P a w K Q:=by
 have hx:=bP H x;have hkk:=bP H k;have hv:=bP H v;unfold qF at h
 split at h
 ·rename_i b n y hxe hke hve
  rw[hxe]at hx;rw[hke]at hkk;rw[hve]at hv;have hkv:=hkk.plain
  split at h
  ·rename_i es hm
   cases hb:(oV P t&&jo (.c y))with
   | false=>rw[hb]at h;cases h
   | true=>
     rw[hb]at h;simp only[cond_true,fK]at h;subst h;simp only[cu]at hb;obtain⟨kt,et,ht,hkt⟩:=xk hb.1;have hall:(es.all λp=> !decide (p.1=n))=true:=hc _ (by simp);generalize pq:a.eval x=vx at hx;cases hx with
     | omap _ β hβ=>
       rcases H.mem b _ hm with⟨γ,hγ,hent⟩|⟨hno,_⟩
       ·rw[hβ]at hγ
        cases hγ;generalize uG:w.heap[β]? =ob at hent;cases hent with
        | vJ _ entries clock hks hvs=>
          have hone:(a.eval v).oneCell'=true:=hv.oneCell hb.2;have hfind:Instr.findNow (.int .i64) (.int .i64 n) entries.toList 0=some none:=by
           refine F8 n _ 0 λe he=> ?_
           obtain⟨i,hi,rfl⟩:=List.mem_iff_getElem.1 he;have hi':i<entries.size:=by simpa using hi
           have hie:i<es.length:=by rw[←hks.size];exact hi'
           have hk1:=hks.key i hie;have e1:entries.getD i me0=entries.toList[i]:=by simp[oQ,hi']
           rw[e1]at hk1;refine⟨_,hk1,?_⟩;have h2:=List.all_eq_true.1 hall (es.getD i mz) (by
            have:es.getD i mz=es[i]:=by simp[dR,hie]
            rw[this];exact List.getElem_mem hie)
           simpa using h2
          have hrel:jG (aT C.A0 B S.mem) w y (a.eval v):=by
           cases hv with
           | c _ _ h=>exact h
          have hrun:(Instr.mapUpdate t (.map (some β)) (.int .i64 n) (a.eval v)).run P w= .ok () (w.putObj β (.map (entries.push {key:= .int .i64 n,val:=a.eval v,born:=clock}) (clock+1))):=by
           have hg:(getObj β).run P w= .ok (.map entries clock) w:=by simp[getObj,Sem.run,uG]
           have aia: ∀m,(Instr.checkKey false (m+1) kt (.int .i64 n)).run P w= .ok () w:=by
            intro m;rw[Instr.checkKey,Sem.run_bind,run_underlying hkt,Result.andThen_ok];rfl
           have hfk:(Instr.findKey kt (.int .i64 n) entries.toList).run P w= .ok none w:=by
            simp only[Instr.findKey,Sem.run_bind,run_underlying hkt,Result.andThen_ok,hfind,Sem.run_pure]
           have hset: ∀ob',(setObj β ob').run P w= .ok () (w.putObj β ob'):=λob'=>by simp[setObj,Sem.run,uG,World.putObj]
           simp only[Instr.mapUpdate,Sem.run_bind,run_underlying ht,Result.andThen_ok,hg];rw[show(10000:Nat)=9999+1 from rfl,aia];simp only[Result.andThen_ok,hfk,hset]
          have H':=H.anM hm hβ uG (λ_ _ _ h=>by cases h) (e':= .vJ (es++[(n,y)])) (.vJ _ _ _ (Z4 hks n y (a.eval v) hone) (Z5 hks hvs hrel _ _));unfold Oper.uI;have yU:(execOp a.eval o).run P w= .ok .skip (w.putObj β (.map (entries.push {key:= .int .i64 n,val:=a.eval v,born:=clock}) (clock+1))):=by
           simp only[execOp,hop,pq,hkv,Sem.run_bind,hrun,Result.andThen_ok,Sem.run_pure]
          rw[yU];exact hK _ _ B (H'.put (x:= .c (.v undef)) (v:=undef) o.dst (aV.lit _)) (λ_ _=>rfl)
       ·rw[hβ]at hno;cases hno
  ·cases h
 ·cases h
theorem Ui(hC:C.Ok)(H:Holds C B S a w)(hs:B slot=none)(hnx:Between C S slot){t:TypeId}{x:Operand}(hop:o.op= .range t x)
  (h:TU P slot t (cZ S.tm x)=some r) (hK:Cont C B slot (S.apply o.dst r) K):o.uI P a w K Q:=by
 have hx:=bP H x;unfold TU at h
 split at h
 ·rename_i es hxe
  rw[hxe]at hx;cases hb:oV P t with
  | false=>rw[hb]at h;cases h
  | true=>
    rw[hb]at h;simp only[cond_true,fK]at h;subst h;obtain⟨kt,et,ht,hkt⟩:=xk hb;generalize pq:a.eval x=vx at hx;cases hx with
    | c _ _ hi=>
      cases hi with
      | mq _ b clock entries hA hbw hh hk hv=>
        have hrun:=run_range_map w t kt et b entries clock ht hh;have hcl:=hk.clock;subst hcl;have hent:iK (aT C.A0 B S.mem) B w (.Lf es []) (some (.mapIter (some b) es.length #[] es.length)):= .Lf es [] b (.mq es b _ entries hA hbw hh hk hv) λi hi=>by simp at hi
        exact kV hK (v:= .pointer (some ⟨w.heap.size,0,none⟩)) (w':=w.alloc (.mapIter (some b) es.length #[] es.length)) (B':=ji B slot w.heap.size) (by simp only[execOp,hop,pq,Sem.run_bind,hrun,Result.andThen_ok,Sem.run_pure])
         (H.alloc hC hs hnx hent) (.ptr slot 0 w.heap.size (by simp[ji])) (λj hj=>by simp[ji,hj])
 ·cases h
theorem adf(H:Holds C B S a w){b:Nat}{es:List (Int×IV)}{seen:List Nat}(hm:S.mem b=some (.Lf es seen)){β:Nat}(hβ:B b=some β):
  ∃bm entries,w.heap[β]? =some (.mapIter (some bm) es.length seen.toArray es.length)∧β≠bm∧w.heap[bm]? =some (.map entries es.length)∧ ¬aT C.A0 B S.mem bm∧bm<w.heap.size∧wX es entries es.length∧
   (∀i,i<es.length→jG (aT C.A0 B S.mem) w (es.getD i mz).2 (entries.getD i me0).val)∧ ∀i∈seen,i<es.length:=by
 rcases H.mem b _ hm with⟨γ,hγ,hent⟩|⟨hno,_⟩
 ·rw[hβ]at hγ
  cases hγ;generalize uG:w.heap[β]? =ob at hent;cases hent with
  | Lf _ _ bm hmq hs=>
    cases hmq with
    | mq _ _ clock entries hA hb hh hk hv=>
      have hcl:=hk.clock;subst hcl;refine⟨bm,entries,rfl,?_,hh,hA,hb,hk,hv,hs⟩;rintro rfl;exact hA (.inr ⟨b,_,hm,hβ⟩)
 ·rw[hβ]at hno;cases hno
theorem Uj(H:Holds C B S a w){x:Operand}(hop:o.op= .entry x)(h:Em S.mem (cZ S.tm x)=some r)(hK:Cont C B slot (S.apply o.dst r) K):o.uI P a w K Q:=by
 have hx:=bP H x;unfold Em at h
 split at h
 ·rename_i b hxe
  rw[hxe]at hx;obtain⟨β,hβ,pq⟩:=hx.mQ
  split at h
  ·rename_i es seen hm
   split at h
   ·rename_i i hl
    cases h;obtain⟨bm,entries,uG,hne,hbm,hA,hbw,hk,hv,hs⟩:=adf H hm hβ;have hi:i<es.length:=hs i (List.mem_of_getLast? hl);have hisz:i<entries.size:=by rw[hk.size];exact hi
    have hback:seen.toArray.back? =some i:=by rw[←hl];simp
    have hfind:entries.find? (λe=>e.born==i)=some (entries.getD i me0):=by
     rw[Array.find?_eq_some_iff_getElem];have e1:entries.getD i me0=entries[i]:=by simp[oQ,hisz]
     refine⟨by rw[hk.born i hi];simp,i,hisz,e1.symm,λj hj=> ?_⟩;have hj2:j<es.length:=by omega
     have e2:entries.getD j me0=entries[j]:=by simp[oQ,show j<entries.size by omega]
     have:=hk.born j hj2;rw[e2]at this;simp only[this,Bool.not_eq_true',beq_eq_false_iff_ne];omega
    have hg:(getObj β).run P w= .ok (.mapIter (some bm) es.length seen.toArray es.length) w:=by simp[getObj,Sem.run,uG]
    have hg2:(getObj bm).run P w= .ok (.map entries es.length) w:=by simp[getObj,Sem.run,hbm]
    have hrun:(Instr.entry (.pointer (some ⟨β,0,none⟩))).run P w= .ok (.tuple #[(entries.getD i me0).key,(entries.getD i me0).val]) w:=by
     simp[Instr.entry,Sem.run_bind,hg,hg2,hback,hfind]
    refine dV H hK (v:= .tuple #[(entries.getD i me0).key,(entries.getD i me0).val]) (by simp only[execOp,hop,pq,Sem.run_bind,hrun,Result.andThen_ok,Sem.run_pure]) ?_ rfl;rw[hk.key i hi];exact aV.vN (.cons (aV.lit _) (.cons (.c _ _ (hv i hi)) .nil))
   ·cases h
  ·cases h
 ·cases h
theorem run_next_at{r bm since c0:Nat}{seen:Array Nat}{es:Array MapEntry}{clock:Nat}(ty:TypeId)(hr:w.heap[r]? =some (.mapIter (some bm) since seen c0))(hb:w.heap[bm]? =some (.map es clock))
  (hold: ∀x∈es.toList,x.born<since) (hsc:since≤c0):
  ((leftOf es seen).size=0∧(Instr.next (.pointer (some ⟨r,0,none⟩)) false ty).run P w= .ok (.tuple #[.bool false]) w)∨
  ∃e∈(leftOf es seen).toList, ∃w1:World,(w1=w∨w1=w.drew)∧(Instr.next (.pointer (some ⟨r,0,none⟩)) false ty).run P w= .ok (.tuple #[.bool true,e.key,e.val]) (w1.putObj r (.mapIter (some bm) since (seen.push e.born) clock)):=by
 simp only[Instr.next,getObj,Sem.run_bind,Sem.run,hr,hb,Result.andThen,next_test_false seen es since c0 hold hsc,Bool.false_eq_true,if_false];unfold leftOf;have hmem: ∀x∈(Array.filter (λe=> !seen.contains e.born) es).toList,x.born<since:=λx hx=>hold x (by simp at hx⊢;exact hx.1)
 generalize Array.filter (λe=> !seen.contains e.born) es=L at hmem⊢;have e1:L.filter (λx=>decide (x.born<since))=L:=Array.filter_eq_self.2 (λx hx=>by simpa using hmem x (by simpa using hx));have e2:L.filter (λx=>decide (x.born≥since))= #[]:=by
  rw[Array.filter_eq_empty_iff];intro x hx;have:=hmem x (by simpa using hx);simp;omega
 simp only[e1,e2,Array.append_empty];by_cases h0:L.size=0
 ·left
  have:L= #[]:=Array.eq_empty_of_size_eq_zero h0;subst this;refine⟨rfl,?_⟩;simp[choose,Sem.run,Question.forced]
 ·right
  have hne:L.isEmpty=false:=by simp[Array.isEmpty,h0]
  simp only[hne,Bool.false_eq_true,if_false,Array.empty_append,Array.size_map];have hch: ∃(j:Nat) (w1:World),j<L.size∧(w1=w∨w1=w.drew)∧(choose (Question.mapNext L.size)).run P w= .ok j w1:=by
   by_cases hf:L.size≤1
   ·exact⟨0,w,by omega,.inl rfl,by simp[choose,Sem.run,Question.forced,hf]⟩
   ·exact⟨_,w.drew,Nat.mod_lt _ (by omega),.inr rfl,by
     simp only[choose,Sem.run,Question.forced,fT,hf,if_false,Question.cut];rfl⟩
  obtain⟨j,w1,hj,hal,hrun⟩:=hch;refine⟨L[j],by simp,w1,hal,?_⟩;have hr1:w1.heap[r]? =some (.mapIter (some bm) since seen c0):=by rcases hal with rfl|rfl<;>exact hr
  have hset: ∀o',(setObj r o').run P w1= .ok () (w1.putObj r o'):=λo'=>by simp[setObj,Sem.run,hr1,World.putObj]
  simp only[hrun,Array.getElem?_map,Array.getElem?_eq_getElem hj,Option.map_some,Sem.run_bind,hset,Result.andThen];rfl
theorem adg{es:List (Int×IV)}{entries:Array MapEntry}(hk:wX es entries es.length){seen:List Nat}{i:Nat}:
  (i<es.length∧(seen.any λj=>Nat.beq i j)=false)→entries.getD i me0∈(leftOf entries seen.toArray).toList:=by
 rintro⟨hi,hns⟩;have hisz:i<entries.size:=by rw[hk.size];exact hi
 have e1:entries.getD i me0=entries[i]:=by simp[oQ,hisz]
 unfold leftOf;rw[Array.mem_toList_iff,Array.mem_filter];refine⟨by rw[e1];exact Array.getElem_mem hisz,?_⟩;rw[hk.born i hi];have:i∉seen:=by
  intro hm;have:=List.any_eq_false.1 hns i hm;simp at this
 simpa using this
theorem mem_left{es:List (Int×IV)}{entries:Array MapEntry}(hk:wX es entries es.length){seen:List Nat}{e:MapEntry}(he:e∈(leftOf entries seen.toArray).toList):
  ∃i,i<es.length∧(seen.any λj=>Nat.beq i j)=false∧e=entries.getD i me0:=by
 unfold leftOf at he;rw[Array.mem_toList_iff,Array.mem_filter]at he;obtain⟨h1,h2⟩:=he;obtain⟨i,hi,rfl⟩:=Array.mem_iff_getElem.1 h1;have hie:i<es.length:=by rw[←hk.size];exact hi
 have e1:entries.getD i me0=entries[i]:=by simp[oQ,hi]
 refine⟨i,hie,?_,e1.symm⟩;have hb:=hk.born i hie;rw[e1]at hb;rw[hb]at h2;rw[List.any_eq_false];intro j hj hij;have:i=j:=by simpa using hij
 subst this;simp[hj]at h2
theorem Z6(H:Holds C B S a w){x:Operand}(hop:o.op= .next x false){rs:List Eff}(h:ac2 S.mem (cZ S.tm x)=some rs)(hK: ∀r∈rs,Cont C B slot (S.apply o.dst r) K):o.uI P a w K Q:=by
 have hx:=bP H x;unfold ac2 at h
 split at h
 ·rename_i b hxe
  rw[hxe]at hx;obtain⟨β,hβ,pq⟩:=hx.mQ
  split at h
  ·rename_i es seen hm
   obtain⟨bm,entries,uG,hne,hbm,hA,hbw,hk,hv,hs⟩:=adf H hm hβ;have hold: ∀y∈entries.toList,y.born<es.length:=by
    intro y hy;obtain⟨i,hi,rfl⟩:=List.mem_iff_getElem.1 hy;have hi':i<entries.size:=by simpa using hi
    have hie:i<es.length:=by rw[←hk.size];exact hi'
    have e1:entries.getD i me0=entries.toList[i]:=by simp[oQ,hi']
    rw[←e1,hk.born i hie];exact hie
   have hL: ∀i,i∈(List.range es.length).filter (λi=> !(seen.any λj=>Nat.beq i j))↔(i<es.length∧(seen.any λj=>Nat.beq i j)=false):=by
    intro i;simp only[List.mem_filter,List.mem_range,Bool.not_eq_true']
   have yU: ∀v w',(Instr.next (.pointer (some ⟨β,0,none⟩)) false o.type).run P w= .ok v w'→(execOp a.eval o).run P w= .ok (.value v) w':=λv w' hr=>by
    simp only[execOp,hop,pq,Sem.run_bind,hr,Result.andThen_ok,Sem.run_pure]
   rcases run_next_at (P:=P) o.type uG hbm hold (Nat.le_refl _)with⟨h0,hrun⟩|⟨e,he,w1,hw1,hrun⟩
   ·split at h
    ·cases h
     refine dV H (hK _ (List.mem_singleton.2 rfl)) (v:= .tuple #[.bool false]) (yU _ _ hrun) ?_ rfl;exact aV.vN (.cons (aV.lit _) .nil)
    ·rename_i i l hfl
     have hi:i∈(List.range es.length).filter (λi=> !(seen.any λj=>Nat.beq i j)):=by rw[hfl];simp
     have:=adg hk ((hL i).1 hi);have hemp:(leftOf entries seen.toArray).toList=[]:=by
      have:(leftOf entries seen.toArray)= #[]:=Array.eq_empty_of_size_eq_zero h0;rw[this]
     rw[hemp]at this;cases this
   ·obtain⟨i,hi,hns,rfl⟩:=mem_left hk he
    have hmem:=(hL i).2 ⟨hi,hns⟩
    split at h
    ·rename_i hfl
     rw[hfl]at hmem;cases hmem
    ·rename_i i0 l hfl
     cases h;rw[hfl]at hmem;have hKi:=hK _ (List.mem_map.2 ⟨i,hmem,rfl⟩);have H1:Holds C B S a w1:=by
      rcases hw1 with rfl|rfl
      ·exact H
      ·exact H.move (Below.refl _ w).drew
     have asJ:w1.heap[β]? =some (.mapIter (some bm) es.length seen.toArray es.length):=by rcases hw1 with rfl|rfl<;>exact uG
     have avu:w1.heap[bm]? =some (.map entries es.length):=by rcases hw1 with rfl|rfl<;>exact hbm
     have avv:bm<w1.heap.size:=by rcases hw1 with rfl|rfl<;>exact hbw
     have hv1: ∀i,i<es.length→jG (aT C.A0 B S.mem) w1 (es.getD i mz).2 (entries.getD i me0).val:=by
      rcases hw1 with rfl|rfl
      ·exact hv
      ·exact λi hi=>(hv i hi).trans (.of_below (Below.refl _ w).drew) (λ_ _ h=>h)
     have hent:iK (aT C.A0 B S.mem) B w1 (.Lf es (seen++[i])) (some (.mapIter (some bm) es.length (seen.toArray.push i) es.length)):=by
      have:=iK.Lf (A:=aT C.A0 B S.mem) (B:=B) (w:=w1) es (seen++[i]) bm (.mq es bm _ entries hA avv avu hk hv1) (λj hj=>by
       rcases List.mem_append.1 hj with hj|hj
       ·exact hs j hj
       ·obtain rfl:=List.mem_singleton.1 hj
        exact hi)
      simpa using this
     have H2:=H1.anM hm hβ asJ (λ_ _ _ h=>by cases h) hent;have hb:=hk.born i hi;rw[hb]at hrun;refine kV hKi (w':=w1.putObj β (.mapIter (some bm) es.length (seen.toArray.push i) es.length)) (B':=B) (v:= .tuple #[.bool true,(entries.getD i me0).key,(entries.getD i me0).val]) (yU _ _ hrun) H2 ?_ (λ_ _=>rfl);rw[hk.key i hi];have hvr:=hv1 i hi;have ht:Trans (aT C.A0 B S.mem) w1 (w1.putObj β (.mapIter (some bm) es.length (seen.toArray.push i) es.length)):=by
      refine⟨by simp,λb' hb' hn=>World.putObj_heap_other (by rintro rfl;exact hn (.inr ⟨b,_,hm,hβ⟩)),λb' _ D t2 fz2 hD=> ?_⟩;by_cases hbb:b'=β
      ·subst hbb
       rw[asJ]at hD;cases hD
      ·exact⟨D,t2,fz2,by rw[World.putObj_heap_other hbb];exact hD,rfl⟩
     have hA2: ∀b',b'<w1.heap.size→aT C.A0 B (dA S.mem [(b,some (jk.Lf es (seen++[i])))]) b'→aT C.A0 B S.mem b':=by
      intro b' _ h;rcases h with h|⟨j,e2,h1,h2⟩
      ·exact .inl h
      ·simp only[dA,bR]at h1
       by_cases hj:j=b
       ·subst hj;exact .inr ⟨j,_,hm,h2⟩
       ·simp only[hj,if_false]at h1;exact .inr ⟨j,e2,h1,h2⟩
     exact aV.vN (.cons (aV.lit _) (.cons (aV.lit _) (.cons (.c _ _ (hvr.trans ht hA2)) .nil)))
  ·cases h
 ·cases h
end
end Go.bI
namespace Go.bI
open Go.RowKit
def aou(P:Program)(f:FuncId)(vs:Array Value)(w:World)(R:Ending→World→Prop):Prop:=
 ((callFunc f vs).run P w= .ok (.enter f vs) w∧Calls P f vs w R)∨ ∃v w',(callFunc f vs).run P w= .ok (.value v) w'∧R (.returned v) w'
def aib(P:Program)(vs:Array Value)(w:World)(R:Ending→World→Prop):Prop:=
 ∃l rest,vs= #[qE l]++rest∧ ∃fn tmps assign body,(Instr.yield l rest).run P w= .ok (.round l fn tmps assign body) w∧RoundIn Fence.wide 0 P l fn tmps assign body w R
def iW(P:Program)(f:FuncId)(vs:Array Value)(w:World)(R:Ending→World→Prop):Prop:=
 ((P.funcs[f]?).isSome=true∧aou P f vs w R)∨(f=j5∧aib P vs w R)
theorem iW.enter{P:Program}{f:FuncId}{fn:Func}{vs:Array Value}{w:World}{R:Ending→World→Prop}(hf:P.funcs[f]? =some fn)(h:(callFunc f vs).run P w= .ok (.enter f vs) w∧Calls P f vs w R):iW P f vs w R:=
 .inl ⟨by rw[hf];rfl,.inl h⟩
theorem iW.value{P:Program}{f:FuncId}{fn:Func}{vs:Array Value}{w:World}{R:Ending→World→Prop}(hf:P.funcs[f]? =some fn)(h: ∃v w',(callFunc f vs).run P w= .ok (.value v) w'∧R (.returned v) w'):iW P f vs w R:=
 .inl ⟨by rw[hf];rfl,.inr h⟩
theorem iW.mono{P:Program}{f:FuncId}{vs:Array Value}{w:World}{R R':Ending→World→Prop}(h:iW P f vs w R)(hr: ∀e w',R e w'→R' e w'):iW P f vs w R':=by
 rcases h with⟨hs,⟨h1,h2⟩|⟨v,w',h1,h2⟩⟩|⟨hf,l,rest,hv,fn,tmps,asL,bo,h1,h2⟩
 ·exact .inl ⟨hs,.inl ⟨h1,h2.mono hr⟩⟩
 ·exact .inl ⟨hs,.inr ⟨v,w',h1,hr _ _ h2⟩⟩
 ·exact .inr ⟨hf,l,rest,hv,fn,tmps,asL,bo,h1,h2.mono hr⟩
def tJ(s:Spec):Prop:= ∀slot m m' args r,s slot m args=some r→(∀k∈r.reads,m' k=m k)→s slot m' args=some r
structure mE (C:Ctx) (P:Program) (f:FuncId) (s:Spec):Prop where
 look:tJ s
 sound: ∀slot args r (B:eB) (S:St) (a:Act) (w:World) (vs:List Value),s slot S.mem args=some r→C.Ok→Holds C B S a w→B slot=none→Between C S slot→(∀p∈r.conds,p)→
  eF (aT C.A0 B S.mem) B w args vs→iW P f vs.toArray w λe w'=> ∃v B',e= .returned v∧Holds C B' {S with mem:=dA S.mem r.upd} a w'∧
   aV (aT C.A0 B' (dA S.mem r.upd)) B' w' r.val v∧ ∀j,j≠slot→B' j=B j
structure aR (P:Program) (f:FuncId) (s:Spec):Prop where
 look: ∀slot m m' args r,s slot m args=some r→(∀k∈r.reads,m' k=m k)→s slot m' args=some r
 sound: ∀slot args r (C:Ctx) (B:eB) (S:St) (a:Act) (w:World) (vs:List Value),s slot S.mem args=some r→C.Ok→Holds C B S a w→B slot=none→Between C S slot→(∀p∈r.conds,p)→
  eF (aT C.A0 B S.mem) B w args vs→iW P f vs.toArray w λe w'=> ∃v B',e= .returned v∧Holds C B' {S with mem:=dA S.mem r.upd} a w'∧
   aV (aT C.A0 B' (dA S.mem r.upd)) B' w' r.val v∧ ∀j,j≠slot→B' j=B j
theorem aR.at{P:Program}{f:FuncId}{s:Spec}(h:aR P f s)(C:Ctx):mE C P f s:=⟨h.look,λslot args r B S a w vs=>h.sound slot args r C B S a w vs⟩
theorem zO{P:Program}{Γ:FuncId→Option Spec}(h: ∀f s,Γ f=some s→aR P f s)(C:Ctx): ∀f s,Γ f=some s→mE C P f s:=λf s hs=>(h f s hs).at C
structure aN (P:Program) (f:FuncId) (s:List AV→Option (AV×List Bool)):Prop where
 sound: ∀args v conds,s args=some (v,conds)→bI.fu v=true∧
  ∀(A:Nat→Prop) (w:World) (vs:List Value),(∀b,A b→b<w.heap.size)→(∀p∈conds,p)→eF A (λ_=>none) w args vs→
   iW P f vs.toArray w λe w'=> ∃u,e= .returned u∧aV A (λ_=>none) w' v u∧Below w.heap.size w w'
theorem eF.fu{A:Nat→Prop}{B B':eB}{w:World}{l:List AV}{cs:List Value}(h:eF A B w l cs)(hn:vK l=true):eF A B' w l cs:=
 ⟨h.1,λj hj=>(h.2 j hj).fu (uO hn j hj) B'⟩
theorem Z7(m:Mem)(b n sz:Nat):(∃n' el t,m b=some (.arr n' sz el t)∧iJ m (.iP b n sz)=(.c (.sl n sz el),[decide (n≤n')]))∨iJ m (.iP b n sz)=(.iP b n sz,[]):=by
 simp only[iJ]
 split
 ·rename_i n' sz' el t hm
  cases hb:Nat.beq sz sz' with
  | true=>
    obtain rfl:sz=sz':=by simpa using hb
    exact .inl ⟨n',el,t,hm,by simp⟩
  | false=>exact .inr (by simp)
 ·exact .inr rfl
def viewed(B:eB)(m:Mem)(ids:List Nat)(b:Nat):Prop:= ∃s∈ids, ∃e,m s=some e∧B s=some b
section
variable{C:Ctx}{B:eB}{S:St}{a:Act}{w:World}
mutual
theorem sS(H:Holds C B S a w){A:Nat→Prop}(hA: ∀b,A b→aT C.A0 B S.mem b): ∀(x:AV) (v:Value),aV (aT C.A0 B S.mem) B w x v→(∀b,A b→ ¬viewed B S.mem (rV x) b)→(∀p∈(iJ S.mem x).2,p)→
  aV A B w (iJ S.mem x).1 v
 | .iP b n sz,v,h,hv,hc=>by
   rcases Z7 S.mem b n sz with⟨n',el,t,hm,he⟩|he
   ·rw[he]at hc⊢
    have hle:n≤n':=dec (hc _ (by simp));have hvs:rW S.mem (.iP b n sz)=some (n,sz,el,[decide (n≤n')],[b]):=by simp[rW,hm]
    obtain⟨ad,cap,rfl,hn,hsl⟩:=w9 H h hvs (by intro p hp;simp only[List.mem_singleton]at hp;subst hp;exact fZ hle);cases h with
    | uH=>exact .c _ _ (.nil sz el)
    | iP _ _ _ _ β hβ _ _ _=>
      rcases H.mem b _ hm with⟨γ,hγ,hent⟩|⟨hno,_⟩
      ·rw[hβ]at hγ
       cases hγ;obtain⟨_,_,_,hsl2⟩:=Hq hent;obtain⟨b',off',he',hb,hl,hh⟩:=hsl2 n hle;simp only[fK,Addr.mk.injEq,and_true]at he';obtain⟨rfl,rfl⟩:=he';refine .c _ _ (.sl n sz el β 0 cap (λhAb=>hv β hAb ⟨b,by simp[rV],_,hm,hβ⟩) hb hn hl (λk j hk hj=>⟨(hh k j hk hj).1,(hh k j hk hj).2.1⟩) λk j hk hj=> ?_);exact(hh k j hk hj).2.2.trans (Trans.refl _ _) (λb _ h=>hA b h)
      ·rw[hβ]at hno;cases hno
   ·rw[he]
    exact h.trans (Trans.refl _ _) (λb _ h=>hA b h) (λ_ _ h=>h)
 | .agg l,v,h,hv,hc=>by
   obtain⟨cs,rfl,hr⟩:=h.kZ;simp only[iJ]at hc⊢;exact aV.tH (wD H hA l cs hr (by simpa[rV]using hv) hc)
 | .iC l,v,h,hv,hc=>by
   obtain⟨cs,rfl,hr⟩:=h.Cy;simp only[iJ]at hc⊢;exact aV.vN (wD H hA l cs hr (by simpa[rV]using hv) hc)
 | .c x,v,h,hv,hc=>h.trans (Trans.refl _ _) (λb _ h=>hA b h) (λ_ _ h=>h)
 | .ptr b off,v,h,hv,hc=>h.trans (Trans.refl _ _) (λb _ h=>hA b h) (λ_ _ h=>h)
 | .kI b k j sz,v,h,hv,hc=>h.trans (Trans.refl _ _) (λb _ h=>hA b h) (λ_ _ h=>h)
 | .IL b k n sz,v,h,hv,hc=>h.trans (Trans.refl _ _) (λb _ h=>hA b h) (λ_ _ h=>h)
 | .gq l,v,h,hv,hc=>h.trans (Trans.refl _ _) (λb _ h=>hA b h) (λ_ _ h=>h)
 | .fn f l,v,h,hv,hc=>h.trans (Trans.refl _ _) (λb _ h=>hA b h) (λ_ _ h=>h)
 | .omap b,v,h,hv,hc=>by
   have he:(∃es,S.mem b=some (.vJ es)∧iJ S.mem (.omap b)=(.c (.mq es),[]))∨iJ S.mem (.omap b)=(.omap b,[]):=by
    unfold iJ
    split
    ·rename_i es hm;exact .inl ⟨es,hm,rfl⟩
    ·exact .inr rfl
   rcases he with⟨es,hm,he⟩|he
   ·rw[he]
    cases h with
    | omap _ β hβ=>
      rcases H.mem b _ hm with⟨γ,hγ,hent⟩|⟨hno,_⟩
      ·rw[hβ]at hγ
       cases hγ;generalize uG:w.heap[β]? =ob at hent;cases hent with
       | vJ _ entries clock hk hvs=>
         exact .c _ _ (.mq es β clock entries (λhAb=>hv β hAb ⟨b,by simp[rV],_,hm,hβ⟩) (lt_of_heap uG) uG hk λi hi=>(hvs i hi).trans (Trans.refl _ _) (λb _ h=>hA b h))
      ·rw[hβ]at hno;cases hno
   ·rw[he]
    exact h.trans (Trans.refl _ _) (λb _ h=>hA b h) (λ_ _ h=>h)
 | .any,v,h,hv,hc=> .any v
theorem wD(H:Holds C B S a w){A:Nat→Prop}(hA: ∀b,A b→aT C.A0 B S.mem b): ∀(l:List AV) (cs:List Value),eF (aT C.A0 B S.mem) B w l cs→(∀b,A b→ ¬viewed B S.mem (wu l) b)→(∀p∈(lY S.mem l).2,p)→
  eF A B w (lY S.mem l).1 cs
 | [],cs,h,hv,hc=>by obtain rfl:=h.o8;exact .nil
 | x::l,cs,h,hv,hc=>by
   obtain⟨v,cs',rfl,h1,h2⟩:=h.head;simp only[lY]at hc⊢;refine .cons (sS H hA x v h1 (λb hb hw=> ?_) (λp hp=>hc p (by simp[hp]))) (wD H hA l cs' h2 (λb hb hw=> ?_) (λp hp=>hc p (by simp[hp])))
   ·obtain⟨s,hs,e,h⟩:=hw
    exact hv b hb ⟨s,by simp[wu,hs],e,h⟩
   ·obtain⟨s,hs,e,h⟩:=hw
    exact hv b hb ⟨s,by simp[wu,hs],e,h⟩
end
end
mutual
theorem Jh{m m':Mem}: ∀(x:AV),(∀k∈rV x,m' k=m k)→iJ m' x=iJ m x
 | .iP b n sz,h=>by simp only[iJ];rw[h b (by simp[rV])]
 | .agg l,h=>by simp only[iJ];rw[xq l (by simpa[rV]using h)]
 | .iC l,h=>by simp only[iJ];rw[xq l (by simpa[rV]using h)]
 | .c _,_=>rfl
 | .ptr _ _,_=>rfl
 | .kI _ _ _ _,_=>rfl
 | .IL _ _ _ _,_=>rfl
 | .gq _,_=>rfl
 | .fn _ _,_=>rfl
 | .omap b,h=>by simp only[iJ];rw[h b (by simp[rV])]
 | .any,_=>rfl
theorem xq{m m':Mem}: ∀(l:List AV),(∀k∈wu l,m' k=m k)→lY m' l=lY m l
 | [],_=>rfl
 | x::l,h=>by
   simp only[lY];rw[Jh x (λk hk=>h k (by simp[wu,hk])),xq l (λk hk=>h k (by simp[wu,hk]))]
end
mutual
theorem Mf{A A':Nat→Prop}{B B':eB}{w w':World}: ∀(x:AV) (v:Value),oU x=true→aV A B w x v→aV A' B' w' x v
 | .c (.v x),v,_,h=>by obtain rfl:=h.plain;exact aV.lit _
 | .agg l,v,hp,h=>by
   obtain⟨cs,rfl,hr⟩:=h.kZ;exact aV.tH (BA l cs (by simpa[oU]using hp) hr)
 | .iC l,v,hp,h=>by
   obtain⟨cs,rfl,hr⟩:=h.Cy;exact aV.vN (BA l cs (by simpa[oU]using hp) hr)
 | .c (.sl _ _ _),_,h,_=>by simp[oU]at h
 | .ptr _ _,_,h,_=>by simp[oU]at h
 | .kI _ _ _ _,_,h,_=>by simp[oU]at h
 | .iP _ _ _,_,h,_=>by simp[oU]at h
 | .IL _ _ _ _,_,h,_=>by simp[oU]at h
 | .gq _,_,h,_=>by simp[oU]at h
 | .fn _ _,_,h,_=>by simp[oU]at h
 | .any,_,h,_=>by simp[oU]at h
theorem BA{A A':Nat→Prop}{B B':eB}{w w':World}: ∀(l:List AV) (cs:List Value),IY l=true→eF A B w l cs→eF A' B' w' l cs
 | [],cs,_,h=>by obtain rfl:=h.o8;exact .nil
 | x::l,cs,hp,h=>by
   obtain⟨v,cs',rfl,h1,h2⟩:=h.head;simp only[IY,cu]at hp;exact .cons (Mf x v hp.1 h1) (BA l cs' hp.2 h2)
end
theorem Holds.drops{C:Ctx}{B:eB}{a:Act}{w:World}: ∀(ids:List Nat) (S:St),Holds C B S a w→Holds C B {S with mem:=dA S.mem (ids.map λb=>(b,none))} a w
 | [],S,H=>H
 | b::ids,S,H=>Holds.drops ids _ (H.drop b)
theorem qI(ids:List Nat): ∀(m:Mem) (s:Nat) (e:jk),(dA m (ids.map λb=>(b,none))) s=some e→s∉ids∧m s=some e:=by
 induction ids with
 | nil=>intro m s e h;exact⟨by simp,h⟩
 | cons b ids ih=>
   intro m s e h;simp only[List.map_cons,dA]at h;obtain⟨h1,h2⟩:=ih _ s e h;rw[bR]at h2;by_cases hs:s=b
   ·simp[hs]at h2
   ·simp only[hs,if_false]at h2
    exact⟨by simp[hs,h1],h2⟩
theorem CB(m:Mem): ∀(l k:List (Nat×Option jk)),dA m (l++k)=dA (dA m l) k
 | [],k=>rfl
 | (b,e)::l,k=>CB (m.set b e) l k
theorem Ev{P:Program}{C:Ctx}{B:eB}{S:St}{a:Act}{w:World}{o:Oper}{r:Eff}{slot:Nat}{K:Act→World→Prop}{Q:Exit→Act→World→Prop}
  (H:Holds C B S a w) (hC:C.Ok) (hs:B slot=none) (hnx:Between C S slot) {t:TypeId} {n:Nat} {ps:Array (Nat×Operand)} (hop:o.op= .buildSlice t n ps)
  (h:oF P slot S.mem t n (ps.toList.map λ(i,x)=>(i,cZ S.tm x))=some r) (hc: ∀p∈r.conds,p) (hK:Cont C B slot (S.apply o.dst r) K):o.uI P a w K Q:=by
 unfold oF at h;generalize hxs:(ps.toList.map λ(i,x)=>(i,cZ S.tm x))=xs at h;cases hany:(xs.any λp=> !(rV p.2).isEmpty)with
 | false=>
   rw[hany]at h;simp only[cond_false]at h;rw[←hxs]at h;exact GN H hC hs hnx hop h hK
 | true=>
   rw[hany]at h;simp only[cond_true,Option.map_eq_some_iff]at h;obtain⟨r0,h0,rfl⟩:=h;generalize Uk:(xs.map λp=>rV p.2).flatten=ids at hK;have asK: ∀p∈xs, ∀x∈rV p.2,x∈ids:=by
    intro p hp x hx;rw[←Uk];exact List.mem_flatten.2 ⟨rV p.2,List.mem_map.2 ⟨p,hp,rfl⟩,hx⟩
   have H':=Holds.drops ids S H;refine yV H' hC hs hnx hop (xs.map λp=>(p.1,(iJ S.mem p.2).1)) (by rw[←hxs];simp) (λj hj=> ?_) h0 ?_
   ·have hjx:j<xs.length:=by simpa using hj
    have hj':j<ps.toList.length:=by rw[←hxs]at hjx;simpa using hjx
    have hxj:xs[j]=(ps.toList[j].1,cZ S.tm ps.toList[j].2):=by
     have:xs[j]? =(ps.toList.map λ(i,x)=>(i,cZ S.tm x))[j]? :=by rw[hxs]
     rw[List.getElem?_eq_getElem hjx,List.getElem?_map,List.getElem?_eq_getElem hj']at this;simpa using this
    simp only[dR,List.getElem?_map,List.getElem?_eq_getElem hj',List.getElem?_eq_getElem hjx,Option.map_some,Option.getD_some];rw[hxj];refine⟨rfl,sS H (λb hb=> ?_) _ _ (bP H _) (λb hb=> ?_) (λp hp=> ?_)⟩
    ·rcases hb with hb|⟨t,e,h1,h2⟩
     ·exact .inl hb
     ·obtain⟨_,h4⟩:=qI ids S.mem t e h1
      exact .inr ⟨t,e,h4,h2⟩
    ·rintro⟨t,ht,e,h1,h2⟩
     rcases hb with hb|⟨t',e',h3,h4⟩
     ·rcases(H.old t b h2).1 with h3|h3
      ·exact absurd (hC.a0 b hb) (Nat.not_lt.2 h3)
      ·exact hC.Lh b hb h3
     ·obtain⟨h5,h6⟩:=qI ids S.mem t' e' h3
      refine h5 (H.inj t' t e' e b h6 h1 h4 h2 ▸ asK xs[j] (List.getElem_mem hjx) t ?_);rw[hxj];exact ht
    ·refine hc p ?_
     simp only[List.mem_append];refine .inl (List.mem_flatten.2 ⟨(iJ S.mem xs[j].2).2,List.mem_map.2 ⟨xs[j],List.getElem_mem hjx,rfl⟩,?_⟩);rw[hxj];exact hp
   ·have:(St.apply {S with mem:=dA S.mem (ids.map λb=>(b,none))} o.dst r0)=S.apply o.dst {r0 with conds:=(xs.map λp=>(iJ S.mem p.2).2).flatten++r0.conds,upd:=(ids.map λb=>(b,none))++r0.upd,reads:=ids}:=by
     simp only[St.apply,CB]
    rw[this];exact hK
theorem CF{P:Program}{slot:Nat}{m m':Mem}{t:TypeId}{n:Nat}{xs:List (Nat×AV)}{r:Eff}(h:oF P slot m t n xs=some r)(hm: ∀s∈r.reads,m' s=m s):oF P slot m' t n xs=some r:=by
 unfold oF at h⊢;cases hany:(xs.any λp=> !(rV p.2).isEmpty)with
 | false=>
   rw[hany]at h;exact h
 | true=>
   rw[hany]at h;simp only[cond_true]at h⊢;have hl: ∀p∈xs,iJ m' p.2=iJ m p.2:=by
    intro p hp;refine Jh p.2 λk hk=>hm k ?_
    obtain⟨r0,_,rfl⟩:=Option.map_eq_some_iff.1 h;exact List.mem_flatten.2 ⟨rV p.2,List.mem_map.2 ⟨p,hp,rfl⟩,hk⟩
   have e1:(xs.map λp=>(p.1,(iJ m' p.2).1))=xs.map λp=>(p.1,(iJ m p.2).1):=List.map_congr_left λp hp=>by rw[hl p hp]
   have e2:(xs.map λp=>(iJ m' p.2).2)=xs.map λp=>(iJ m p.2).2:=List.map_congr_left λp hp=>by rw[hl p hp]
   rw[e1,e2];exact h
theorem aN.spec{P:Program}{f:FuncId}{s:List AV→Option (AV×List Bool)}(h:aN P f s):aR P f (ay s) where
 look:=by
  intro slot m m' args r hr hk;unfold ay at hr⊢;cases hn:vK (lY m args).1 with
  | false=>simp[hn]at hr
  | true=>
    have Uk:r.reads=wu args:=by
     simp only[hn,cond_true]at hr;cases hsa:s (lY m args).1 with
     | none=>simp[hsa]at hr
     | some p=>simp only[hsa,fK]at hr;rw[←hr]
    rw[Uk]at hk;rw[xq args hk];exact hr
 sound:=by
  intro slot args r C B S a w vs hr hC H hs hnx hc hv;unfold ay at hr;cases hn:vK (lY S.mem args).1 with
  | false=>simp[hn]at hr
  | true=>
    simp only[hn,cond_true]at hr;cases hsa:s (lY S.mem args).1 with
    | none=>simp[hsa]at hr
    | some p=>
      obtain⟨v,conds⟩:=p;simp only[hsa,fK]at hr;subst hr;obtain⟨hnp,hcall⟩:=h.sound (lY S.mem args).1 v conds hsa
      let A:Nat→Prop:=λb=>aT C.A0 B S.mem b∧ ¬viewed B S.mem (wu args) b
      have hargs:eF A (λ_=>none) w (lY S.mem args).1 vs:=
       (wD H (A:=A) (λb h=>h.1) args vs hv (λb h=>h.2) (λp hp=>hc p (by simp[hp]))).fu hn
      refine(hcall A w vs (λb hb=>TW hC H b hb.1) (λp hp=>hc p (by simp[hp])) hargs).mono ?_;rintro e w' ⟨u,rfl,hrel,hb⟩;have H':=H.move hb;cases hpl:oU v with
      | true=>exact⟨u,B,rfl,H',Mf v u hpl hrel,λ_ _=>rfl⟩
      | false=>
        refine⟨u,B,rfl,Holds.drops (wu args) S H',?_,λ_ _=>rfl⟩;refine(hrel.fu hnp B).trans (Trans.refl _ _) (λb _ hb=> ?_) (λ_ _ h=>h);rcases hb with hb|⟨t,e,h1,h2⟩
        ·refine⟨.inl hb,?_⟩
         rintro⟨t,_,e,_,h2⟩;rcases(H.old t b h2).1 with h3|h3
         ·exact absurd (hC.a0 b hb) (Nat.not_lt.2 h3)
         ·exact hC.Lh b hb h3
        ·simp only[cond_false]at h1
         obtain⟨h3,h4⟩:=qI (wu args) S.mem t e h1;refine⟨.inr ⟨t,e,h4,h2⟩,?_⟩;rintro⟨t',h5,e',h6,h7⟩;exact h3 (H.inj t t' e e' b h4 h6 h2 h7 ▸ h5)
section
variable{P:Program}{Γ:FuncId→Option Spec}{C:Ctx}{B:eB}{S:St}{a:Act}{w:World}{o:Oper}{r:Eff}{slot:Nat}
 {K:Act→World→Prop} {Q:Exit→Act→World→Prop}
theorem apply_pure(S:St)(d:Option Tmp)(r:Eff)(h:r.upd=[]):S.apply d r={S with tm:=mD S.tm d r.val}:=by
 unfold St.apply;rw[h];rfl
theorem gX(H:Holds C B S a w)(hK:Cont C B slot (S.apply o.dst r) K){v:Value}(hrun:(execOp a.eval o).run P w= .ok (.value v) w)
  (hrel:aV (aT C.A0 B S.mem) B w r.val v) (hu:r.upd=[]):o.uI P a w K Q:=by
 unfold Oper.uI;rw[hrun];refine hK _ _ B ?_ (λ_ _=>rfl);rw[apply_pure S o.dst r hu];exact H.put o.dst hrel
theorem Ji(H:Holds C B S a w)(hs:B slot=none)(hnx:Between C S slot)(hC:C.Ok)(hK:Cont C B slot (S.apply o.dst r) K){l:List AV}{t:TypeId}(hr:IQ slot t l=some r)
  {cs:List Value} (hl:eF (aT C.A0 B S.mem) B w l cs)
  (hrun:(execOp a.eval o).run P w= .ok (.value (.pointer (some ⟨w.heap.size,0,none⟩))) (w.alloc (.cells cs.toArray t))):o.uI P a w K Q:=by
 unfold IQ at hr;cases hr;unfold Oper.uI;rw[hrun];have h1:=H.alloc hC hs hnx (e:= .cells l t) (ob:= .cells cs.toArray t) (.cells l t cs.toArray (by simpa using hl.1) λj hj=>by simpa[oQ,dR]using hl.2 j hj);have h2:=h1.put (x:= .ptr slot 0) (v:= .pointer (some ⟨w.heap.size,0,none⟩)) o.dst (.ptr slot 0 w.heap.size (by simp[ji]));exact hK _ _ _ h2 (λj hj=>by simp[ji,hj])
theorem Ew{f:FuncId}{s:Spec}(h:Bw Γ f=some s):f≠j5∧Γ f=some s:=by
 unfold Bw at h;cases hb:Nat.beq f j5 with
 | true=>rw[hb]at h;cases h
 | false=>
   rw[hb]at h;exact⟨λhe=>by rw[he]at hb;simp[Nat.beq_refl]at hb,h⟩
theorem zP(hΓ: ∀f s,Γ f=some s→mE C P f s)(H:Holds C B S a w)(hs:B slot=none)(hnx:Between C S slot)(hC:C.Ok)(hK:Cont C B slot (S.apply o.dst r) K)(hc: ∀p∈r.conds,p)
  {f:FuncId} {s:Spec} (hf:Bw Γ f=some s) {args:List AV} (hsp:s slot S.mem args=some r) {vs:List Value} (hv:eF (aT C.A0 B S.mem) B w args vs)
  (hrun:(execOp a.eval o).run P w=(callFunc f vs.toArray).run P w):o.uI P a w K Q:=by
 unfold Oper.uI;rw[hrun];obtain⟨hne,hf⟩:=Ew hf;have h:=(hΓ f s hf).sound slot args r B S a w vs hsp hC H hs hnx hc hv;rcases h with⟨_,h⟩|⟨hy,_⟩
 ·rcases h with⟨h1,h2⟩|⟨v,w',h1,v',B',h2,H',hrel,hB⟩
  ·rw[h1]
   refine h2.mono ?_;rintro e w' ⟨v,B',rfl,H',hrel,hB⟩;exact hK _ _ B' (H'.put o.dst hrel) hB
  ·rw[h1]
   cases h2;exact hK _ _ B' (H'.put o.dst hrel) hB
 ·exact absurd hy hne
theorem Um(hΓ: ∀f s,Γ f=some s→mE C P f s)(H:Holds C B S a w)(hs:B slot=none)(hnx:Between C S slot)(hC:C.Ok)(hK:Cont C B slot (S.apply o.dst r) K)(hc: ∀p∈r.conds,p)
  {s:Spec} (hf:Γ j5=some s) (hno:(P.funcs[j5]?).isNone=true) {l:Nat} {args:List AV} (hsp:s slot S.mem (.c (.v (qE l))::args)=some r) {vs:List Value} (hv:eF (aT C.A0 B S.mem) B w args vs)
  (hrun:(execOp a.eval o).run P w=(Instr.yield l vs.toArray).run P w):o.uI P a w K Q:=by
 unfold Oper.uI;rw[hrun];have h:=(hΓ j5 s hf).sound slot _ r B S a w (qE l::vs) hsp hC H hs hnx hc (hv.cons (aV.lit _));rcases h with⟨h,_⟩|⟨_,l',rest,he,fn,tmps,asL,bo,h1,h2⟩
 ·cases hq:P.funcs[j5]? with
  | none=>rw[hq]at h;cases h
  | some x=>rw[hq]at hno;cases hno
 ·have he':qE l::vs=qE l'::rest.toList:=by have:=congrArg Array.toList he;simpa using this
  injection he' with e1 e2;have hl:l=l':=by unfold qE at e1;injection e1 with e1;injection e1
  subst hl;have hr:rest=vs.toArray:=by rw[e2]
  subst hr;rw[h1];refine RoundIn.mono h2 ?_;rintro e w' ⟨v,B',rfl,H',hrel,hB⟩;exact hK _ _ B' (H'.put o.dst hrel) hB
theorem mU(f:Operand→Value)(c:Array Operand):(c.toList.map f).toArray=c.map f:=by
 apply Array.ext';simp
theorem Ey{l:List (Nat×Operand)}{f:Nat×Operand→Nat×AV}(j:Nat)(hj:j<l.length):(l.map f).getD j (0,.any)=f l[j]:=by
 simp[dR,hj]
theorem Jj(n:Int): ∀(es:List (Int×Value)) (entries:List MapEntry) (i:Nat),entries.map (λe=>(e.key,e.val))=es.map (λp=>(Value.int .i64 p.1,p.2))→
  ∃r,Instr.findNow (.int .i64) (.int .i64 n) entries i=some r∧r.map (·.2)=vL n es
 | [],entries,i,h=>by
   obtain rfl:entries=[]:=by simpa using h
   exact⟨none,rfl,rfl⟩
 | p::es,[],i,h=>by simp at h
 | p::es,e::entries,i,h=>by
   simp only[List.map_cons,List.cons.injEq,Prod.mk.injEq]at h;obtain⟨⟨hk,hv⟩,h⟩:=h;simp only[Instr.findNow,hk,Instr.sameNow,if_true,vL];by_cases hn:n=p.1
   ·subst hn
    exact⟨some (i,e.val),by simp,by simp[hv]⟩
   ·have hb:(n==p.1)=false:=by simpa using hn
    obtain⟨r,h1,h2⟩:=Jj n es entries (i+1) h;exact⟨r,by simp[hb,h1],by simp[hn,h2]⟩
theorem QD(H:Holds C B S a w){t:TypeId}{x y:Operand}{ok:Bool}(hop:o.op= .lookup t x y ok)
  (h:NV P t (cZ S.tm x) (cZ S.tm y) ok=some r) (hK:Cont C B slot (S.apply o.dst r) K):o.uI P a w K Q:=by
 have hx:=bP H x;have hy:=bP H y;unfold NV at h
 split at h
 ·rename_i k e es n hu hxe hye
  rw[hxe]at hx;rw[hye]at hy;have hyv:=hy.plain
  split at h
  ·rename_i z hk hz
   simp only[fK]at h;subst h;generalize pq:a.eval x=vx at hx;cases hx with
   | c _ _ hi=>
     cases hi with
     | mp _ b clock entries hA hb hh he=>
       obtain⟨q,h1,h2⟩:=Jj n es entries.toList 0 he;have hg:(getObj b).run P w= .ok (.map entries clock) w:=by simp[getObj,Sem.run,hh]
       have aia: ∀em,(Instr.checkKey em 10000 k (.int .i64 n)).run P w= .ok () w:=by
        intro em;have hc: ∀m,(Instr.checkKey em (m+1) k (.int .i64 n)).run P w= .ok () w:=by
         intro m;rw[Instr.checkKey,Sem.run_bind,run_underlying hk,Result.andThen_ok];rfl
        exact hc 9999
       have hfind:(Instr.findKey k (.int .i64 n) entries.toList).run P w= .ok q w:=by
        simp only[Instr.findKey,Sem.run_bind,run_underlying hk,Result.andThen_ok,h1,Sem.run_pure]
       refine gX H hK (v:=if ok then .tuple #[(match vL n es with|some v=>v|none=>z),.bool (vL n es).isSome]else(match vL n es with|some v=>v|none=>z)) ?_ ?_ rfl
       ·cases q with
        | none=>
          simp only[Option.map_none]at h2;simp only[execOp,hop,Instr.lookup,hyv,pq,Sem.run_bind,run_underlying hu,Result.andThen_ok,hg,Sem.run_pure,aia,hfind,wB hz, ←h2];cases ok<;>rfl
        | some q=>
          simp only[Option.map_some]at h2;simp only[execOp,hop,Instr.lookup,hyv,pq,Sem.run_bind,run_underlying hu,Result.andThen_ok,hg,Sem.run_pure,aia,hfind, ←h2];cases ok<;>rfl
       ·cases ok with
        | true=>exact aV.vN (cs:=[(match vL n es with|some v=>v|none=>z),.bool (vL n es).isSome]) (.cons (uP _) (.cons (aV.lit _) .nil))
        | false=>exact uP _
  ·cases h
 ·cases h
theorem F9{t:TypeId}{name:String}{f:FuncId}(h:uN P t name=some f): ∃i fs m,P.info? t=some i∧P.underlying t=some (.struct fs)∧i.methods.find? (·.name==name)=some m∧m.func=some (f,false)∧m.path= #[]:=by
 unfold uN at h
 split at h
 ·rename_i i fs hi hu
  split at h
  ·rename_i m hm
   split at h
   ·rename_i g hg
    cases hp:m.path.isEmpty with
    | false=>simp[hp]at h
    | true=>
      simp only[hp,cond_true,fK]at h;subst h;exact⟨i,fs,m,hi,hu,hm,hg,by simpa using hp⟩
   ·cases h
  ·cases h
 ·cases h
theorem QE{t:TypeId}{name:String}{f:FuncId}(h:uN P t name=some f)(w:World)(n:Nat)(u:Value):(method (n+1) t u name).run P w= .ok (f,u) w:=by
 obtain⟨i,fs,m,hi,hu,hm,hf,hp⟩:=F9 h;simp[method,Sem.run_bind,typeInfo,hi,hm,hp,follow,hf,receiverAt,run_underlying hu,Place.get]
theorem Oe{t:TypeId}{name:String}{f:FuncId}(h:uN P t name=some f)(w:World)(n:Nat)(u:Value):(nilAhead (n+1) t u name).run P w= .ok (some false) w:=by
 obtain⟨i,fs,m,hi,hu,hm,hf,hp⟩:=F9 h;simp[nilAhead,Sem.run_bind,typeInfo,hi,hm,hp,followBlind,hf,run_underlying hu]
theorem QF(hΓ: ∀f s,Γ f=some s→mE C P f s)(h:AY P Γ slot o S.tm S.mem=some r)(hc: ∀p∈r.conds,p)(H:Holds C B S a w)
  (hs:B slot=none) (hnx:Between C S slot) (hC:C.Ok) (hK:Cont C B slot (S.apply o.dst r) K):o.uI P a w K Q:=by
 unfold AY at h;cases hop:o.op<;>simp only[hop]at h<;>try (cases h;done)
 case move x=>
  cases h;exact gX H hK (v:=a.eval x) (by simp[execOp,hop]) (bP H x) rfl
 case assign x=>
  cases h;exact gX H hK (v:=a.eval x) (by simp[execOp,hop]) (bP H x) rfl
 case pick c x y=>
  have hcr:=bP H c;have hx:=bP H x;have hy:=bP H y
  split at h
  ·rename_i t hct
   rw[hct]at hcr;have hcv:=hcr.plain;have hrun:(execOp a.eval o).run P w= .ok (.value (if t then a.eval x else a.eval y)) w:=by
    simp[execOp,hop,hcv,asBool]
   split at h
   ·rename_i bx by' hbx hby
    cases h;rw[hbx]at hx;rw[hby]at hy;refine gX H hK hrun ?_ rfl;rw[hx.plain,hy.plain];cases t<;>exact aV.lit _
   ·cases h
    refine gX H hK hrun ?_ rfl;cases t
    ·exact hy
    ·exact hx
  ·cases h
 case alloc t=>
  split at h
  ·rename_i z hz
   split at h
   ·rename_i n e hu
    split at h
    ·rename_i p ze hp hze
     cases hsm:(Nat.ble z.cells.size 16&& !anK P e)with
     | true=>
       rw[hsm]at h;refine Ji H hs hnx hC hK h (mR z.cells.toList) ?_;simp[execOp,hop,Instr.alloc,wB hz,newVar,newRow]
     | false=>
     rw[hsm]at h;simp only[cond_false]at h;cases hzc:Nat.beq ze.cells.size (p+1)with
     | false=>rw[hzc]at h;cases h
     | true=>
       rw[hzc]at h;exact Lm H hC hs hnx hop hz (by simpa using hzc) h hK
    ·cases h
   ·refine Ji H hs hnx hC hK h (mR z.cells.toList) ?_
    simp[execOp,hop,Instr.alloc,wB hz,newVar,newRow]
  ·cases h
 case box t x=>
  cases hok:(jP (cZ S.tm x)).all jo with
  | false=>simp[hok]at h
  | true=>
    simp only[hok,cond_true]at h;refine Ji H hs hnx hC hK h (zN (bP H x) (.inl hok)) ?_;simp[execOp,hop,Instr.box,newVar,newRow]
 case build t ps=>
  obtain⟨hu,v,hrun,hrel⟩:=N8 (A:=aT C.A0 B S.mem) (B:=B) (w:=w) h (kU:=ps.map λ(i,x)=>(i,a.eval x)) (by simp) (λj hj=>by
   have hj':j<ps.toList.length:=by simpa using hj
   rw[Ey j hj'];have:(ps.map λ(i,x)=>(i,a.eval x)).toList.getD j (0,undef)=(ps.toList[j].1,a.eval ps.toList[j].2):=by
    simp[dR,show j<ps.size by simpa using hj']
   rw[this];exact⟨rfl,bP H _⟩)
  exact gX H hK (v:=v) (by simp[execOp,hop,hrun]) hrel hu
 case makeMap t x=>exact Od hC H hs hnx hop h hK
 case mapUpdate t x k v=>exact Jg H hop h hc hK
 case range t x=>exact Ui hC H hs hnx hop h hK
 case entry x=>exact Uj H hop h hK
 case load t x=>exact ZY H hop h hc hK
 case store t x y=>exact Uc H hop h hc hK
 case nilCheck x=>
  have hx:=bP H x
  split at h
  ·rename_i b off Bz
   cases h;rw[Bz]at hx;obtain⟨β,hβ,hxe⟩:=hx.mQ;exact gX H hK (v:= .pointer (some ⟨β,off,none⟩)) (by simp[execOp,hop,hxe]) (.ptr _ _ _ hβ) rfl
  ·rename_i b k j sz Bz
   cases h;rw[Bz]at hx;generalize hv:a.eval x=v at hx;cases hx with
   | kI _ _ _ _ β hβ=>exact gX H hK (v:= .pointer (some ⟨β,k*sz+j,none⟩)) (by simp[execOp,hop,hv]) (.kI _ _ _ _ _ hβ) rfl
  ·rename_i l Bz
   cases h;rw[Bz]at hx;generalize hv:a.eval x=v at hx;cases hx with
   | gq _ b off h1 h2 h3=>exact gX H hK (v:= .pointer (some ⟨b,off,none⟩)) (by simp[execOp,hop,hv]) (.gq _ _ _ h1 h2 h3) rfl
  ·rename_i name first cap hfe
   rw[hfe]at hx;have hv:=hx.plain
   split at h
   ·rename_i t u hfl
    have hf1:first= #[.iface t u]:=Array.ext' (by simpa using hfl);subst hf1;cases hm:uN P t name with
    | none=>simp[hm]at h
    | some f=>
      simp only[hm,Option.isSome_some,cond_true,fK]at h;subst h;refine gX H hK (v:= .func (.method name) #[.iface t u] cap) ?_ (aV.lit _) rfl;have hna:=Oe hm w (P.types.size+99) u;rw[show P.types.size+99+1=P.types.size+Made.depth from rfl]at hna;simp[execOp,hop,hv,Sem.run_bind,hna]
   ·cases h
  ·cases h
 case binOp op t x y yt=>
  obtain⟨hu,v,hrun,hrel⟩:=TY h hc (bP H x) (bP H y) x y;exact gX H hK (v:=v) (by
   simp only[execOp,hop,Sem.run_bind]at hrun⊢;rw[hrun];rfl) hrel hu
 case unOp op t x=>
  obtain⟨hu,v,hrun,hrel⟩:=ZX (P:=P) h (bP H x);exact gX H hK (v:=v) (by simp[execOp,hop,hrun]) hrel hu
 case convert s d x=>exact QB H hop h hc hK
 case makeSlice t x y=>exact Ja hC H hs hnx hop h hc hK
 case buildSlice t n ps=>exact Ev H hC hs hnx hop h hc hK
 case indexAddr t x y=>exact Jb H hop h hc hK
 case slice t x lo hi mx=>
  cases hmx:mx with
  | some m=>rw[hmx]at h;simp at h
  | none=>
    rw[hmx]at h;exact Ud H hC hop hmx (by simpa using h) hc hK
 case makeFunc fn first cap=>
  split at h
  ·rename_i f
   cases hf:first.isEmpty with
   | false=>
     simp only[hf,cond_false]at h
     split at h
     ·rename_i hfm hcm
      cases h;have hc0:cap= #[]:=by simpa using hcm
      subst hc0;have hl1:first.toList.length=1:=by have:=congrArg List.length hfm;simpa using this
      obtain⟨z,hz⟩: ∃z,first= #[z]:=by
       match first,hl1 with
       | ⟨[z]⟩,_=>exact⟨z,rfl⟩
      subst hz;have hze:cZ S.tm z= .agg []:=by simpa using hfm
      have hzr:=bP H z;rw[hze]at hzr;obtain⟨cs,hzv,hcs⟩:=hzr.kZ;have aov:cs=[]:=hcs.o8;subst aov;exact gX H hK (v:= .func (.func f) #[.agg #[]] #[]) (by simp[execOp,hop,Instr.makeFunc,hzv]) (aV.lit _) rfl
     ·cases h
   | true=>
     simp only[hf,cond_true]at h;cases h;have hfe:first= #[]:=by simpa using hf
     subst hfe;have hcap:=L8 H cap.toList;exact gX H hK (v:= .func (.func f) #[] (cap.toList.map a.eval).toArray) (by simp[execOp,hop,Instr.makeFunc,mU]) (aV.anL hcap) rfl
  ·rename_i name
   split at h
   ·rename_i t u hfm hcm
    cases h;have hc0:cap= #[]:=by simpa using hcm
    subst hc0;have hl1:first.toList.length=1:=by have:=congrArg List.length hfm;simpa using this
    obtain⟨z,hz⟩: ∃z,first= #[z]:=by
     match first,hl1 with
     | ⟨[z]⟩,_=>exact⟨z,rfl⟩
    subst hz;have hze:cZ S.tm z= .c (.v (.iface t u)):=by simpa using hfm
    have hzr:=bP H z;rw[hze]at hzr;have hzv:=hzr.plain;exact gX H hK (v:= .func (.method name) #[.iface t u] #[]) (by simp[execOp,hop,Instr.makeFunc,hzv]) (aV.lit _) rfl
   ·cases h
  ·cases h
 case makeInterface t x=>
  have hx:=bP H x
  split at h
  ·rename_i fs hu hxe
   cases h;rw[hxe]at hx;obtain⟨cs,hxv,hcs⟩:=hx.kZ;have aov:cs=[]:=hcs.o8;subst aov;exact gX H hK (v:= .iface t (.agg #[])) (by simp[execOp,hop,Instr.makeInterface,Sem.run_bind,run_underlying hu,hxv]) (aV.lit _) rfl
  ·cases h
 case fieldAddr t x f=>exact Jc H hop h hK
 case field t x f=>
  have hx:=bP H x;unfold ac0 at h
  split at h
  ·rename_i fs l hu hagg
   rw[hagg]at hx;obtain⟨cs,hxe,qB⟩:=hx.kZ
   split at h
   ·rename_i fl hfl
    simp only[Option.map_eq_some_iff]at h;obtain⟨y,hpart,rfl⟩:=h;obtain⟨v,hrun,hrel⟩:=wC (P:=P) qB hpart;exact gX H hK (v:=v) (by simp[execOp,hop,Instr.field,run_underlying hu,hfl,hxe,asAgg,hrun]) hrel rfl
   ·cases h
  ·cases h
 case index t x i=>
  have hx:=bP H x;have hi:=bP H i;unfold ac1 at h
  split at h
  ·rename_i s k n hu hxa hia
   rw[hxa]at hx;rw[hia]at hi;cases h;have hxe:=hx.plain;have hie:=hi.plain;have hlt:=dec (hc (decide (0≤n∧n<(s.data.toList.length:Int))) (by simp));refine gX H hK (v:= .int .u8 (s.data.toList.getD n.toNat 0).toNat) ?_ (aV.lit _) rfl;have hn:n.toNat<s.size:=by have h1:=hlt.2;simp only[Array.length_toList]at h1;show n.toNat<s.data.size;omega
   have hget:s[n.toNat]? =some (s.data.toList.getD n.toNat 0):=by
    rw[getElem?_pos s n.toNat hn]
    congr 1
    have hn':n.toNat<s.data.size:=hn;rw[dR,Array.getElem?_toList,getElem?_pos s.data _ hn'];rfl
   simp[execOp,hop,Instr.index,hie,asIntOf,run_underlying hu,hxe,hlt.1,hget]
  ·rename_i n e l k i' hu hxa hia
   rw[hxa]at hx;rw[hia]at hi;obtain⟨cs,hxe,qB⟩:=hx.kZ;have hie:=hi.plain
   split at h
   ·rename_i sz hsz
    simp only[Option.map_eq_some_iff]at h;obtain⟨y,hpart,rfl⟩:=h;obtain⟨v,hrun,hrel⟩:=wC (P:=P) qB hpart;have hlt:=dec (hc (decide (0≤i'∧i'<(n:Int))) (by simp));refine gX H hK (v:=v) ?_ hrel rfl;simp[execOp,hop,Instr.index,hie,asIntOf,run_underlying hu,hxe,hlt.1,hlt.2,gN hsz,hrun]
   ·cases h
  ·cases h
 case lookup t x i ok=>exact QD H hop h hK
 case extract x i=>
  have hx:=bP H x
  split at h
  ·rename_i l avw
   rw[avw]at hx;obtain⟨cs,hxe,qB⟩:=hx.Cy;simp only[Option.map_eq_some_iff]at h;obtain⟨y,hy,rfl⟩:=h;obtain⟨v,hv,hrel⟩:=qB.get hy;exact gX H hK (v:=v) (by simp[execOp,hop,Instr.extract,hxe,hv]) hrel rfl
  ·cases h
 case call c=>
  have hargs:=L8 H c.args.toList;unfold Qm at h
  split at h
  ·rename_i b hb
   have one: ∀{x:AV},c.args.toList.map (cZ S.tm)=[x]→ ∃z,c.args= #[z]∧cZ S.tm z=x:=by
    intro x hx;have:c.args.toList.length=1:=by have:=congrArg List.length hx;simpa using this
    match hca:c.args,this with
    | ⟨[z]⟩,_=>exact⟨z,rfl,by rw[hca]at hx;simpa using hx⟩
   have two: ∀{x y:AV},c.args.toList.map (cZ S.tm)=[x,y]→ ∃z z',c.args= #[z,z']∧cZ S.tm z=x∧cZ S.tm z'=y:=by
    intro x y hx;have:c.args.toList.length=2:=by have:=congrArg List.length hx;simpa using this
    match hca:c.args,this with
    | ⟨[z,z']⟩,_=>exact⟨z,z',rfl,by rw[hca]at hx;simpa using hx⟩
   unfold yN at h
   split at h
   ·rename_i t x hts hxs
    obtain⟨z,hz,rfl⟩:=one hxs;exact ada H hop hb hts hz h hK
   ·rename_i x y hxs
    obtain⟨z,z',hz,rfl,rfl⟩:=two hxs;exact Qz H hC hs hnx hop hb rfl hz h hc hK
   ·rename_i x y hxs
    obtain⟨z,z',hz,rfl,rfl⟩:=two hxs;exact Z0 H hop hb rfl hz h hc hK
   ·rename_i x y hxs
    obtain⟨z,z',hz,rfl,rfl⟩:=two hxs;exact adb H hop hb hz h hK
   ·rename_i x y hxs
    obtain⟨z,z',hz,rfl,rfl⟩:=two hxs;exact ade H hop hb hz h hK
   ·rename_i t x hts hxs
    obtain⟨z,hz,rfl⟩:=one hxs;exact ac9 H hop hb hts hz h hK
   ·rename_i t x hts hxs
    obtain⟨z,hz,rfl⟩:=one hxs;exact Uh H hop hb hts hz h hK
   ·cases h
  ·rename_i f hf
   have hfr:=bP H f
   split at h
   ·rename_i g first cap hfe
    rw[hfe]at hfr;have hfv:=hfr.plain;cases hfc:(first.isEmpty&&cap.isEmpty)with
    | false=>
      simp only[hfc,cond_false]at h;cases Uo:(zM first.toList&&cap.isEmpty)with
      | false=>simp[Uo]at h
      | true=>
      simp only[Uo,cond_true]at h;simp only[cu,Array.isEmpty_iff]at Uo;obtain⟨hu1,rfl⟩:=Uo;have hf1:first= #[.agg #[]]:=by
       unfold zM at hu1
       split at hu1
       ·rename_i cs hcs
        have:cs= #[]:=by simpa using hu1
        subst this;exact Array.ext' (by simpa using hcs)
       ·cases hu1
      subst hf1;cases hg:Bw Γ g with
      | none=>simp[hg]at h
      | some s=>
        simp only[hg,Option.bind_some]at h;refine zP hΓ H hs hnx hC hK hc hg h (hargs.cons (x:= .agg []) (v:= .agg #[]) (.agg [] #[] rfl (λj hj=>absurd hj (Nat.not_lt_zero j)))) ?_;rw[show(Value.agg #[]::List.map a.eval c.args.toList).toArray= #[Value.agg #[]]++c.args.map a.eval by rw[←mU];simp];simp[execOp,hop,resolve,hf,hfv,Deferred.ofValue,invoke]
    | true=>
    simp only[hfc,cond_true]at h;simp only[cu,Array.isEmpty_iff]at hfc;obtain⟨rfl,rfl⟩:=hfc;cases hg:Bw Γ g with
    | none=>simp[hg]at h
    | some s=>
      simp only[hg,Option.bind_some]at h;refine zP hΓ H hs hnx hC hK hc hg h hargs ?_;rw[mU];simp[execOp,hop,resolve,hf,hfv,Deferred.ofValue,invoke]
   ·rename_i l first cap hfe
    rw[hfe]at hfr;have hfv:=hfr.plain;cases hfc:(first.isEmpty&&(cap.isEmpty&&(P.funcs[j5]?).isNone))with
    | false=>simp[hfc]at h
    | true=>
      simp only[hfc,cond_true]at h;simp only[cu,Array.isEmpty_iff]at hfc;obtain⟨rfl,rfl,hno⟩:=hfc;cases hg:Γ j5 with
      | none=>simp[hg]at h
      | some s=>
        simp only[hg,Option.bind_some]at h;refine Um hΓ H hs hnx hC hK hc hg hno h hargs ?_;rw[mU];simp[execOp,hop,resolve,hf,hfv,Deferred.ofValue,invoke]
   ·rename_i g cap hfe
    rw[hfe]at hfr;obtain⟨cs,hfv,hcap⟩:=hfr.I8;cases hg:Bw Γ g with
    | none=>simp[hg]at h
    | some s=>
      simp only[hg,Option.bind_some]at h;refine zP hΓ H hs hnx hC hK hc hg h (hargs.append hcap) ?_;rw[show(c.args.toList.map a.eval++cs).toArray=c.args.map a.eval++cs.toArray by rw[←mU];simp];simp[execOp,hop,resolve,hf,hfv,Deferred.ofValue,invoke]
   ·cases h
  ·rename_i recv name hrc
   split at h
   ·rename_i t u hre
    have hrr:=bP H recv;rw[hre]at hrr;have hrv:=hrr.plain;cases hm:uN P t name with
    | none=>simp[hm]at h
    | some g=>
      simp only[hm]at h;cases hg:Bw Γ g with
      | none=>simp[hg]at h
      | some s=>
        simp only[hg,Option.bind_some]at h;refine zP hΓ H hs hnx hC hK hc hg h (hargs.cons (uP u)) ?_;have hrm:=QE hm w (P.types.size+99) u;rw[show P.types.size+99+1=P.types.size+Made.depth from rfl]at hrm;rw[show(u::List.map a.eval c.args.toList).toArray= #[u]++c.args.map a.eval by rw[←mU];simp];have h0:(#[Value.iface t u]++c.args.map a.eval)[0]? =some (Value.iface t u):=by simp[Array.getElem?_append]
        have h1:(#[Value.iface t u]++c.args.map a.eval).extract 1 (#[Value.iface t u]++c.args.map a.eval).size=c.args.map a.eval:=by
         apply Array.ext'
         simp;exact List.take_of_length_le (by simp)
        simp only[execOp,hop,resolve,hrc,hrv,invoke,Sem.run_bind,Sem.run_pure,Result.andThen_ok,h0,h1,callMethod,run_program,hrm]
   ·cases h
end
end Go.bI
