/- Helpers for the proof: no statement of its own. -/
import Derived.Orders
import Derived.WalkKit
import Derived.Below
import Derived.Laws.AppendOwn
import Derived.Laws.CopyRow
import Derived.Laws.Rows
import Derived.Laws.StructEq
import Derived.Deep.MidRow
import Derived.CallsIn
import Derived.OrdersIn
import Derived.LoopNIn
import Derived.RangeFuncIn
import Derived.Scope
import Derived.Lib.Strings
import Derived.Lib.AppendStr
import Derived.Laws.BytesArg
import Derived.Laws.IdiomRangeMap
import Derived.Carry
import Derived.RangeFuncRecord
set_option linter.unusedVariables false
set_option linter.unusedSimpArgs false
set_option linter.unnecessarySimpa false
set_option linter.deprecated false
set_option maxRecDepth 1000000
open Go.IntKind(i64 u64 u32)
open Nat(beq)
theorem fu.{u} {a:Type u} (x y:a):(some x=some y)=(x=y):=Option.some.injEq x y
theorem dJ.{u} {a:Type u}{l:List a}{i:Nat}{d:a}:l.getD i d=l[i]?.getD d:=rfl
theorem nS.{u} {a:Type u}{l:Array a}{i:Nat}{d:a}:l.getD i d=l[i]?.getD d:=Array.getD_eq_getD_getElem?
theorem bI(x y:Bool):((x&&y)=true)=(x=true∧y=true):=Bool.and_eq_true x y
theorem dS{p:Prop}[Decidable p]:(decide p=true)=p:=decide_eq_true_eq
theorem iX{p:Prop}[Decidable p] (h:decide p=true):p:=of_decide_eq_true h
theorem dK{p:Prop}[Decidable p] (h:p):decide p=true:=decide_eq_true h
theorem iB{p:Prop}[Decidable p] (h:¬p):decide p=false:=decide_eq_false h
theorem dA{p:Prop}[Decidable p] (h:p:=by omega):decide p=true:=decide_eq_true h
namespace Go.bA
inductive IV where
 | v (x:Value)
 | sl (n sz:Nat) (el:Nat→List IV)
 | mp (es:List (Int×Value))
 | mq (es:List (Int×IV))
inductive AV where
 | c (x:IV)
 | agg (l:List AV)
 | fG (l:List AV)
 | ptr (b off:Nat)
 | jr (b k j sz:Nat)
 | fK (b n sz:Nat)
 | H9 (b k n sz:Nat)
 | fB (l:List IV)
 | fn (f:FuncId) (cap:List AV)
 | omap (b:Nat)
 | any
inductive gJ where
 | cells (l:List AV) (t:TypeId)
 | arr (n sz:Nat) (el:Nat→List IV) (t:TypeId)
 | uG (es:List (Int×IV))
 | KF (es:List (Int×IV)) (seen:List Nat)
mutual
def dY:AV→Bool
 | .c _=>true
 | .agg l=>uH l
 | .fG l=>uH l
 | .fB _=>true
 | .fn _ l=>uH l
 | _=>false
def uH:List AV→Bool
 | []=>true
 | x::l=>dY x&&uH l
end
def gU:AV→Bool
 | .c (.v x)=>x.oneCell'
 | .c (.sl _ _ _)=>true
 | .c (.mp _)=>true
 | .c (.mq _)=>true
 | .omap _=>true
 | .ptr _ _=>true
 | .jr _ _ _ _=>true
 | .fK _ _ _=>true
 | .H9 _ _ _ _=>true
 | .fB _=>true
 | .fn _ _=>true
 | _=>false
abbrev Mem:=Nat→Option gJ
def Mem.set(m:Mem)(k:Nat)(e:Option gJ):Mem:=λj=>bif beq j k then e else m j
structure St where
 tm:List AV
 mem:Mem
 nx:Nat
structure Eff where
 val:AV
 upd:List (Nat×Option gJ):=[]
 conds:List Bool:=[]
 reads:List Nat:=[]
def bV(m:Mem):List (Nat×Option gJ)→Mem
 | []=>m
 | (k,e)::l=>bV (m.set k e) l
def lF(tm:List AV)(d:Option Tmp)(v:AV):List AV:=
 match d with
 | some d=>tm.set d v
 | none=>tm
def St.apply(S:St)(d:Option Tmp)(r:Eff):St:={S with tm:=lF S.tm d r.val,mem:=bV S.mem r.upd}
inductive Tr (α:Type) where
 | ret (a:α)
 | ite (c:Bool) (t e:Tr α)
 | need (p:Bool) (t:Tr α)
 | both (a b:Tr α)
 | fail (why:String)
namespace Tr
def bind{α β:Type}:Tr α→(α→Tr β)→Tr β
 | .ret a,f=>f a
 | .ite c t e,f=> .ite c (t.bind f) (e.bind f)
 | .need p t,f=> .need p (t.bind f)
 | .both a b,f=> .both (a.bind f) (b.bind f)
 | .fail w,_=> .fail w
def sat{α:Type}(Q:α→Prop):Tr α→Prop
 | .ret a=>Q a
 | .ite c t e=>(c=true→t.sat Q)∧(c=false→e.sat Q)
 | .need p t=>p∧(p→t.sat Q)
 | .both a b=>a.sat Q∧b.sat Q
 | .fail _=>False
def needs{α:Type}:List Bool→Tr α→Tr α
 | [],t=>t
 | p::l,t=> .need p (needs l t)
end Tr
def DY(v:Value):AV:= .c (.v v)
def ofValue:Value→AV
 | .agg cs=> .agg (cs.toList.map DY)
 | v=>DY v
def cellsOf(v:Value):List AV:=v.cells.toList.map DY
def bQ(tm:List AV):Operand→AV
 | .tmp t=>tm.getD t .any
 | .const v=>ofValue v
 | .global g=> .c (.v (.pointer (some ⟨g,0,none⟩)))
 | .func f=> .c (.v (.func (.func f) #[] #[]))
def iP:AV→List AV
 | .agg l=>l
 | a=> [a]
def AX(P:Program)(t:TypeId):Bool:=
 match P.underlying t with
 | some (.struct _)|some (.array _ _)=>true
 | _=>false
def iZ(P:Program)(t:TypeId):Option Nat:=(P.info? t).map (·.size)
def o7(P:Program)(t:TypeId):Option Value:=(P.info? t).bind (·.zero)
def afz(n:Option Nat)(l:List AV)(off:Nat):Option AV:=
 match n with
 | some n=>bif Nat.ble (off+n) l.length then some (.agg ((l.drop off).take n))else none
 | none=>none
def jS(P:Program)(t:TypeId)(l:List AV)(off:Nat):Option AV:=
 match P.underlying t with
 | some (.struct _)=>afz (iZ P t) l off
 | some (.array _ _)=>afz (iZ P t) l off
 | some _=>l[off]?
 | none=>none
def bR(k:IntKind)(n:Int):AV:= .c (.v (.int k n))
def bJ(b:Bool):AV:= .c (.v (.bool b))
def Tk(op:BinOp)(k:IntKind)(a b:Int):Option Eff:=
 match op with
 | .add=>some {val:=bR k (k.wrap (a+b))}
 | .sub=>some {val:=bR k (k.wrap (a-b))}
 | .mul=>some {val:=bR k (k.wrap (a*b))}
 | .quo=>some {val:=bR k (k.wrap (a.tdiv b)),conds:=[b≠0]}
 | .rem=>some {val:=bR k (a.tmod b),conds:=[b≠0]}
 | .and=>some {val:=bR k (k.wrap (BitVec.ofInt k.bits a&&&BitVec.ofInt k.bits b).toNat)}
 | .or=>some {val:=bR k (k.wrap (BitVec.ofInt k.bits a ||| BitVec.ofInt k.bits b).toNat)}
 | .xor=>some {val:=bR k (k.wrap (BitVec.ofInt k.bits a^^^BitVec.ofInt k.bits b).toNat)}
 | .andNot=>some {val:=bR k (k.wrap (BitVec.ofInt k.bits a&&& ~~~ BitVec.ofInt k.bits b).toNat)}
 | .eql=>some {val:=bJ (a==b)}
 | .neq=>some {val:=bJ (a !=b)}
 | .lss=>some {val:=bJ (decide (a<b))}
 | .leq=>some {val:=bJ (decide (a≤b))}
 | .gtr=>some {val:=bJ (decide (a>b))}
 | .geq=>some {val:=bJ (decide (a≥b))}
 | _=>none
def Tm(op:BinOp)(k:IntKind)(a b:Int):Option Eff:=
 match op with
 | .shl=>some {val:=bR k (k.wrap (a*2^(min b.toNat k.bits))),conds:=[¬b<0]}
 | .shr=>some {val:=bR k (a.fdiv (2^(min b.toNat k.bits))),conds:=[¬b<0]}
 | _=>none
def Tn(op:BinOp)(a b:ByteArray):Option Eff:=
 let eq:=a.data.toList==b.data.toList
 let lt:=Op.bytesLess a.data.toList b.data.toList
 match op with
 | .add=>some {val:= .c (.v (.string (a++b))),conds:=[a.size+b.size≤9223372036854775807]}
 | .eql=>some {val:=bJ eq}
 | .neq=>some {val:=bJ (!eq)}
 | .lss=>some {val:=bJ lt}
 | .leq=>some {val:=bJ (lt || eq)}
 | .gtr=>some {val:=bJ (!(lt || eq))}
 | .geq=>some {val:=bJ (!lt)}
 | _=>none
def cu:List Bool→Bool
 | []=>true
 | [b]=>b
 | b::l=>b&&cu l
def Tp(P:Program):Nat→TypeId→AV→AV→Option Bool
 | 0,_,_,_=>none
 | d+1,t,x,y=>
   match P.underlying t,x,y with
   | some .bool,.c (.v (.bool a)),.c (.v (.bool b))=>some (a==b)
   | some (.int _),.c (.v (.int k a)),.c (.v (.int k' b))=>if k=k' then some (a==b)else none
   | some .string,.c (.v (.string a)),.c (.v (.string b))=>some (a.data.toList==b.data.toList)
   | some (.struct fs),.agg l,.agg m=>
     bif P.stoodInHeld t then none else
     (fs.toList.mapM λf:Field=>bif f.name== "_" then none else
      match jS P f.type l f.offset,jS P f.type m f.offset with
      | some a,some b=>Tp P d f.type a b
      | _,_=>none).map cu
   | some (.array n e),.agg l,.agg m=>
     match iZ P e with
     | some sz=>
       ((List.range n).mapM λi=>
         match jS P e l (i*sz),jS P e m (i*sz)with
         | some a,some b=>Tp P d e a b
         | _,_=>none).map cu
     | none=>none
   | _,_,_=>none
def aaH(P:Program)(op:BinOp)(t:TypeId)(l m:List AV):Option Eff:=
 bif P.eqGuardType P.depth t then none else
  match Tp P 8 t (.agg l) (.agg m),op with
  | some b,.eql=>some {val:=bJ b}
  | some b,.neq=>some {val:=bJ (!b)}
  | _,_=>none
def DZ(P:Program)(op:BinOp)(t:TypeId)(same:Bool):Option Eff:=
 match op,P.underlying t with
 | .eql,some (.pointer _)=>some {val:=bJ same}
 | .neq,some (.pointer _)=>some {val:=bJ (!same)}
 | _,_=>none
def aaI(P:Program)(op:BinOp)(t:TypeId)(n:Nat):Option Eff:=
 match op,P.underlying t with
 | .eql,some (.slice _)=>some {val:=bJ false,conds:=[decide (n≠0)]}
 | .neq,some (.slice _)=>some {val:=bJ true,conds:=[decide (n≠0)]}
 | _,_=>none
def WM(P:Program)(op:BinOp)(t:TypeId)(same:Bool):Option Eff:=
 match op,P.underlying t with
 | .eql,some (.slice _)=>some {val:=bJ same}
 | .neq,some (.slice _)=>some {val:=bJ (!same)}
 | _,_=>none
def ali(P:Program)(op:BinOp)(t:TypeId)(x y:AV):Option Eff:=
 match x,y with
 | .c (.v (.int k a)),.c (.v (.int k' b))=>
   match op with
   | .shl | .shr=>Tm op k a b
   | _=>if k=k' then Tk op k a b else none
 | .c (.v (.string a)),.c (.v (.string b))=>Tn op a b
 | .c (.v (.bool a)),.c (.v (.bool b))=>
   match op,P.underlying t with
   | .eql,some .bool=>some {val:=bJ (a==b)}
   | .neq,some .bool=>some {val:=bJ (!(a==b))}
   | _,_=>none
 | .agg l,.agg m=>aaH P op t l m
 | .c (.v (.pointer none)),.c (.v (.pointer none))=>DZ P op t true
 | .ptr _ _,.c (.v (.pointer none))=>DZ P op t false
 | .jr _ _ _ _,.c (.v (.pointer none))=>DZ P op t false
 | .fB _,.c (.v (.pointer none))=>DZ P op t false
 | .c (.sl n _ _),.c (.v (.slice none 0 0))=>aaI P op t n
 | .c (.v (.slice none 0 0)),.c (.v (.slice none 0 0))=>WM P op t true
 | .c (.v (.slice (some _) _ _)),.c (.v (.slice none 0 0))=>WM P op t false
 | _,_=>none
def unA(op:UnOp)(x:AV):Option Eff:=
 match op,x with
 | .not,.c (.v (.bool b))=>some {val:=bJ (!b)}
 | .neg,.c (.v (.int k n))=>some {val:=bR k (k.wrap (0-n))}
 | .xor,.c (.v (.int k n))=>some {val:=bR k (k.wrap (BitVec.ofInt k.bits (if k.signed then -1 else k.max)^^^BitVec.ofInt k.bits n).toNat)}
 | _,_=>none
def aaJ(P:Program)(src dst:TypeId)(x:AV):Option Eff:=
 match P.underlying src,P.underlying dst,x with
 | some _,some (.int k),.c (.v (.int _ n))=>some {val:=bR k (k.wrap n)}
 | some _,some .string,.c (.v (.string s))=>some {val:= .c (.v (.string s))}
 | _,_,_=>none
def M8(P:Program)(fs:Array Field):Option (List (Nat×Nat)):=fs.toList.mapM (λf=>(P.info? f.type).map λi=>(f.offset,i.size))
def xC(places:List (Nat×Nat)):List AV→List (Nat×AV)→Option (List AV)
 | cells,[]=>some cells
 | cells,(i,x)::rest=>
   match places[i]? with
   | none=>none
   | some (off,n)=>
     let l:=iP x
     bif beq l.length n&&Nat.ble (off+n) cells.length&&l.all gU then xC places (cells.take off++l++cells.drop (off+n)) rest else none
def Tq(P:Program)(t:TypeId)(parts:List (Nat×AV)):Option Eff:=
 match P.underlying t,o7 P t with
 | some (.struct fs),some z=>
   match M8 P fs with
   | some places=>
     match xC places (cellsOf z) parts with
     | some l=>some {val:= .agg l}
     | none=>none
   | none=>none
 | some (.array n e),some z=>
   match iZ P e with
   | some sz=>
     match xC ((List.range n).map λi=>(i*sz,sz)) (cellsOf z) parts with
     | some l=>some {val:= .agg l}
     | none=>none
   | none=>none
 | _,_=>none
def Ia(slot:Nat)(t:TypeId)(l:List AV):Option Eff:=
 some {val:= .ptr slot 0,upd:=[(slot,some (.cells l t))]}
def BO:Value→Value→Bool
 | .int .u8 0,.int .u8 0=>true
 | .int .i64 0,.int .i64 0=>true
 | .bool false,.bool false=>true
 | .slice none 0 0,.slice none 0 0=>true
 | _,_=>false
def Ib(slot:Nat)(t:TypeId)(n sz:Nat)(ze z:Value):Option Eff:=
 bif beq z.cells.toList.length (n*sz)&&ze.cells.toList.all (·.oneCell')&&(List.range (n*sz)).all (λj=>BO (z.cells.toList.getD j undef) (ze.cells.toList.getD (j%sz) undef))then
  some {val:= .jr slot 0 0 sz,upd:=[(slot,some (.arr n sz (λ_=>ze.cells.toList.map .v) t))]}
 else none
def akH(P:Program)(e:TypeId):Bool:=
 match P.underlying e with
 | some (.int .u8)=>true
 | _=>false
def PU(l:List IV):List AV:=l.map .c
def PV:AV→Option IV
 | .c x=>some x
 | _=>none
def Fx(P:Program)(m:Mem)(t:TypeId)(x:AV):Option Eff:=
 match x with
 | .ptr b off=>
   match m b with
   | some (.cells l _)=>
     match jS P t l off with
     | some v=>some {val:=v,reads:=[b]}
     | none=>none
   | _=>none
 | .jr b k j sz=>
   match m b with
   | some (.arr n sz' el _)=>
     bif beq sz sz' then
      match jS P t (PU (el k)) j with
      | some v=>some {val:=v,conds:=[k<n],reads:=[b]}
      | none=>none
     else none
   | _=>none
 | .fB l=>
   match jS P t (PU l) 0 with
   | some v=>some {val:=v}
   | none=>none
 | .c (.v (.pointer (some _)))=>
   match iZ P t,P.underlying t with
   | some 0,some (.struct _)=>some {val:= .agg []}
   | _,_=>none
 | _=>none
def aT(el:Nat→List IV)(k j:Nat)(c:List IV):Nat→List IV:=λi=>
 if i=k then(el i).take j++c++(el i).drop (j+c.length)else el i
def AY(P:Program)(m:Mem)(t:TypeId)(x v:AV):Option Eff:=
 match x with
 | .ptr b off=>
   match m b,iZ P t with
   | some (.cells l e),some n=>
     let c:=iP v
     bif beq c.length n&&Nat.ble (off+n) l.length&&c.all gU then
      some {val:= .c (.v undef),upd:=[(b,some (.cells (l.take off++c++l.drop (off+n)) e))],reads:=[b]}
     else none
   | _,_=>none
 | .jr b k j sz=>
   match m b,iZ P t with
   | some (.arr n sz' el e),some p=>
     match (iP v).mapM PV with
     | some c=>
       bif beq sz sz'&&beq c.length p&&Nat.ble (j+p) sz&&(iP v).all gU then
        some {val:= .c (.v undef),upd:=[(b,some (.arr n sz (aT el k j c) e))],conds:=[k<n],reads:=[b]}
       else none
     | none=>none
   | _,_=>none
 | _=>none
def D5(P:Program)(m:Mem)(t:TypeId)(x v:AV):Option Eff:=
 match x,v with
 | .jr b k j sz,.fK c n s=>
   match m c with
   | some (.arr n' s' el _)=>
     bif beq s s'&& !beq b c then
      (AY P (m.set c none) t (.jr b k j sz) (.c (.sl n s el))).map λr=>{r with upd:=(c,none)::r.upd,conds:=decide (n≤n')::r.conds,reads:=c::r.reads}
     else none
   | _=>none
 | x,v=>AY P m t x v
def AZ(P:Program)(t:TypeId)(x:AV)(f:Nat):Option Eff:=
 match P.underlying t with
 | some (.struct fs)=>
   match fs[f]? with
   | some f=>
     match iZ P f.type with
     | some (_+1)=>
       match x with
       | .ptr b off=>some {val:= .ptr b (off+f.offset)}
       | .jr b k j sz=>some {val:= .jr b k (j+f.offset) sz}
       | .fB l=>bif Nat.blt f.offset l.length then some {val:= .fB (l.drop f.offset)}else none
       | _=>none
     | _=>none
   | none=>none
 | _=>none
def aaK(P:Program)(t:TypeId)(x:AV)(f:Nat):Option Eff:=
 match P.underlying t,x with
 | some (.struct fs),.agg l=>
   match fs[f]? with
   | some f=>(jS P f.type l f.offset).map λv=>{val:=v}
   | none=>none
 | _,_=>none
abbrev Spec:=Nat→Mem→List AV→Option Eff
mutual
def fM(m:Mem):AV→AV×List Bool
 | .fK b n sz=>
   match m b with
   | some (.arr n' sz' el _)=>bif beq sz sz' then(.c (.sl n sz el),[n≤n'])else(.fK b n sz,[])
   | _=>(.fK b n sz,[])
 | .omap b=>
   match m b with
   | some (.uG es)=>(.c (.mq es),[])
   | _=>(.omap b,[])
 | .agg l=>(.agg (lq m l).1,(lq m l).2)
 | .fG l=>(.fG (lq m l).1,(lq m l).2)
 | x=>(x,[])
def lq(m:Mem):List AV→List AV×List Bool
 | []=>([],[])
 | x::l=>((fM m x).1::(lq m l).1,(fM m x).2++(lq m l).2)
end
mutual
def qB:AV→List Nat
 | .fK b _ _=> [b]
 | .omap b=> [b]
 | .agg l=>uY l
 | .fG l=>uY l
 | _=> []
def uY:List AV→List Nat
 | []=> []
 | x::l=>qB x++uY l
end
mutual
def nU:AV→Bool
 | .c (.v _)=>true
 | .agg l=>Ic l
 | .fG l=>Ic l
 | _=>false
def Ic:List AV→Bool
 | []=>true
 | x::l=>nU x&&Ic l
end
def au(s:List AV→Option (AV×List Bool)):Spec:=λ_ m args=>
 bif uH (lq m args).1 then
  match s (lq m args).1 with
  | some (v,cs)=>some {val:=v,conds:=(lq m args).2++cs,upd:=bif nU v then []else(uY args).map λb=>(b,none),reads:=uY args}
  | none=>none
 else none
def aaL(P:Program)(t:TypeId)(x y:AV):Option Eff:=
 match P.underlying t,x,y with
 | some .string,.c (.v (.string s)),.c (.v (.int _ i))=>
   some {val:=bR .u8 (s.data.toList.getD i.toNat 0).toNat,conds:=[0≤i∧i<(s.data.toList.length:Int)]}
 | some (.array n e),.agg l,.c (.v (.int _ i))=>
   match iZ P e with
   | some sz=>(jS P e l (i.toNat*sz)).map λv=>{val:=v,conds:=[0≤i∧i<(n:Int)]}
   | none=>none
 | _,_,_=>none
def A8(P:Program)(m:Mem)(t:TypeId)(x y:AV):Option Eff:=
 match P.underlying t,y with
 | some (.slice e),.c (.v (.int _ i))=>
   match x,iZ P e with
   | .fK b n sz,some p=>bif beq p sz then some {val:= .jr b i.toNat 0 sz,conds:=[0≤i∧i<(n:Int)]}else none
   | .c (.sl n sz el),some p=>bif beq p sz then some {val:= .fB (el i.toNat),conds:=[0≤i∧i<(n:Int)]}else none
   | .H9 b k n sz,some p=>bif beq p sz then some {val:= .jr b (k+i.toNat) 0 sz,conds:=[0≤i∧i<(n:Int)]}else none
   | _,_=>none
 | some (.array n e),.c (.v (.int _ i))=>
   match x,iZ P e with
   | .jr b 0 0 sz,some p=>bif beq sz p then some {val:= .jr b i.toNat 0 sz,conds:=[0≤i∧i<(n:Int)]}else none
   | .ptr b off,some p=>some {val:= .ptr b (off+i.toNat*p),conds:=[0≤i∧i<(n:Int)]}
   | _,_=>none
 | _,_=>none
def qN(m:Mem)(x:AV):Option (Nat×Nat×(Nat→List IV)×List Bool×List Nat):=
 match x with
 | .c (.sl n sz el)=>some (n,sz,el,[],[])
 | .c (.v (.slice none 0 0))=>some (0,0,λ_=> [],[],[])
 | .c (.v (.slice (some _) 0 _))=>some (0,0,λ_=> [],[],[])
 | .fK b n sz=>
   match m b with
   | some (.arr n' sz' el _)=>bif beq sz sz' then some (n,sz,el,[n≤n'],[b])else none
   | _=>none
 | _=>none
def byteOf:List IV→UInt8
 | [.v (.int .u8 x)]=>UInt8.ofNat x.toNat
 | _=>0
def eD(l:List UInt8):Nat→List IV:=λk=> [.v (.int .u8 ((l.getD k 0).toNat:Nat))]
def bytesOf(n:Nat)(el:Nat→List IV):List UInt8:=(List.range n).map λk=>byteOf (el k)
def isByte:List IV→Bool
 | [.v (.int .u8 x)]=>decide (0≤x)&&decide (x<256)
 | _=>false
def isBytes(n:Nat)(el:Nat→List IV):Bool:=(List.range n).all λk=>isByte (el k)
def dH(n:Nat)(el iV:Nat→List IV):Nat→List IV:=λk=>if k<n then el k else iV (k-n)
def Ie(P:Program)(t:TypeId):Option Nat:=(P.info? t).map (·.bytes)
def Ih(m:Mem)(e:TypeId)(p:Nat)(x:AV):Option (Nat×(Nat→List IV)×List Bool×List Nat):=
 match x with
 | .c (.v (.slice none 0 0))=>some (0,(λ_=> []),[],[])
 | .fK b n sz=>
   match m b with
   | some (.arr n' sz' el e')=>bif beq sz p&&beq sz' p&&beq e e' then some (n,el,[n≤n'],[b])else none
   | _=>none
 | _=>none
def D6(P:Program)(m:Mem)(t u e:TypeId)(p D7:Nat)(y:AV):Option (Nat×(Nat→List IV)×List Bool×List Nat):=
 bif beq t u then
  match qN m y with
  | some (k,sz,el,cs,rs)=>bif beq sz p || beq k 0 then some (k,el,cs,rs)else none
  | none=>none
 else
  match P.underlying u,P.underlying e,y with
  | some .string,some (.int .u8),.c (.v (.string s))=>bif beq p 1&&beq D7 1 then some (s.data.toList.length,eD s.data.toList,[],[])else none
  | some (.int _),_,.c (.v (.int _ n))=>
    match o7 P e with
    | some z=>bif beq z.cells.size p&&z.cells.toList.all (·.oneCell')then
     some (n.toNat,(λ_=>z.cells.toList.map .v),[decide (0≤n),decide (n≤9223372036854775807),decide (n.toNat*D7≤140737488355328)],[])else none
    | none=>none
  | _,_,_=>none
def y5(P:Program)(slot:Nat)(m:Mem)(ts:List TypeId)(x y:AV):Option Eff:=
 match ts with
 | [t,u]=>
   match P.underlying t with
   | some (.slice e)=>
     match iZ P e,Ie P e,o7 P e with
     | some (p+1),some D7,some z=>
       bif beq z.cells.size (p+1)then
        match Ih m e (p+1) x,D6 P m t u e (p+1) D7 y with
        | some (n,el,c1,r1),some (k,iV,c2,r2)=>
          some {val:= .fK slot (n+k) (p+1),upd:=r1.map (λb=>(b,none))++[(slot,some (.arr (n+k) (p+1) (dH n el iV) e))],
                conds:=c1++c2++[decide (n+k≤9223372036854775807),decide ((n+k)*D7≤140737488355328)],reads:=r1++r2}
        | _,_=>none
       else none
     | _,_,_=>none
   | _=>none
 | _=>none
def Lg(P:Program)(m:Mem)(ts:List TypeId)(x y:AV):Option Eff:=
 match ts,x with
 | [t,u],.fK b n sz=>
   match P.underlying t with
   | some (.slice e)=>
     match iZ P e,m b,bif beq t u then qN m y else none with
     | some p,some (.arr n' sz' el e'),some (k,Gy,iV,cs,rs)=>
       bif beq sz p&&beq sz' p&&beq Gy p&&(rs.all λr=> !beq r b)then
        some {val:=bR .i64 (min k n:Nat),upd:=[(b,some (.arr n' sz' (λi=>if i<min k n then iV i else el i) e'))],conds:=decide (n≤n')::cs,reads:=b::rs}
       else none
     | _,_,_=>none
   | _=>none
 | _,_=>none
def alj(P:Program)(t:TypeId)(x:AV):Option Eff:=
 match P.underlying t,x with
 | some .string,.c (.v (.string s))=>some {val:=bR .i64 (s.data.toList.length:Nat)}
 | some (.slice _),.c (.sl n _ _)=>some {val:=bR .i64 (n:Nat)}
 | some (.slice _),.c (.v (.slice none 0 0))=>some {val:=bR .i64 0}
 | some (.slice _),.fK _ n _=>some {val:=bR .i64 (n:Nat)}
 | some (.slice _),.H9 _ _ n _=>some {val:=bR .i64 (n:Nat)}
 | some (.array n _),_=>some {val:=bR .i64 (n:Nat)}
 | _,_=>none
def alk(x y:AV):Option Eff:=
 match x,y with
 | .c (.v (.int k a)),.c (.v (.int _ b))=>some {val:=bR k (if b<a then b else a)}
 | _,_=>none
def alm(x y:AV):Option Eff:=
 match x,y with
 | .c (.v (.int k a)),.c (.v (.int _ b))=>some {val:=bR k (if b>a then b else a)}
 | _,_=>none
def aln(P:Program)(t:TypeId)(x:AV):Option Eff:=
 match P.underlying t,x with
 | some (.slice _),.c (.v (.slice none 0 0))=>some {val:=bR .i64 0}
 | _,_=>none
def D8(P:Program)(m:Mem)(t:TypeId)(x:AV):Option Eff:=
 match P.underlying t,x with
 | some (.slice e),.H9 b k _ sz=>
   match iZ P e,o7 P e,m b with
   | some p,some z,some (.arr n' sz' el e')=>
     bif beq p sz&&(beq sz' sz&&(Nat.ble k n'&&(beq z.cells.size sz&&z.cells.toList.all (·.oneCell'))))then some {val:= .fG [],upd:=[(b,some (.arr k sz el e'))],reads:=[b]}else none
   | _,_,_=>none
 | _,_=>none
def xU(P:Program)(slot:Nat)(m:Mem)(b:Builtin)(ts:List TypeId)(xs:List AV):Option Eff:=
 match b,ts,xs with
 | .len,[t],[x]=>alj P t x
 | .append,ts,[x,y]=>y5 P slot m ts x y
 | .copy,ts,[x,y]=>Lg P m ts x y
 | .min,_,[x,y]=>alk x y
 | .max,_,[x,y]=>alm x y
 | .cap,[t],[x]=>aln P t x
 | .clear,[t],[x]=>D8 P m t x
 | _,_,_=>none
def A9(P:Program)(slot:Nat)(t:TypeId)(x y:AV):Option Eff:=
 match P.underlying t,x,y with
 | some (.slice e),.c (.v (.int .i64 n)),.c (.v (.int .i64 k))=>
   match iZ P e,Ie P e,o7 P e with
   | some (p+1),some D7,some z=>
     bif beq z.cells.size (p+1)&&z.cells.toList.all (·.oneCell')then
      some {val:= .fK slot n.toNat (p+1),upd:=[(slot,some (.arr n.toNat (p+1) (λ_=>z.cells.toList.map .v) e))],
            conds:=[n=k,0≤n,n≤9223372036854775807,(D7:Int)*n≤140737488355328]}
     else none
   | _,_,_=>none
 | _,_,_=>none
def qC(P:Program)(slot:Nat)(t:TypeId)(n:Nat)(parts:List (Nat×AV)):Option Eff:=
 match P.underlying t with
 | some (.slice e)=>
   match iZ P e,o7 P e with
   | some (p+1),some z=>
     bif beq n 0&&parts.isEmpty then some {val:= .fK slot 0 (p+1),upd:=[(slot,some (.arr 0 (p+1) (λ_=> []) e))]}else
     match xC ((List.range n).map λi=>(i*(p+1),p+1)) ((List.range (n*(p+1))).map λj=>AV.c (.v (z.cells[j%z.cells.size]!))) parts with
     | some l=>
       match l.mapM PV with
       | some c=>bif Nat.ble (n*(p+1)) 16777216&&beq z.cells.size (p+1)&&l.all gU&& !beq n 0 then
        some {val:= .fK slot n (p+1),upd:=[(slot,some (.arr n (p+1) (λk=>(c.drop (k*(p+1))).take (p+1)) e))]}else none
       | none=>none
     | none=>none
   | _,_=>none
 | _=>none
def D9(P:Program)(m:Mem)(t:TypeId)(x:AV)(lo hi:Option AV):Option Eff:=
 match P.underlying t,x with
 | some .string,.c (.v (.string s))=>
   match lo,hi with
   | none,none=>some {val:= .c (.v (.string s))}
   | some (.c (.v (.int _ l))),none=>some {val:= .c (.v (.string ⟨⟨s.data.toList.drop l.toNat⟩⟩)),conds:=[0≤l∧l≤(s.data.toList.length:Int)]}
   | none,some (.c (.v (.int _ h)))=>some {val:= .c (.v (.string ⟨⟨s.data.toList.take h.toNat⟩⟩)),conds:=[0≤h∧h≤(s.data.toList.length:Int)]}
   | some (.c (.v (.int _ l))),some (.c (.v (.int _ h)))=>some {val:= .c (.v (.string ⟨⟨(s.data.toList.take h.toNat).drop l.toNat⟩⟩)),conds:=[0≤l∧l≤h∧h≤(s.data.toList.length:Int)]}
   | _,_=>none
 | some (.slice e),.fK b n sz=>
   match iZ P e,lo,hi with
   | some _,none,some (.c (.v (.int _ h)))=>some {val:= .fK b h.toNat sz,conds:=[0≤h∧h≤(n:Int)]}
   | some p,some (.c (.v (.int _ l))),none=>bif beq p sz then(bif beq l.toNat n then some {val:= .any,conds:=[0≤l]}else some {val:= .H9 b l.toNat (n-l.toNat) sz,conds:=[0≤l∧l<(n:Int)]})else none
   | _,_,_=>none
 | some (.slice e),.c (.sl n sz el)=>
   match iZ P e with
   | some p=>
     bif beq p sz then
      match lo,hi with
      | none,some (.c (.v (.int _ h)))=>some {val:= .c (.sl h.toNat sz el),conds:=[0≤h∧h≤(n:Int)]}
      | some (.c (.v (.int _ l))),none=>some {val:= .c (.sl (n-l.toNat) sz λk=>el (k+l.toNat)),conds:=[0≤l∧l≤(n:Int)]}
      | some (.c (.v (.int _ l))),some (.c (.v (.int _ h)))=>some {val:= .c (.sl (h.toNat-l.toNat) sz λk=>el (k+l.toNat)),conds:=[0≤l∧l≤h∧h≤(n:Int)]}
      | _,_=>none
     else none
   | none=>none
 | some (.slice e),.c (.v (.slice none 0 0))=>
   match iZ P e,lo,hi with
   | some _,none,some (.c (.v (.int _ h)))=>some {val:= .c (.v (.slice none 0 0)),conds:=[0≤h∧h≤0]}
   | _,_,_=>none
 | some (.array n e),.jr b 0 0 sz=>
   match iZ P e,m b,lo,hi with
   | some p,some (.arr n' sz' el _),none,some (.c (.v (.int _ h)))=>
     bif beq sz p&&beq sz' p&&beq n n'&& !beq n 0 then some {val:= .c (.sl h.toNat sz el),upd:=[(b,none)],conds:=[0≤h∧h≤(n:Int)],reads:=[b]}else none
   | _,_,_,_=>none
 | some (.array n e),.ptr b 0=>
   match iZ P e,m b,lo,hi with
   | some p,some (.cells l _),none,some (.c (.v (.int _ h)))=>
     match l.mapM PV with
     | some c=>bif beq l.length (n*p)&& !beq n 0&&l.all gU then some {val:= .c (.sl h.toNat p λk=>(c.drop (k*p)).take p),upd:=[(b,none)],conds:=[0≤h∧h≤(n:Int)],reads:=[b]}else none
     | none=>none
   | _,_,_,_=>none
 | _,_=>none
def Ea(P:Program)(m:Mem)(src dst:TypeId)(x:AV):Option Eff:=
 match P.underlying src,P.underlying dst with
 | some (.slice e),some .string=>
   match P.underlying e,qN m x with
   | some (.int .u8),some (n,sz,el,cs,rs)=>
     bif beq sz 1 || beq n 0 then some {val:= .c (.v (.string ⟨⟨bytesOf n el⟩⟩)),conds:=cs++[isBytes n el],reads:=rs}else none
   | _,_=>none
 | _,_=>aaJ P src dst x
def y7:List Value→Bool
 | [.agg cs]=>cs.isEmpty
 | _=>false
def jo:FuncId:=1000000000
def Ba(Γ:FuncId→Option Spec)(f:FuncId):Option Spec:=bif beq f jo then none else Γ f
def pF(l:Nat):Value:= .func (.yield l) #[] #[]
def tN(P:Program)(t:TypeId)(name:String):Option FuncId:=
 match P.info? t,P.underlying t with
 | some i,some (.struct _)=>
   match i.methods.find? (·.name==name)with
   | some m=>
     match m.func with
     | some (f,false)=>bif m.path.isEmpty then some f else none
     | _=>none
   | none=>none
 | _,_=>none
def PW(P:Program)(Γ:FuncId→Option Spec)(slot:Nat)(tm:List AV)(m:Mem)(c:Call):Option Eff:=
 match c.callee with
 | .builtin b=>xU P slot m b c.argTypes.toList (c.args.toList.map (bQ tm))
 | .value f=>
   match bQ tm f with
   | .c (.v (.func (.func f) first cap))=>bif first.isEmpty&&cap.isEmpty then(Ba Γ f).bind λs=>s slot m (c.args.toList.map (bQ tm))else
     bif y7 first.toList&&cap.isEmpty then(Ba Γ f).bind λs=>s slot m (.agg []::c.args.toList.map (bQ tm))else none
   | .c (.v (.func (.yield l) first cap))=>bif first.isEmpty&&(cap.isEmpty&&(P.funcs[jo]?).isNone)then(Γ jo).bind λs=>s slot m (.c (.v (pF l))::c.args.toList.map (bQ tm))else none
   | .fn f cap=>(Ba Γ f).bind λs=>s slot m (c.args.toList.map (bQ tm)++cap)
   | _=>none
 | .invoke recv name=>
   match bQ tm recv with
   | .c (.v (.iface t u))=>
     match tN P t name with
     | some f=>(Ba Γ f).bind λs=>s slot m (ofValue u::c.args.toList.map (bQ tm))
     | none=>none
   | _=>none
def uI(n:Int):List (Int×Value)→Option Value
 | []=>none
 | p::l=>bif decide (n=p.1)then some p.2 else uI n l
def M9(P:Program)(t:TypeId)(x y:AV)(ok:Bool):Option Eff:=
 match P.underlying t,x,y with
 | some (.map k e),.c (.mp es),.c (.v (.int .i64 n))=>
   match P.underlying k,o7 P e with
   | some (.int .i64),some z=>
     let v:=match uI n es with|some v=>v|none=>z
     some {val:=bif ok then .fG [ofValue v,bJ (uI n es).isSome]else ofValue v}
   | _,_=>none
 | _,_,_=>none
def nV(P:Program)(t:TypeId):Bool:=
 match P.underlying t with
 | some (.map k _)=>match P.underlying k with|some (.int .i64)=>true | _=>false
 | _=>false
def hintA:Option AV→Bool
 | none=>true
 | some (.c (.v (.int _ _)))=>true
 | _=>false
def Ii(P:Program)(slot:Nat)(t:TypeId)(x:Option AV):Option Eff:=
 bif nV P t&&hintA x then some {val:= .omap slot,upd:=[(slot,some (.uG []))]}else none
def pG(P:Program)(m:Mem)(t:TypeId)(x k v:AV):Option Eff:=
 match x,k,v with
 | .omap b,.c (.v (.int .i64 n)),.c y=>
   match m b with
   | some (.uG es)=>bif nV P t&&gU (.c y)then some {val:= .c (.v undef),upd:=[(b,some (.uG (es++[(n,y)])))],conds:=[es.all λp=> !decide (p.1=n)],reads:=[b]}else none
   | _=>none
 | _,_,_=>none
def Tt(P:Program)(slot:Nat)(t:TypeId)(x:AV):Option Eff:=
 match x with
 | .c (.mq es)=>bif nV P t then some {val:= .ptr slot 0,upd:=[(slot,some (.KF es []))]}else none
 | _=>none
def aaM(m:Mem)(x:AV):Option (List Eff):=
 match x with
 | .ptr b 0=>
   match m b with
   | some (.KF es seen)=>
     match (List.range es.length).filter λi=> !(seen.any λj=>beq i j)with
     | []=>some [{val:= .fG [bJ false],reads:=[b]}]
     | i::l=>some ((i::l).map λi=>{val:= .fG [bJ true,bR .i64 (es.getD i (0,.v undef)).1,.c (es.getD i (0,.v undef)).2],upd:=[(b,some (.KF es (seen++[i])))],reads:=[b]})
   | _=>none
 | _=>none
def Eb(m:Mem)(x:AV):Option Eff:=
 match x with
 | .ptr b 0=>
   match m b with
   | some (.KF es seen)=>
     match seen.getLast? with
     | some i=>some {val:= .fG [bR .i64 (es.getD i (0,.v undef)).1,.c (es.getD i (0,.v undef)).2],reads:=[b]}
     | none=>none
   | _=>none
 | _=>none
def nI(P:Program)(slot:Nat)(m:Mem)(t:TypeId)(n:Nat)(xs:List (Nat×AV)):Option Eff:=
 bif xs.any λp=> !(qB p.2).isEmpty then
  (qC P slot t n (xs.map λp=>(p.1,(fM m p.2).1))).map λr=>
   {r with conds:=(xs.map λp=>(fM m p.2).2).flatten++r.conds,upd:=((xs.map λp=>qB p.2).flatten.map λb=>(b,none))++r.upd,reads:=(xs.map λp=>qB p.2).flatten}
 else qC P slot t n xs
def Ah(P:Program)(Γ:FuncId→Option Spec)(slot:Nat)(o:Oper)(tm:List AV)(m:Mem):Option Eff:=
 let e:=bQ tm
 match o.op with
 | .move x | .assign x=>some {val:=e x}
 | .pick c a b=>
   match e c with
   | .c (.v (.bool t))=>
     match e a,e b with
     | .c (.v (.bool x)),.c (.v (.bool y))=>some {val:=bJ (bif t then x else y)}
     | x,y=>some {val:=bif t then x else y}
   | _=>none
 | .alloc t=>
   match o7 P t with
   | some z=>
     match P.underlying t with
     | some (.array n e)=>
       match iZ P e,o7 P e with
       | some (p+1),some ze=>bif Nat.ble z.cells.size 16&& !akH P e then Ia slot t (cellsOf z)else bif beq ze.cells.size (p+1)then Ib slot t n (p+1) ze z else none
       | _,_=>none
     | _=>Ia slot t (cellsOf z)
   | none=>none
 | .box t x=>bif (iP (e x)).all gU then Ia slot t (iP (e x))else none
 | .build t ps=>Tq P t (ps.toList.map λ(i,x)=>(i,e x))
 | .load t a=>Fx P m t (e a)
 | .store t a x=>D5 P m t (e a) (e x)
 | .nilCheck x=>
   match e x with
   | .ptr b off=>some {val:= .ptr b off}
   | .jr b k j sz=>some {val:= .jr b k j sz}
   | .fB l=>some {val:= .fB l}
   | .c (.v (.func (.method name) first cap))=>
     match first.toList with
     | [.iface t u]=>bif (tN P t name).isSome then some {val:= .c (.v (.func (.method name) #[.iface t u] cap))}else none
     | _=>none
   | _=>none
 | .binOp op t x y _=>ali P op t (e x) (e y)
 | .unOp op _ x=>unA op (e x)
 | .convert s d x=>Ea P m s d (e x)
 | .makeSlice t x y=>A9 P slot t (e x) (e y)
 | .buildSlice t n ps=>nI P slot m t n (ps.toList.map λ(i,x)=>(i,e x))
 | .indexAddr t x i=>A8 P m t (e x) (e i)
 | .slice t x lo hi mx=>bif mx.isNone then D9 P m t (e x) (lo.map e) (hi.map e)else none
 | .makeFunc fn first cap=>
   match fn with
   | .func f=>bif first.isEmpty then some {val:= .fn f (cap.toList.map e)}else
    match first.toList.map e,cap.toList with
    | [.agg []],[]=>some {val:= .c (.v (.func (.func f) #[.agg #[]] #[]))}
    | _,_=>none
   | .method name=>
     match first.toList.map e,cap.toList with
     | [.c (.v (.iface t u))],[]=>some {val:= .c (.v (.func (.method name) #[.iface t u] #[]))}
     | _,_=>none
   | _=>none
 | .makeInterface t x=>
   match P.underlying t,e x with
   | some (.struct _),.agg []=>some {val:= .c (.v (.iface t (.agg #[])))}
   | _,_=>none
 | .fieldAddr t x f=>AZ P t (e x) f
 | .field t x f=>aaK P t (e x) f
 | .index t x i=>aaL P t (e x) (e i)
 | .lookup t x i ok=>M9 P t (e x) (e i) ok
 | .extract x i=>
   match e x with
   | .fG l=>(l[i]?).map λv=>{val:=v}
   | _=>none
 | .call c=>PW P Γ slot tm m c
 | .makeMap t r=>Ii P slot t (r.map e)
 | .mapUpdate t x k v=>pG P m t (e x) (e k) (e v)
 | .range t x=>Tt P slot t (e x)
 | .entry x=>Eb m (e x)
 | _=>none
def qD(ops:List Oper)(j:Nat):Bool:=ops.any λo=>match o.guard with|some (k,_)=>beq k j|none=>false
def nW(ops:List Oper)(tm:List AV)(o:Oper):Option Bool:=
 match o.guard with
 | none=>some true
 | some (j,want)=>
   match (ops[j]?).bind (·.dst)with
   | some d=>
     match tm.getD d .any with
     | .c (.v (.bool b))=>some (b==want)
     | .c (.v (.tuple _))=>some false
     | _=>none
   | none=>none
structure Did where
 idx:Nat
 reads:List Nat
 writes:List Nat
def gK(P:Program)(Γ:FuncId→Option Spec)(all:List Oper)(base:Nat):List Oper→Nat→St→List Did→Tr (St×List Did)
 | [],_,S,ds=> .ret (S,ds)
 | o::rest,i,S,ds=>
   match nW all S.tm o with
   | none=> .fail "guard"
   | some false=>gK P Γ all base rest (i+1) (S.apply o.dst {val:= .c (.v undef)}) ({idx:=i,reads:=[],writes:=[]}::ds)
   | some true=>
     match Ah P Γ (base+i) o S.tm S.mem with
     | none=> .fail o.pos
     | some r=>
       let d:Did:={idx:=i,reads:=r.reads,writes:=r.upd.map (·.1)}
       Tr.needs r.conds<|
        bif qD all i then
         match r.val with
         | .c (.v (.bool b))=>
           .ite b (gK P Γ all base rest (i+1) (S.apply o.dst {r with val:=bJ true}) (d::ds))
            (gK P Γ all base rest (i+1) (S.apply o.dst {r with val:=bJ false}) (d::ds))
         | _=> .fail "source"
        else gK P Γ all base rest (i+1) (S.apply o.dst r) (d::ds)
def disjoint(l m:List Nat):Bool:=l.all λx=> !(m.any λy=>beq x y)
def BP(ops:List Oper):Bool:=ops.zipIdx.all λp=>p.1.after.toList.all λe=> !Region.binds .any e || Nat.blt e.on p.2
def r9(ops:List Oper):Nat→Nat→Nat→Bool
 | 0,_,_=>false
 | n+1,i,j=>match ops[i]? with|some oi=>oi.after.toList.any (λe=>Region.binds .any e&&(beq e.on j || r9 ops n e.on j))|none=>false
def Ij(ops:List Oper)(a b:Did):Bool:=
 match ops[a.idx]?,ops[b.idx]? with
 | some oa,some ob=>
   (ob.after.toList.any (λe=>Region.binds .any e&&beq e.on a.idx) ||
    (Oper.apart ops.toArray oa ob&&disjoint a.writes b.reads&&disjoint a.writes b.writes&&disjoint a.reads b.writes)) || r9 ops 6 b.idx a.idx
 | _,_=>false
def uZ(ops:List Oper)(a:Did):List Did→Bool
 | []=>true
 | b::l=>Ij ops a b&&uZ ops a l
def Ec(ops:List Oper):List Did→Bool
 | []=>true
 | a::l=>uZ ops a l&&Ec ops l
def BQ(ob:Oper)(i:Nat):Bool:=ob.after.toList.any (λe=>Region.binds .any e&&beq e.on i)
def WO(arr:Array Oper)(i:Nat)(oa ob:Oper):Bool:=BQ ob i || Oper.apart arr oa ob
def WQ(arr:Array Oper)(i:Nat)(oa:Oper):List Oper→Bool
 | []=>true
 | ob::l=>WO arr i oa ob&&WQ arr i oa l
def Ik(arr:Array Oper):Nat→List Oper→Bool
 | _,[]=>true
 | i,o::l=>WQ arr i o l&&Ik arr (i+1) l
def Lh:Nat→List Did→Bool
 | _,[]=>true
 | i,d::l=>beq d.idx i&&Lh (i+1) l
def alo(ops:List Oper)(a b:Did):Bool:=
 bif a.writes.isEmpty&&b.writes.isEmpty then true else
 ((match ops[b.idx]? with|some ob=>BQ ob a.idx|none=>false) || (disjoint a.writes b.reads&&disjoint a.writes b.writes&&disjoint a.reads b.writes)) || r9 ops 6 b.idx a.idx
def afA(ops:List Oper)(a:Did):List Did→Bool
 | []=>true
 | b::l=>alo ops a b&&afA ops a l
def afB(ops:List Oper):List Did→Bool
 | []=>true
 | a::l=>afA ops a l&&afB ops l
def indep(ops:List Oper)(ds:List Did):Bool:=
 Region.noSelect ops.toArray&&BP ops&&Ik ops.toArray 0 ops&&(Nat.ble ds.length ops.length&&Lh 0 ds.reverse&&afB ops ds.reverse)
def blanks(S:St)(n:Nat):St:={S with nx:=S.nx+n}
def pI(P:Program)(Γ:FuncId→Option Spec)(ops:List Oper)(draw:Bool)(S:St):Tr St:=
 (gK P Γ ops S.nx ops 0 (blanks S ops.length) []).bind λ(S',ds)=>
  bif !draw || indep ops ds then .ret S' else .fail "order"
mutual
def Ed(c:Bool):AV→AV→Option AV
 | .c (.v (.bool a)),.c (.v (.bool b))=>some (.c (.v (.bool (bif c then a else b))))
 | .c (.v (.int k a)),.c (.v (.int k' b))=>if k=k' then some (.c (.v (.int k (bif c then a else b))))else none
 | .c (.v (.string a)),.c (.v (.string b))=>some (.c (.v (.string (bif c then a else b))))
 | .ptr b o,.ptr b' o'=>bif beq b b'&&beq o o' then some (.ptr b o)else none
 | .agg l,.agg m=>(wB c l m).map .agg
 | .fG l,.fG m=>(wB c l m).map .fG
 | _,_=>none
def wB(c:Bool):List AV→List AV→Option (List AV)
 | [],[]=>some []
 | x::l,y::m=>
   match Ed c x y,wB c l m with
   | some z,some n=>some (z::n)
   | _,_=>none
 | _,_=>none
end
def BR(c:Bool)(x y:AV):AV:=(Ed c x y).getD .any
def xV(c:Bool):List AV→List AV→Option (List AV)
 | [],[]=>some []
 | x::l,y::m=>(xV c l m).map λn=>BR c x y::n
 | _,_=>none
def flat(ops:List Oper)(draw:Bool)(KG:List Tmp)(n0:Nat):Tr (St×List Did)→Option (Bool×List AV)
 | .ret (S,ds)=>bif ((ds.take (ds.length-n0)).all λd=>d.writes.isEmpty)&&(!draw || indep ops ds)then some (true,KG.map λt=>S.tm.getD t .any)else none
 | .need p t=>
   match flat ops draw KG n0 t with
   | some (q,l)=>some (p&&q,l)
   | none=>none
 | .both _ _=>none
 | .ite c a b=>
   match flat ops draw KG n0 a,flat ops draw KG n0 b with
   | some (p,l),some (q,m)=>
     match xV c l m with
     | some n=>some (bif c then p else q,n)
     | none=>none
   | _,_=>none
 | .fail _=>none
def Ee:List AV→List Tmp→List AV→List AV
 | tm,t::l,v::vs=>Ee (tm.set t v) l vs
 | tm,_,_=>tm
def qE(all:List Oper):List Oper→Nat→Nat
 | [],i=>i
 | _::l,i=>bif qD all i then i else qE all l (i+1)
def checked(ops:List Oper)(draw:Bool)(p:St×List Did):Tr St:=bif !draw || indep ops p.2 then .ret p.1 else .fail "order"
def xW(P:Program)(Γ:FuncId→Option Spec)(ops:List Oper)(draw:Bool)(S:St):Tr St:=
 let i0:=qE ops ops 0
 (gK P Γ ops S.nx (ops.take i0) 0 (blanks S ops.length) []).bind λp=>
  let T:=gK P Γ ops S.nx (ops.drop i0) i0 p.1 p.2
  let KG:=(ops.drop i0).filterMap (·.dst)
  match flat ops draw KG p.2.length T with
  | some (c,vs)=> .need c (.ret {p.1 with tm:=Ee p.1.tm KG vs})
  | none=>T.bind (checked ops draw)
def Na(N:Nat):Nat:=bif Nat.ble 1000 N then N-1000 else N
def BS(P:Program)(Γ:FuncId→Option Spec)(N:Nat)(ops:List Oper)(draw:Bool)(S:St):Tr St:=
 bif Nat.ble 1000 N&&ops.any (λo=>o.guard.isSome)then xW P Γ ops draw S else pI P Γ ops draw S
def aaN{α:Type}:List (Tr α)→Tr α
 | []=> .fail "none"
 | [t]=>t
 | t::l=> .both t (aaN l)
def Tv(o:Oper):Option Operand:=
 match o.op,o.guard with
 | .next x false,none=>some x
 | _,_=>none
def Nb(P:Program)(Γ:FuncId→Option Spec)(N:Nat)(ops:List Oper)(draw:Bool)(S:St):Tr St:=
 match ops with
 | o::rest=>
   match Tv o with
   | some x=>
     bif draw || qD ops 0 then .fail "next" else
     match aaM S.mem (bQ S.tm x)with
     | some rs=>aaN (rs.map λr=>(gK P Γ ops S.nx rest 1 ((blanks S ops.length).apply o.dst r) []).bind λp=> .ret p.1)
     | none=> .fail "next"
   | none=>BS P Γ N ops draw S
 | []=>BS P Γ N ops draw S
inductive Ex where
 | normal|exit (id:Nat)|ret
def WR(f:St→Tr (Ex×St)):Nat→St→Tr (Ex×St)
 | 0,_=> .fail "rounds"
 | n+1,S=>(f S).bind λ(e,S)=>
   match e with
   | .normal=>WR f n S
   | e=> .ret (e,S)
def exec(P:Program)(Γ:FuncId→Option Spec)(L:Nat→Option (St→Tr (Ex×St)))(N:Nat):Code→St→Tr (Ex×St)
 | .skip,S=> .ret (.normal,S)
 | .region _ ops draw,S=>(Nb P Γ N ops.toList draw S).bind λS=> .ret (.normal,S)
 | .seq a b,S=>(exec P Γ L N a S).bind λ(e,S)=>
   match e with
   | .normal=>exec P Γ L N b S
   | e=> .ret (e,S)
 | .cond c a b,S=>
   match bQ S.tm c with
   | .c (.v (.bool t))=> .ite t (exec P Γ L N a S) (exec P Γ L N b S)
   | _=> .fail "cond"
 | .block id body,S=>
   match L id with
   | some g=>g S
   | none=>(exec P Γ L N body S).bind λ(e,S)=>
     match e with
     | .exit j=>bif beq j id then .ret (.normal,S)else .ret (.exit j,S)
     | e=> .ret (e,S)
 | .loop body,S=>WR (λS=>exec P Γ L N body S) (Na N) S
 | .scope body,S=>exec P Γ L N body S
 | .exit id,S=> .ret (.exit id,S)
 | .ret,S=> .ret (.ret,S)
 | _,_=> .fail "code"
def nX(P:Program)(S:St):ResultVar→Option AV
 | .tmp t=>some (S.tm.getD t .any)
 | .cell a t=>
   match Fx P S.mem t (S.tm.getD a .any)with
   | some r=>
     match r.conds with
     | []=>some r.val
     | _=>none
   | none=>none
def nY(P:Program)(S:St)(rs:List ResultVar):Option AV:=
 match rs with
 | [r]=>nX P S r
 | rs=>(rs.mapM (nX P S)).map .fG
def start(args:List AV)(ntmps:Nat):St:={tm:=args++List.replicate (ntmps-args.length) (.c (.v undef)),mem:=λ_=>none,nx:=0}
def aN(P:Program)(Γ:FuncId→Option Spec)(L:Nat→Option (St→Tr (Ex×St)))(N:Nat)(fn:Func)(args:List AV):Tr AV:=
 match fn.body with
 | none=> .fail "body"
 | some c=>(exec P Γ L N c (start args fn.ntmps)).bind λ(e,S)=>
   match e with
   | .exit _=> .fail "exit"
   | _=>
     match nY P S fn.results.toList with
     | some v=>Tr.needs (fM S.mem v).2 (.ret (fM S.mem v).1)
     | none=> .fail "results"
end Go.bA
namespace Go.bA
open Go.RowKit
theorem dec{p:Prop} [Decidable p](h:decide p=true):p:=iX h
def jE(w:World)(a:Addr):Value:=(w.cell? a).getD undef
theorem vg{w:World}{a:Addr}{v:Value}(h:w.cell? a=some v):jE w a=v:=by simp[jE,h]
theorem uJ{w:World}{a:Addr}(h:(w.cell? a).isSome=true):w.cell? a=some (jE w a):=by
 cases hc:w.cell? a with
 | none=>rw[hc]at h;cases h
 | some v=>simp[jE,hc]
def me0:MapEntry:={key:=undef,val:=undef,born:=0}
def mz:Int×IV:=(0,.v undef)
structure wC (es:List (Int×IV)) (entries:Array MapEntry) (clock:Nat):Prop where
 size:entries.size=es.length
 clock:clock=es.length
 key: ∀i,i<es.length→(entries.getD i me0).key= .int .i64 (es.getD i mz).1
 born: ∀i,i<es.length→(entries.getD i me0).born=i
 one: ∀i,i<es.length→(entries.getD i me0).val.oneCell'=true
inductive jd (A:Nat→Prop) (w:World):IV→Value→Prop
 | v (x:Value):jd A w (.v x) x
 | nil (sz:Nat) (el:Nat→List IV):jd A w (.sl 0 sz el) (.slice none 0 0)
 | zero (sz:Nat) (el:Nat→List IV) (a:Addr):jd A w (.sl 0 sz el) (.slice (some a) 0 0)
 | sl (n sz:Nat) (el:Nat→List IV) (b off cap:Nat) (hA: ¬A b) (hb:b<w.heap.size) (hn:n≤cap)
  (hl: ∀k,k<n→(el k).length=sz)
  (hs: ∀k j,k<n→j<sz→(w.cell? ⟨b,off+(k*sz+j),none⟩).isSome=true∧(jE w ⟨b,off+(k*sz+j),none⟩).oneCell'=true)
  (h: ∀k j,k<n→j<sz→jd A w ((el k).getD j (.v undef)) (jE w ⟨b,off+(k*sz+j),none⟩)):
  jd A w (.sl n sz el) (.slice (some ⟨b,off,none⟩) n cap)
 | mp (es:List (Int×Value)) (b clock:Nat) (entries:Array MapEntry) (hA: ¬A b) (hb:b<w.heap.size) (hh:w.heap[b]? =some (.map entries clock))
  (he:entries.toList.map (λe=>(e.key,e.val))=es.map λp=>(Value.int .i64 p.1,p.2)):jd A w (.mp es) (.map (some b))
 | mq (es:List (Int×IV)) (b clock:Nat) (entries:Array MapEntry) (hA: ¬A b) (hb:b<w.heap.size) (hh:w.heap[b]? =some (.map entries clock)) (hk:wC es entries clock)
  (hv: ∀i,i<es.length→jd A w (es.getD i mz).2 (entries.getD i me0).val):jd A w (.mq es) (.map (some b))
abbrev dI:=Nat→Option Nat
inductive aV (A:Nat→Prop) (B:dI) (w:World):AV→Value→Prop
 | c (x:IV) (v:Value):jd A w x v→aV A B w (.c x) v
 | agg (l:List AV) (cs:Array Value):cs.size=l.length→(∀j,j<l.length→aV A B w (l.getD j .any) (cs.getD j undef))→aV A B w (.agg l) (.agg cs)
 | fG (l:List AV) (cs:Array Value):cs.size=l.length→(∀j,j<l.length→aV A B w (l.getD j .any) (cs.getD j undef))→aV A B w (.fG l) (.tuple cs)
 | ptr (b off β:Nat):B b=some β→aV A B w (.ptr b off) (.pointer (some ⟨β,off,none⟩))
 | jr (b k j sz β:Nat):B b=some β→aV A B w (.jr b k j sz) (.pointer (some ⟨β,k*sz+j,none⟩))
 | fK (b n sz cap β:Nat):B b=some β→n≤cap→cap≤maxLen→(∃C t fz,w.heap[β]? =some (.cells C t fz)∧C.size=cap*sz)→
  aV A B w (.fK b n sz) (.slice (some ⟨β,0,none⟩) n cap)
 | H9 (b k n sz cap β:Nat):B b=some β→n≤cap→0<n→(∃C t fz,w.heap[β]? =some (.cells C t fz)∧(k+n)*sz≤C.size)→
  aV A B w (.H9 b k n sz) (.slice (some ⟨β,k*sz,none⟩) n cap)
 | tu (b sz:Nat):aV A B w (.fK b 0 sz) (.slice none 0 0)
 | fB (l:List IV) (b off:Nat): ¬A b→b<w.heap.size→
  (∀j,j<l.length→(w.cell? ⟨b,off+j,none⟩).isSome=true∧jd A w (l.getD j (.v undef)) (jE w ⟨b,off+j,none⟩))→aV A B w (.fB l) (.pointer (some ⟨b,off,none⟩))
 | fn (f:FuncId) (l:List AV) (cs:Array Value):cs.size=l.length→(∀j,j<l.length→aV A B w (l.getD j .any) (cs.getD j undef))→
  aV A B w (.fn f l) (.func (.func f) #[] cs)
 | omap (b β:Nat):B b=some β→aV A B w (.omap b) (.map (some β))
 | any (v:Value):aV A B w .any v
structure Trans (A:Nat→Prop) (w w':World):Prop where
 size:w.heap.size≤w'.heap.size
 out: ∀b,b<w.heap.size→ ¬A b→w'.heap[b]? =w.heap[b]?
 own: ∀b,A b→ ∀C t fz,w.heap[b]? =some (.cells C t fz)→ ∃C' t' Te,w'.heap[b]? =some (.cells C' t' Te)∧C'.size=C.size
theorem Trans.refl(A:Nat→Prop)(w:World):Trans A w w:=⟨Nat.le_refl _,λ_ _ _=>rfl,λ_ _ C t fz h=>⟨C,t,fz,h,rfl⟩⟩
theorem lt_of_heap{w:World}{b:Nat}{o:Obj}(h:w.heap[b]? =some o):b<w.heap.size:=(Array.getElem?_eq_some_iff.1 h).1
theorem Trans.of_below{A:Nat→Prop}{w w':World}(h:Below w.heap.size w w'):Trans A w w':=
 ⟨h.size,λb hb _=>h.block b hb,λb _ C t fz hc=>⟨C,t,fz,by rw[h.block b (lt_of_heap hc)];exact hc,rfl⟩⟩
theorem jd.trans{A A':Nat→Prop}{w w':World}(ht:Trans A w w')(hA: ∀b,b<w.heap.size→A' b→A b){x:IV}{v:Value}
  (h:jd A w x v):jd A' w' x v:=by
 induction h with
 | v x=>exact .v x
 | nil sz el=>exact .nil sz el
 | zero sz el a=>exact .zero sz el a
 | sl n sz el b off cap hA0 hb hn hl hs h ih=>
   have he: ∀k j,w'.cell? ⟨b,off+(k*sz+j),none⟩=w.cell? ⟨b,off+(k*sz+j),none⟩:=λk j=>World.cell?_of_block (ht.out b hb hA0)
   refine .sl n sz el b off cap (λh'=>hA0 (hA b hb h')) (Nat.lt_of_lt_of_le hb ht.size) hn hl (λk j hk hj=> ?_) λk j hk hj=> ?_
   ·have:=hs k j hk hj
    unfold jE at*;rw[he];exact this
   ·have:=ih k j hk hj
    unfold jE at*;rw[he];exact this
 | mp es b clock entries hA0 hb hh he=>exact .mp es b clock entries (λh'=>hA0 (hA b hb h')) (Nat.lt_of_lt_of_le hb ht.size) (by rw[ht.out b hb hA0];exact hh) he
 | mq es b clock entries hA0 hb hh hk hv ih=>exact .mq es b clock entries (λh'=>hA0 (hA b hb h')) (Nat.lt_of_lt_of_le hb ht.size) (by rw[ht.out b hb hA0];exact hh) hk ih
theorem aV.trans{A A':Nat→Prop}{B B':dI}{w w':World}(ht:Trans A w w')(hA: ∀b,b<w.heap.size→A' b→A b)
  (hB: ∀s β,B s=some β→B' s=some β) {x:AV} {v:Value} (h:aV A B w x v):aV A' B' w' x v:=by
 induction h with
 | c x v h=>exact .c x v (h.trans ht hA)
 | agg l cs hs _ ih=>exact .agg l cs hs ih
 | fG l cs hs _ ih=>exact .fG l cs hs ih
 | ptr b off β h=>exact .ptr b off β (hB _ _ h)
 | jr b k j sz β h=>exact .jr b k j sz β (hB _ _ h)
 | fK b n sz cap β h hn hm hc=>
   obtain⟨C,t,fz,hc,hle⟩:=hc;refine .fK b n sz cap β (hB _ _ h) hn hm ?_;by_cases ha:A β
   ·obtain⟨C',t',Te,hc',hs⟩:=ht.own β ha C t fz hc
    exact⟨C',t',Te,hc',by omega⟩
   ·exact⟨C,t,fz,by rw[ht.out β (lt_of_heap hc) ha];exact hc,hle⟩
 | H9 b k n sz cap β h hn h0 hc=>
   obtain⟨C,t,fz,hc,hle⟩:=hc;refine .H9 b k n sz cap β (hB _ _ h) hn h0 ?_;by_cases ha:A β
   ·obtain⟨C',t',Te,hc',hs⟩:=ht.own β ha C t fz hc
    exact⟨C',t',Te,hc',by omega⟩
   ·exact⟨C,t,fz,by rw[ht.out β (lt_of_heap hc) ha];exact hc,hle⟩
 | tu b sz=>exact .tu b sz
 | fB l b off hn hb h=>
   refine .fB l b off (λh'=>hn (hA b hb h')) (Nat.lt_of_lt_of_le hb ht.size) λj hj=> ?_
   have he:w'.cell? ⟨b,off+j,none⟩=w.cell? ⟨b,off+j,none⟩:=World.cell?_of_block (ht.out b hb hn);obtain⟨hx,hr⟩:=h j hj;have hr':=hr.trans ht hA;unfold jE at*;rw[he];exact⟨hx,hr'⟩
 | fn f l cs hs _ ih=>exact .fn f l cs hs ih
 | omap b β h=>exact .omap b β (hB _ _ h)
 | any v=>exact .any v
theorem tO{l:List AV}(h:uH l=true): ∀j,j<l.length→dY (l.getD j .any)=true:=by
 induction l with
 | nil=>intro j hj;simp at hj
 | cons x l ih=>
   intro j hj;simp only[uH,bI]at h;cases j with
   | zero=>simpa using h.1
   | succ j=>simpa using ih h.2 j (by simpa using hj)
theorem aV.dY{A:Nat→Prop}{B:dI}{w:World}{x:AV}{v:Value}(h:aV A B w x v)(hn:bA.dY x=true)(B':dI):aV A B' w x v:=by
 induction h with
 | c x v h=>exact .c x v h
 | agg l cs hs _ ih=>exact .agg l cs hs λj hj=>ih j hj (tO (by simpa[bA.dY]using hn) j hj)
 | fG l cs hs _ ih=>exact .fG l cs hs λj hj=>ih j hj (tO (by simpa[bA.dY]using hn) j hj)
 | ptr b off β h=>simp[bA.dY]at hn
 | jr b k j sz β h=>simp[bA.dY]at hn
 | fK b n sz cap β h _ _ _=>simp[bA.dY]at hn
 | H9 b k n sz cap β h _ _ _=>simp[bA.dY]at hn
 | tu b sz=>exact .tu b sz
 | fB l b off hA hb h=>exact .fB l b off hA hb h
 | fn f l cs hs _ ih=>exact .fn f l cs hs λj hj=>ih j hj (tO (by simpa[bA.dY]using hn) j hj)
 | omap b β h=>simp[bA.dY]at hn
 | any v=>exact .any v
theorem aV.oneCell{A:Nat→Prop}{B:dI}{w:World}{x:AV}{v:Value}(h:aV A B w x v)(hc:gU x=true):v.oneCell'=true:=by
 cases h with
 | c x v h=>
   cases h with
   | v x=>simpa[gU]using hc
   | nil=>rfl
   | zero=>rfl
   | sl=>rfl
   | mp=>rfl
   | mq=>rfl
 | agg l cs=>simp[gU]at hc
 | fG l cs=>simp[gU]at hc
 | any v=>simp[gU]at hc
 | _=>rfl
inductive fZ (A:Nat→Prop) (B:dI) (w:World):gJ→Option Obj→Prop
 | cells (l:List AV) (t:TypeId) (cs:Array Value):cs.size=l.length→(∀j,j<l.length→aV A B w (l.getD j .any) (cs.getD j undef))→
  fZ A B w (.cells l t) (some (.cells cs t (0,0)))
 | arr (n sz:Nat) (el:Nat→List IV) (t:TypeId) (cs:Array Value):n*sz≤cs.size→(∀k,k<n→(el k).length=sz)→
  (∀k j,k<n→j<sz→(cs.getD (k*sz+j) undef).oneCell'=true∧jd A w ((el k).getD j (.v undef)) (cs.getD (k*sz+j) undef))→fZ A B w (.arr n sz el t) (some (.cells cs t (0,0)))
 | uG (es:List (Int×IV)) (entries:Array MapEntry) (clock:Nat):wC es entries clock→(∀i,i<es.length→jd A w (es.getD i mz).2 (entries.getD i me0).val)→fZ A B w (.uG es) (some (.map entries clock))
 | KF (es:List (Int×IV)) (seen:List Nat) (b:Nat):jd A w (.mq es) (.map (some b))→(∀i∈seen,i<es.length)→fZ A B w (.KF es seen) (some (.mapIter (some b) es.length seen.toArray es.length))
theorem fZ.trans{A A':Nat→Prop}{B B':dI}{w w':World}(ht:Trans A w w')(hA: ∀b,b<w.heap.size→A' b→A b)
  (hB: ∀s β,B s=some β→B' s=some β) {e:gJ} {o:Option Obj} (h:fZ A B w e o):fZ A' B' w' e o:=by
 cases h with
 | cells l t cs hs h=>exact .cells l t cs hs λj hj=>(h j hj).trans ht hA hB
 | arr n sz el t cs hs hl h=>exact .arr n sz el t cs hs hl λk j hk hj=>⟨(h k j hk hj).1,(h k j hk hj).2.trans ht hA⟩
 | uG es entries clock hk hv=>exact .uG es entries clock hk λi hi=>(hv i hi).trans ht hA
 | KF es seen b h hs=>exact .KF es seen b (h.trans ht hA) hs
theorem fZ.isCells{A:Nat→Prop}{B:dI}{w:World}{n sz:Nat}{el:Nat→List IV}{t:TypeId}{o:Option Obj}(h:fZ A B w (.arr n sz el t) o): ∃cs t,o=some (.cells cs t (0,0)):=by
 cases h with
 | arr n sz el t cs _ _ _=>exact⟨cs,t,rfl⟩
structure Ctx where
 A0:Nat→Prop
 X:Nat→Prop
 w0:World
 k:Nat
 B0:dI
structure Ctx.Ok (C:Ctx):Prop where
 a0: ∀b,C.A0 b→b<C.w0.heap.size
 x: ∀b,C.X b→b<C.w0.heap.size
 Il: ∀b,C.A0 b→ ¬C.X b
structure Kept (X:Nat→Prop) (a w:World):Prop where
 os:w.os=a.os
 tape:w.tape=a.tape
 output:w.output=a.output
 size:a.heap.size≤w.heap.size
 block: ∀k,k<a.heap.size→ ¬X k→w.heap[k]? =a.heap[k]?
 rows: ∀(k:Nat) (D:Array Value) (t:TypeId) (fz:Nat×Nat),a.heap[k]? =some (.cells D t fz)→ ∃D' t' Te,w.heap[k]? =some (.cells D' t' Te)∧D'.size=D.size
theorem Kept.refl(X:Nat→Prop)(w:World):Kept X w w:=⟨rfl,rfl,rfl,Nat.le_refl _,λ_ _ _=>rfl,λ_ D t fz h=>⟨D,t,fz,h,rfl⟩⟩
theorem Kept.trans{X Y:Nat→Prop}{a b c:World}(h:Kept X a b)(k:Kept Y b c)(hY: ∀i,i<a.heap.size→Y i→X i):Kept X a c:=
 ⟨k.os.trans h.os,k.tape.trans h.tape,k.output.trans h.output,Nat.le_trans h.size k.size,λi hi hx=>(k.block i (Nat.lt_of_lt_of_le hi h.size) (λhy=>hx (hY i hi hy))).trans (h.block i hi hx),
  λi D t fz hD=>by
   obtain⟨D',t',Te,h1,h2⟩:=h.rows i D t fz hD;obtain⟨D2,t2,fz2,h3,h4⟩:=k.rows i D' t' Te h1;exact⟨D2,t2,fz2,h3,h4.trans h2⟩⟩
theorem Kept.of_below{w w':World}(h:Below w.heap.size w w')(X:Nat→Prop):Kept X w w':=
 ⟨h.os,h.tape,h.output,h.size,λk hk _=>h.block k hk,λk D t fz hD=>⟨D,t,fz,by rw[h.block k (lt_of_heap hD)];exact hD,rfl⟩⟩
theorem Kept.below{w w':World}(h:Kept (λ_=>False) w w'):Below w.heap.size w w':=⟨h.os,h.tape,h.output,h.size,λk hk=>h.block k hk (λh=>h)⟩
def aU(A0:Nat→Prop)(B:dI)(m:Mem)(b:Nat):Prop:=A0 b∨ ∃s e,m s=some e∧B s=some b
def gJ.none0:gJ→Prop
 | .arr n _ _ _=>n=0
 | _=>False
structure Holds (C:Ctx) (B:dI) (S:St) (a:Act) (w:World):Prop where
 defers:a.defers=[]
 size:a.tmps.size=S.tm.length
 tm: ∀t,t<S.tm.length→aV (aU C.A0 B S.mem) B w (S.tm.getD t .any) (a.tmps.getD t undef)
 mem: ∀s e,S.mem s=some e→(∃β,B s=some β∧fZ (aU C.A0 B S.mem) B w e w.heap[β]?)∨(B s=none∧e.none0)
 inj: ∀s s' e e' β,S.mem s=some e→S.mem s'=some e'→B s=some β→B s'=some β→s=s'
 kept:Kept C.X C.w0 w
 old: ∀s β,B s=some β→(C.w0.heap.size≤β∨C.X β)∧β<w.heap.size
 fresh: ∀s,S.nx≤s→B s=none
 base: ∀s,s<C.k→B s=C.B0 s
 sW:C.k≤S.nx
def Between(C:Ctx)(S:St)(s:Nat):Prop:=C.k≤s∧s<S.nx
end Go.bA
namespace Go.bA
open Go.RowKit
def dN(A:Nat→Prop)(B:dI)(w:World)(l:List AV)(cs:List Value):Prop:=
 cs.length=l.length∧ ∀j,j<l.length→aV A B w (l.getD j .any) (cs.getD j undef)
section
variable{A:Nat→Prop}{B:dI}{w:World}
theorem dN.nil:dN A B w [] []:=⟨rfl,λj hj=>by simp at hj⟩
theorem dN.cons{x:AV}{v:Value}{l:List AV}{cs:List Value}(h:aV A B w x v)(hl:dN A B w l cs):dN A B w (x::l) (v::cs):=
 ⟨by simp[hl.1],λj hj=>by
  cases j with
  | zero=>simpa using h
  | succ j=>simpa using hl.2 j (by simpa using hj)⟩
theorem dN.head{x:AV}{l:List AV}{cs:List Value}(h:dN A B w (x::l) cs): ∃v cs',cs=v::cs'∧aV A B w x v∧dN A B w l cs':=by
 obtain⟨hl,h⟩:=h;cases cs with
 | nil=>simp at hl
 | cons v cs'=>
   refine⟨v,cs',rfl,by simpa using h 0 (by simp),by simpa using hl,λj hj=>by simpa using h (j+1) (by simpa using hj)⟩
theorem dN.nZ{cs:List Value}(h:dN A B w [] cs):cs=[]:=List.eq_nil_of_length_eq_zero (by simpa using h.1)
theorem dN.append{l m:List AV}{cs ds:List Value}(h:dN A B w l cs)(k:dN A B w m ds):dN A B w (l++m) (cs++ds):=by
 refine⟨by simp[h.1,k.1],λj hj=> ?_⟩;by_cases hlt:j<l.length
 ·have:=h.2 j hlt
  simpa[dJ,List.getElem?_append_left hlt,List.getElem?_append_left (show j<cs.length by rw[h.1];exact hlt)]using this
 ·have:=k.2 (j-l.length) (by simp at hj;omega)
  simpa[dJ,List.getElem?_append_right (Nat.le_of_not_lt hlt),List.getElem?_append_right (show cs.length≤j by rw[h.1];omega),h.1]using this
theorem dN.take{l:List AV}{cs:List Value}(h:dN A B w l cs)(n:Nat):dN A B w (l.take n) (cs.take n):=by
 refine⟨by simp[h.1],λj hj=> ?_⟩;have hj':j<n∧j<l.length:=by simp at hj;omega
 have:=h.2 j hj'.2;simpa[dJ,List.getElem?_take,hj'.1]using this
theorem dN.drop{l:List AV}{cs:List Value}(h:dN A B w l cs)(n:Nat):dN A B w (l.drop n) (cs.drop n):=by
 refine⟨by simp[h.1],λj hj=> ?_⟩;have:=h.2 (n+j) (by simp at hj;omega);simpa[dJ,List.getElem?_drop]using this
theorem dN.get{l:List AV}{cs:List Value}(h:dN A B w l cs){i:Nat}{x:AV}(hx:l[i]? =some x): ∃v,cs[i]? =some v∧aV A B w x v:=by
 have hlt:i<l.length:=(List.getElem?_eq_some_iff.1 hx).1;have:=h.2 i hlt;refine⟨cs[i]'(by rw[h.1];exact hlt),List.getElem?_eq_getElem _,?_⟩;simpa[dJ,hx,List.getElem?_eq_getElem (show i<cs.length by rw[h.1];exact hlt)]using this
theorem dN.get'{l:List AV}{cs:List Value}(h:dN A B w l cs){i:Nat}{v:Value}(hv:cs[i]? =some v): ∃x,l[i]? =some x∧aV A B w x v:=by
 have hlt:i<cs.length:=(List.getElem?_eq_some_iff.1 hv).1;have hlt':i<l.length:=by rw[←h.1];exact hlt
 refine⟨l[i],List.getElem?_eq_getElem _,?_⟩;have:=h.2 i hlt';simpa[dJ,hv,List.getElem?_eq_getElem hlt']using this
theorem aV.WS{l:List AV}{cs:Array Value}:aV A B w (.agg l) (.agg cs)↔dN A B w l cs.toList:=by
 constructor
 ·intro h
  cases h with
  | agg _ _ hs h=>exact⟨by simpa using hs,λj hj=>by simpa[nS,dJ]using h j hj⟩
 ·intro h
  exact .agg l cs (by simpa using h.1) λj hj=>by simpa[nS,dJ]using h.2 j hj
theorem aV.kD{l:List AV}{v:Value}(h:aV A B w (.agg l) v): ∃cs:List Value,v= .agg cs.toArray∧dN A B w l cs:=by
 cases h with
 | agg _ cs hs h=>exact⟨cs.toList,by simp,(aV.WS.1 (.agg l cs hs h))⟩
theorem aV.sj{l:List AV}{cs:List Value}(h:dN A B w l cs):aV A B w (.agg l) (.agg cs.toArray):=aV.WS.2 (by simpa using h)
theorem aV.BU{l:List AV}{v:Value}(h:aV A B w (.fG l) v): ∃cs:List Value,v= .tuple cs.toArray∧dN A B w l cs:=by
 cases h with
 | fG _ cs hs h=>exact⟨cs.toList,by simp,⟨by simpa using hs,λj hj=>by simpa[nS,dJ]using h j hj⟩⟩
theorem aV.uK{l:List AV}{cs:List Value}(h:dN A B w l cs):aV A B w (.fG l) (.tuple cs.toArray):=
 .fG l cs.toArray (by simpa using h.1) λj hj=>by simpa[nS,dJ]using h.2 j hj
theorem aV.Im{f:FuncId}{l:List AV}{v:Value}(h:aV A B w (.fn f l) v): ∃cs:List Value,v= .func (.func f) #[] cs.toArray∧dN A B w l cs:=by
 cases h with
 | fn _ _ cs hs h=>exact⟨cs.toList,by simp,⟨by simpa using hs,λj hj=>by simpa[nS,dJ]using h j hj⟩⟩
theorem aV.akI{f:FuncId}{l:List AV}{cs:List Value}(h:dN A B w l cs):aV A B w (.fn f l) (.func (.func f) #[] cs.toArray):=
 .fn f l cs.toArray (by simpa using h.1) λj hj=>by simpa[nS,dJ]using h.2 j hj
theorem aV.lV{b off:Nat}{v:Value}(h:aV A B w (.ptr b off) v): ∃β,B b=some β∧v= .pointer (some ⟨β,off,none⟩):=by
 cases h with
 | ptr _ _ β hβ=>exact⟨β,hβ,rfl⟩
theorem aV.plain{x v:Value}(h:aV A B w (.c (.v x)) v):v=x:=by
 cases h with
 | c _ _ h=>cases h;rfl
theorem aV.lit(x:Value):aV A B w (.c (.v x)) x:= .c _ _ (.v x)
theorem y8{x:AV}{v:Value}(h:aV A B w x v)(hx:(iP x).all gU=true∨ ∃l,x= .agg l):dN A B w (iP x) v.cells.toList:=by
 cases x with
 | agg l=>
   obtain⟨cs,rfl,hr⟩:=h.kD;simpa[iP,Value.cells]using hr
 | fG l=>rcases hx with hx|⟨_,hx⟩<;>simp[iP,gU]at hx
 | any=>rcases hx with hx|⟨_,hx⟩<;>simp[iP,gU]at hx
 | c i=>
   have h1:v.oneCell'=true:=by
    rcases hx with hx|⟨_,hx⟩
    ·exact h.oneCell (by simpa[iP]using hx)
    ·cases hx
   have:v.cells= #[v]:=by cases v<;>first|rfl|(simp[Value.oneCell']at h1)
   rw[this];exact .cons h .nil
 | _=>
   have h1:v.oneCell'=true:=h.oneCell rfl;have:v.cells= #[v]:=by cases v<;>first|rfl|(simp[Value.oneCell']at h1)
   rw[this];exact .cons h .nil
theorem q9{l:List AV}{cs:List Value}(h:dN A B w l cs)(hl:l.all gU=true): ∀v∈cs,v.oneCell'=true:=by
 intro v hv;obtain⟨i,hi⟩:=List.getElem?_of_mem hv;obtain⟨x,hx,hr⟩:=h.get' hi;exact hr.oneCell (List.all_eq_true.1 hl x (List.mem_of_getElem? hx))
theorem Io(v:Value):aV A B w (DY v) v:=by
 exact .lit v
theorem lW(l:List Value):dN A B w (l.map DY) l:=
 ⟨by simp,λj hj=>by
  have hj':j<l.length:=by simpa using hj
  simpa[dJ,hj']using Io l[j]⟩
theorem tQ(v:Value):aV A B w (ofValue v) v:=by
 unfold ofValue
 split
 ·rename_i cs
  have:=aV.sj (lW (A:=A) (B:=B) (w:=w) cs.toList);simpa using this
 ·exact Io v
end
theorem bG{C:Ctx}{B:dI}{S:St}{a:Act}{w:World}(H:Holds C B S a w)(x:Operand):
  aV (aU C.A0 B S.mem) B w (bQ S.tm x) (a.eval x):=by
 cases x with
 | tmp t=>
   simp only[bQ,Act.eval];by_cases ht:t<S.tm.length
   ·exact H.tm t ht
   ·simp only[dJ,List.getElem?_eq_none (Nat.le_of_not_lt ht),Option.getD_none]
    exact .any _
 | const v=>exact tQ v
 | global g=>exact .lit _
 | func f=>exact .lit _
theorem Li{C:Ctx}{B:dI}{S:St}{a:Act}{w:World}(H:Holds C B S a w)(l:List Operand):
  dN (aU C.A0 B S.mem) B w (l.map (bQ S.tm)) (l.map a.eval):=by
 induction l with
 | nil=>exact .nil
 | cons x l ih=>exact .cons (bG H x) ih
theorem Holds.put{C:Ctx}{B:dI}{S:St}{a:Act}{w:World}(H:Holds C B S a w){x:AV}{v:Value}(d:Option Tmp)
  (h:aV (aU C.A0 B S.mem) B w x v):Holds C B {S with tm:=lF S.tm d x} (a.put d v) w:=by
 cases d with
 | none=>exact{H with}
 | some d=>
   refine{defers:=H.defers,size:=?_,tm:=?_,mem:=H.mem,inj:=H.inj,kept:=H.kept,old:=H.old,fresh:=H.fresh,base:=H.base,sW:=H.sW}
   ·simpa[lF,Act.put]using H.size
   ·intro t ht
    have ht':t<S.tm.length:=by simpa[lF]using ht
    by_cases hd:d=t
    ·subst hd
     simpa[lF,Act.put,dJ,nS,ht',H.size]using h
    ·have:=H.tm t ht'
     simpa[lF,Act.put,dJ,nS,List.getElem?_set_ne hd,Array.getElem?_setIfInBounds_ne hd]using this
theorem Tw{C:Ctx}(hC:C.Ok){B:dI}{S:St}{a:Act}{w:World}(H:Holds C B S a w): ∀b,aU C.A0 B S.mem b→b<w.heap.size:=by
 intro b hb;rcases hb with hb|⟨s,e,_,h⟩
 ·exact Nat.lt_of_lt_of_le (hC.a0 b hb) H.kept.size
 ·exact(H.old s b h).2
theorem Holds.move{C:Ctx}{B:dI}{S:St}{a:Act}{w w':World}(H:Holds C B S a w)(hb:Below w.heap.size w w'):
  Holds C B S a w':=by
 have ht:Trans (aU C.A0 B S.mem) w w':= .of_below hb;refine{defers:=H.defers,size:=H.size,tm:=λt h=>(H.tm t h).trans ht (λ_ _ h=>h) (λ_ _ h=>h),mem:=?_,inj:=H.inj,kept:=H.kept.trans (Kept.of_below hb (λ_=>False)) (λ_ _ h=>h.elim),old:=?_,fresh:=H.fresh,base:=H.base,sW:=H.sW}
 ·intro s e he
  rcases H.mem s e he with⟨β,h1,h3⟩|h
  ·refine .inl ⟨β,h1,?_⟩
   rw[hb.block β (H.old s β h1).2];exact h3.trans ht (λ_ _ h=>h) (λ_ _ h=>h)
  ·exact .inr h
 ·intro s β h
  exact⟨(H.old s β h).1,Nat.lt_of_lt_of_le (H.old s β h).2 hb.size⟩
def gT(B:dI)(s β:Nat):dI:=λj=>if j=s then some β else B j
theorem bF(m:Mem)(s:Nat)(e:Option gJ)(j:Nat):(m.set s e) j=if j=s then e else m j:=by
 unfold Mem.set;by_cases h:j=s
 ·subst h;simp
 ·have:beq j s=false:=by
   cases hb:beq j s
   ·rfl
   ·exact absurd (Nat.eq_of_beq_eq_true hb) h
  simp[this,h]
theorem Holds.alloc{C:Ctx}{B:dI}{S:St}{a:Act}{w:World}(H:Holds C B S a w)(hC:C.Ok){s:Nat}(hs:B s=none)(hnx:Between C S s)
  {e:gJ} {ob:Obj} (he:fZ (aU C.A0 B S.mem) B w e (some ob)):
  Holds C (gT B s w.heap.size) {S with mem:=S.mem.set s (some e)} a (w.alloc ob):=by
 have hbel:Below w.heap.size w (w.alloc ob):=(Below.refl _ _).alloc (Nat.le_refl _) _;have ht:Trans (aU C.A0 B S.mem) w (w.alloc ob):= .of_below hbel;have hB: ∀j β,B j=some β→gT B s w.heap.size j=some β:=by
  intro j β hj;unfold gT
  split
  ·rename_i h;subst h;rw[hs]at hj;cases hj
  ·exact hj
 have hA: ∀b,b<w.heap.size→aU C.A0 (gT B s w.heap.size) (S.mem.set s (some e)) b→aU C.A0 B S.mem b:=by
  intro b hb h;rcases h with h|⟨j,e',h1,h2⟩
  ·exact .inl h
  ·rw[bF]at h1
   unfold gT at h2;by_cases hj:j=s
   ·subst hj;simp at h2;omega
   ·simp only[hj,if_false]at h1 h2;exact .inr ⟨j,e',h1,h2⟩
 have h0:C.w0.heap.size≤w.heap.size:=H.kept.size;refine{defers:=H.defers,size:=H.size,tm:=λt h=>(H.tm t h).trans ht hA hB,mem:=?_,inj:=?_,kept:=H.kept.trans (Kept.of_below hbel (λ_=>False)) (λ_ _ h=>h.elim),old:=?_,fresh:=?_,base:=?_,sW:=H.sW}
 ·intro j e' hj
  simp only[bF]at hj;by_cases hjs:j=s
  ·subst hjs
   simp only[if_true,fu]at hj;subst hj;refine .inl ⟨w.heap.size,by simp[gT],?_⟩;rw[show(w.alloc ob).heap[w.heap.size]? =some ob by show(w.heap.push _)[w.heap.size]? =_;simp];exact he.trans ht hA hB
  ·simp only[hjs,if_false]at hj
   rcases H.mem j e' hj with⟨β,h1,h3⟩|⟨h1,h2⟩
   ·refine .inl ⟨β,hB _ _ h1,?_⟩
    rw[hbel.block β (H.old j β h1).2];exact h3.trans ht hA hB
   ·exact .inr ⟨by simp[gT,hjs,h1],h2⟩
 ·intro j j' e1 e2 β m1 m2 h1 h2
  simp only[bF]at m1 m2;unfold gT at h1 h2;by_cases hj:j=s<;>by_cases hj':j'=s
  ·rw[hj,hj']
  ·simp only[hj,hj',if_true,if_false,fu]at h1 h2
   subst h1;exact absurd (H.old j' _ h2).2 (Nat.lt_irrefl _)
  ·simp only[hj,hj',if_true,if_false,fu]at h1 h2
   subst h2;exact absurd (H.old j _ h1).2 (Nat.lt_irrefl _)
  ·simp only[hj,hj',if_false]at h1 h2 m1 m2;exact H.inj j j' e1 e2 β m1 m2 h1 h2
 ·intro j β h
  unfold gT at h;by_cases hj:j=s
  ·simp only[hj,if_true,fu]at h;subst h;exact⟨.inl h0,by rw[World.size_alloc];omega⟩
  ·simp only[hj,if_false]at h;exact⟨(H.old j β h).1,Nat.lt_of_lt_of_le (H.old j β h).2 hbel.size⟩
 ·intro j hj
  have:j≠s:=by rintro rfl;exact absurd hj (Nat.not_le.2 hnx.2)
  unfold gT;simp only[this,if_false];exact H.fresh j hj
 ·intro j hj
  have:j≠s:=by rintro rfl;exact absurd hj (Nat.not_lt.2 hnx.1)
  unfold gT;simp only[this,if_false];exact H.base j hj
theorem Holds.drop{C:Ctx}{B:dI}{S:St}{a:Act}{w:World}(H:Holds C B S a w)(s:Nat):Holds C B {S with mem:=S.mem.set s none} a w:=by
 have hA: ∀b,b<w.heap.size→aU C.A0 B (S.mem.set s none) b→aU C.A0 B S.mem b:=by
  intro b _ h;rcases h with h|⟨j,e2,h1,h2⟩
  ·exact .inl h
  ·rw[bF]at h1
   by_cases hj:j=s
   ·simp[hj]at h1
   ·simp only[hj,if_false]at h1;exact .inr ⟨j,e2,h1,h2⟩
 refine{defers:=H.defers,size:=H.size,tm:=λt h=>(H.tm t h).trans (Trans.refl _ _) hA (λ_ _ h=>h),mem:=?_,inj:=?_,kept:=H.kept,old:=H.old,fresh:=H.fresh,base:=H.base,sW:=H.sW}
 rotate_left
 ·intro j j' e1 e2 β m1 m2 h1 h2
  simp only[bF]at m1 m2;by_cases hj:j=s
  ·simp[hj]at m1
  ·by_cases hj':j'=s
   ·simp[hj']at m2
   ·simp only[hj,hj',if_false]at m1 m2;exact H.inj j j' e1 e2 β m1 m2 h1 h2
 intro j e hj;simp only[bF]at hj;by_cases hjs:j=s
 ·simp[hjs]at hj
 ·simp only[hjs,if_false]at hj
  rcases H.mem j e hj with⟨β,h1,h3⟩|h
  ·exact .inl ⟨β,h1,h3.trans (Trans.refl _ _) hA (λ_ _ h=>h)⟩
  ·exact .inr h
theorem Holds.turn{C:Ctx}{B:dI}{S:St}{a:Act}{w w':World}(H:Holds C B S a w){s β:Nat}{e e':gJ}(hm:S.mem s=some e)(hβ:B s=some β)
  (hk:Kept (λb=>b=β) w w') {cs cs':Array Value} {t t':TypeId} {fz Te:Nat×Nat} (hc:w.heap[β]? =some (.cells cs t fz)) (hc':w'.heap[β]? =some (.cells cs' t' Te)) (hsz:cs'.size=cs.size)
  (he:fZ (aU C.A0 B S.mem) B w' e' w'.heap[β]?):Holds C B {S with mem:=S.mem.set s (some e')} a w':=by
 have hown:aU C.A0 B S.mem β:= .inr ⟨s,e,hm,hβ⟩;have hlt:β<w.heap.size:=lt_of_heap hc;have ht:Trans (aU C.A0 B S.mem) w w':=by
  refine⟨hk.size,λb hb hn=>hk.block b hb (by rintro rfl;exact hn hown),λb _ D t2 fz2 hD=> ?_⟩;by_cases hbb:b=β
  ·subst hbb
   rw[hc]at hD;simp only[fu,Obj.cells.injEq]at hD;obtain⟨rfl,rfl,rfl⟩:=hD;exact⟨cs',t',Te,hc',hsz⟩
  ·exact⟨D,t2,fz2,by rw[hk.block b (lt_of_heap hD) hbb];exact hD,rfl⟩
 have hA: ∀b,b<w.heap.size→aU C.A0 B (S.mem.set s (some e')) b→aU C.A0 B S.mem b:=by
  intro b _ h;rcases h with h|⟨j,e2,h1,h2⟩
  ·exact .inl h
  ·rw[bF]at h1
   by_cases hj:j=s
   ·subst hj;exact .inr ⟨j,e,hm,h2⟩
   ·simp only[hj,if_false]at h1;exact .inr ⟨j,e2,h1,h2⟩
 have hA': ∀b,b<w'.heap.size→aU C.A0 B (S.mem.set s (some e')) b→aU C.A0 B S.mem b:=by
  intro b _ h;rcases h with h|⟨j,e2,h1,h2⟩
  ·exact .inl h
  ·rw[bF]at h1
   by_cases hj:j=s
   ·subst hj;exact .inr ⟨j,e,hm,h2⟩
   ·simp only[hj,if_false]at h1;exact .inr ⟨j,e2,h1,h2⟩
 refine{defers:=H.defers,size:=H.size,tm:=λt h=>(H.tm t h).trans ht hA (λ_ _ h=>h),mem:=?_,inj:=?_,kept:=?_,old:=λj γ h=>⟨(H.old j γ h).1,Nat.lt_of_lt_of_le (H.old j γ h).2 hk.size⟩,fresh:=H.fresh,base:=H.base,sW:=H.sW}
 ·intro j e2 hj
  simp only[bF]at hj;by_cases hjs:j=s
  ·subst hjs
   simp only[if_true,fu]at hj;subst hj;exact .inl ⟨β,hβ,he.trans (Trans.refl _ _) hA' (λ_ _ h=>h)⟩
  ·simp only[hjs,if_false]at hj
   rcases H.mem j e2 hj with⟨γ,h1,h3⟩|h
   ·refine .inl ⟨γ,h1,?_⟩
    rw[hk.block γ (H.old j γ h1).2 (by rintro rfl;exact hjs (H.inj j s _ _ γ hj hm h1 hβ))];exact h3.trans ht hA (λ_ _ h=>h)
   ·exact .inr h
 ·have live: ∀j e2,(S.mem.set s (some e')) j=some e2→ ∃e3,S.mem j=some e3:=by
   intro j e2 hj;rw[bF]at hj;by_cases hjs:j=s
   ·subst hjs;exact⟨e,hm⟩
   ·simp only[hjs,if_false]at hj;exact⟨e2,hj⟩
  intro j j' e1 e2 γ m1 m2 h1 h2;obtain⟨e3,m1⟩:=live j e1 m1;obtain⟨e4,m2⟩:=live j' e2 m2;exact H.inj j j' e3 e4 γ m1 m2 h1 h2
 ·refine H.kept.trans hk λi hi hib=> ?_
  subst hib;rcases(H.old s i hβ).1 with h|h
  ·exact absurd hi (Nat.not_lt.2 h)
  ·exact h
theorem PX(w:World)(β:Nat)(cs:Array Value){cur:Array Value}{t:TypeId}{fz:Nat×Nat}(hc:w.heap[β]? =some (.cells cur t fz))(hsz:cs.size=cur.size):Kept (λb=>b=β) w (w.setRow β cs):=
 ⟨rfl,rfl,rfl,by simp,λk _ hk=>setRow_other w β k cs hk,λk D t' Te hD=>by
  by_cases hk:k=β
  ·subst hk
   rw[hc]at hD;simp only[fu,Obj.cells.injEq]at hD;obtain⟨rfl,rfl,rfl⟩:=hD;exact⟨cs,t,fz,setRow_heap w k cur cs t fz hc,hsz⟩
  ·exact⟨D,t',Te,by rw[setRow_other w β k cs hk];exact hD,rfl⟩⟩
theorem Holds.setRow{C:Ctx}{B:dI}{S:St}{a:Act}{w:World}(H:Holds C B S a w){s β:Nat}{e e':gJ}(hm:S.mem s=some e)(hβ:B s=some β)
  {cs cs':Array Value} {t:TypeId} (hc:w.heap[β]? =some (.cells cs t (0,0))) (hsz:cs'.size=cs.size)
  (he:fZ (aU C.A0 B S.mem) B w e' (some (.cells cs' t (0,0)))):Holds C B {S with mem:=S.mem.set s (some e')} a (w.setRow β cs'):=by
 have hown:aU C.A0 B S.mem β:= .inr ⟨s,e,hm,hβ⟩;have hc':=setRow_heap w β cs cs' t (0,0) hc;have ht:Trans (aU C.A0 B S.mem) w (w.setRow β cs'):=by
  refine⟨by simp,λb hb hn=>setRow_other w β b cs' (by rintro rfl;exact hn hown),λb _ D t' fz hD=> ?_⟩;by_cases hbb:b=β
  ·subst hbb
   rw[hc]at hD;simp only[fu,Obj.cells.injEq]at hD;obtain⟨rfl,rfl,rfl⟩:=hD;exact⟨cs',t,(0,0),hc',hsz⟩
  ·exact⟨D,t',fz,by rw[setRow_other w β b cs' hbb];exact hD,rfl⟩
 refine H.turn hm hβ (PX w β cs' hc hsz) hc hc' hsz ?_;rw[hc'];exact he.trans ht (λ_ _ h=>h) (λ_ _ h=>h)
end Go.bA
namespace Go.bA
open Go.RowKit
variable{P:Program}{A:Nat→Prop}{B:dI}{w:World}
theorem fC{t n:Nat}(h:iZ P t=some n):(sizeOf t).run P w= .ok n w:=by
 unfold iZ at h;cases hi:P.info? t with
 | none=>simp[hi]at h
 | some i=>simp only[hi,Option.map_some,fu]at h;simp[sizeOf,typeInfo,hi,h]
theorem vk{t:Nat}{z:Value}(h:o7 P t=some z):(zeroValue t).run P w= .ok z w:=by
 unfold o7 at h;cases hi:P.info? t with
 | none=>simp[hi]at h
 | some i=>simp only[hi,Option.bind_some]at h;simp[zeroValue,typeInfo,hi,h]
theorem wD{t:Nat}{d:TypeDesc}(h:P.underlying t=some d):(isAgg t).run P w= .ok (AX P t) w:=by
 unfold isAgg AX;rw[Sem.run_bind,run_underlying h];simp only[h,Result.andThen_ok];cases d<;>rfl
theorem xX{t:Nat}{l:List AV}{off:Nat}{x:AV}(h:jS P t l off=some x): ∃d,P.underlying t=some d∧
  ((AX P t=true∧ ∃n,iZ P t=some n∧off+n≤l.length∧x= .agg ((l.drop off).take n))∨(AX P t=false∧l[off]? =some x)):=by
 have row: ∀{n:Option Nat},afz n l off=some x→ ∃m,n=some m∧off+m≤l.length∧x= .agg ((l.drop off).take m):=by
  intro n hn;unfold afz at hn;cases n with
  | none=>simp at hn
  | some n=>
    simp only[]at hn;cases hb:Nat.ble (off+n) l.length with
    | false=>simp[hb]at hn
    | true=>
      simp only[hb,cond_true,fu]at hn;exact⟨n,rfl,by simpa using hb,hn.symm⟩
 unfold jS at h;unfold AX;cases hu:P.underlying t with
 | none=>simp[hu]at h
 | some d=>
   refine⟨d,rfl,?_⟩;rw[hu]at h;cases d<;>first
    | exact .inl ⟨rfl,row h⟩
    | exact .inr ⟨rfl,h⟩
theorem vv{t:Nat}{l:List AV}{cs:List Value}(hr:dN A B w l cs){off:Nat}{x:AV}(h:jS P t l off=some x):
  ∃v,(part t cs.toArray off).run P w= .ok v w∧aV A B w x v:=by
 obtain⟨d,hu,h⟩:=xX h;unfold part;rw[Sem.run_bind,wD hu,Result.andThen_ok];rcases h with⟨hag,n,hs,hle,rfl⟩|⟨hag,hx⟩
 ·refine⟨.agg ((cs.drop off).take n).toArray,?_,aV.sj ((hr.drop off).take n)⟩
  simp only[hag,if_true,Sem.run_bind,fC hs,Result.andThen_ok,Sem.run_pure]
  congr 2
  apply Array.ext'
  simp[List.extract_eq_take_drop,List.take_drop]
 ·obtain⟨v,hv,hrel⟩:=hr.get hx
  refine⟨v,?_,hrel⟩;simp[hag,hv]
theorem toList_data(s:ByteArray):s.toList=s.data.toList:=ByteArray.toList_eq s
theorem Fy(b:Bool)(l:List Bool):cu (b::l)=(b&&cu l):=by cases l<;>simp[cu]
theorem xY{d:Nat}{l m:List AV}{cs ds:List Value}(hl:dN A B w l cs)(hm:dN A B w m ds)
  (ih: ∀t x y b vx vy,Tp P d t x y=some b→aV A B w x vx→aV A B w y vy→ ∀d',d≤d'→(Op.equalIn d' t vx vy).run P w= .ok b w) {d':Nat} (hd:d≤d'):
  ∀(fs:List Field) (bs:List Bool),(fs.mapM λf:Field=>bif f.name== "_" then none else
   match jS P f.type l f.offset,jS P f.type m f.offset with
   | some a,some b=>Tp P d f.type a b
   | _,_=>none)=some bs→(Op.eqFields d' cs.toArray ds.toArray fs).run P w= .ok (cu bs) w
 | [],bs,h=>by simp at h;subst h;simp[Op.eqFields,cu]
 | f::fs,bs,h=>by
   simp only[List.mapM_cons,Option.bind_eq_bind,Option.pure_def]at h;cases hn:f.name== "_" with
   | true=>simp[hn]at h
   | false=>
     have hne:f.name≠ "_" :=by simpa using hn
     simp only[hn,cond_false]at h;cases ha:jS P f.type l f.offset with
     | none=>simp[ha]at h
     | some a=>
       cases hb:jS P f.type m f.offset with
       | none=>simp[ha,hb]at h
       | some b=>
         simp only[ha,hb]at h;cases he:Tp P d f.type a b with
         | none=>simp[he]at h
         | some r=>
           simp only[he,Option.bind_some]at h;cases hrest:(fs.mapM λf:Field=>bif f.name== "_" then none else
            match jS P f.type l f.offset,jS P f.type m f.offset with
            | some a,some b=>Tp P d f.type a b
            | _,_=>none)with
           | none=>rw[hrest]at h;simp at h
           | some rs=>
             rw[hrest]at h;simp only[Option.bind_some,fu]at h;subst h;obtain⟨va,hva,hra⟩:=vv hl ha;obtain⟨vb,hvb,hrb⟩:=vv hm hb;have h1:=ih f.type a b r va vb he hra hrb d' hd;have h2:=xY hl hm ih hd fs rs hrest;simp only[Op.eqFields,hne,ne_eq,not_false_eq_true,if_true,Sem.run_bind,hva,hvb,h1,Result.andThen_ok,Sem.run_ite,Fy];cases r<;>simp[h2]
theorem Ai{d:Nat}{e sz:Nat}{l m:List AV}{cs ds:List Value}(hl:dN A B w l cs)(hm:dN A B w m ds)
  (ih: ∀t x y b vx vy,Tp P d t x y=some b→aV A B w x vx→aV A B w y vy→ ∀d',d≤d'→(Op.equalIn d' t vx vy).run P w= .ok b w) {d':Nat} (hd:d≤d'):
  ∀(is:List Nat) (bs:List Bool),(is.mapM λi=>
    match jS P e l (i*sz),jS P e m (i*sz)with
    | some a,some b=>Tp P d e a b
    | _,_=>none)=some bs→
   (forIn (m:=Sem) is ((none,()):Option Bool×Unit) λi r=>do
    let x←part e cs.toArray (i*sz)
    let y←part e ds.toArray (i*sz)
    let b←Op.equalIn d' e x y
    if(!b)=true then pure (ForInStep.done (some false,()))else pure (ForInStep.yield (none,()))).run P w= .ok (if cu bs=true then(none,())else(some false,())) w
 | [],bs,h=>by simp at h;subst h;simp[cu]
 | i::is,bs,h=>by
   simp only[List.mapM_cons,Option.bind_eq_bind,Option.pure_def]at h;cases ha:jS P e l (i*sz)with
   | none=>simp[ha]at h
   | some a=>
     cases hb:jS P e m (i*sz)with
     | none=>simp[ha,hb]at h
     | some b=>
       simp only[ha,hb]at h;cases he:Tp P d e a b with
       | none=>simp[he]at h
       | some r=>
         simp only[he,Option.bind_some]at h;cases hrest:(is.mapM λi=>
          match jS P e l (i*sz),jS P e m (i*sz)with
          | some a,some b=>Tp P d e a b
          | _,_=>none)with
         | none=>rw[hrest]at h;simp at h
         | some rs=>
           rw[hrest]at h;simp only[Option.bind_some,fu]at h;subst h;obtain⟨va,hva,hra⟩:=vv hl ha;obtain⟨vb,hvb,hrb⟩:=vv hm hb;have h1:=ih e a b r va vb he hra hrb d' hd;have h2:=Ai hl hm ih hd is rs hrest;simp only[List.forIn_cons,Sem.run_bind,hva,hvb,h1,Result.andThen_ok,Sem.run_ite,Fy];cases r with
           | true=>
             simp only[Bool.not_true,Bool.false_eq_true,if_false,Sem.run_pure,Result.andThen_ok,Bool.true_and];exact h2
           | false=>simp
theorem Lj: ∀(d t:Nat) (x y:AV) (b:Bool) (vx vy:Value),Tp P d t x y=some b→aV A B w x vx→aV A B w y vy→ ∀d',d≤d'→
  (Op.equalIn d' t vx vy).run P w= .ok b w
 | 0,_,_,_,_,_,_,h,_,_,_,_=>by simp[Tp]at h
 | d+1,t,x,y,b,vx,vy,h,hx,hy,d',hd=>by
   obtain⟨e,rfl⟩: ∃e,d'=e+1:=⟨d'-1,by omega⟩
   have hd':d≤e:=by omega
   have ih:=λt x y b vx vy=>Lj d t x y b vx vy
   unfold Tp at h
   split at h
   ·rename_i a b' hu
    obtain rfl:=hx.plain;obtain rfl:=hy.plain;simp only[fu]at h;subst h;exact run_equalIn_bool' w e t a b' hu
   ·rename_i k0 k a k' b' hu
    obtain rfl:=hx.plain;obtain rfl:=hy.plain
    split at h
    ·rename_i hk
     subst hk;simp only[fu]at h;subst h;exact run_equalIn_int w e t k k0 a b' hu
    ·cases h
   ·rename_i a b' hu
    obtain rfl:=hx.plain;obtain rfl:=hy.plain;simp only[fu]at h;subst h;rw[run_equalIn_string w e t a b' hu,toList_data,toList_data]
   ·rename_i fs l m hu
    cases hst:P.stoodInHeld t with
    | true=>simp[hst]at h
    | false=>
      simp only[hst,cond_false,Option.map_eq_some_iff]at h;obtain⟨bs,h,rfl⟩:=h;obtain⟨cs,rfl,hl⟩:=hx.kD;obtain⟨ds,rfl,hm⟩:=hy.kD;have hf:P.fieldsOf t=fs:=by simp[Program.fieldsOf,hu]
      rw[run_equalIn_agg w e t cs.toArray ds.toArray (by rw[hf];exact hu) hst,hf];exact xY hl hm ih hd' fs.toList bs h
   ·rename_i n el l m hu
    cases hs:iZ P el with
    | none=>simp[hs]at h
    | some sz=>
      simp only[hs,Option.map_eq_some_iff]at h;obtain⟨bs,h,rfl⟩:=h;obtain⟨cs,rfl,hl⟩:=hx.kD;obtain⟨ds,rfl,hm⟩:=hy.kD;have:=Ai (e:=el) (sz:=sz) hl hm ih hd' (List.range n) bs h;simp only[Op.equalIn,Sem.run_bind,run_underlying hu,Result.andThen_ok,fC hs];rw[Std.Legacy.Range.forIn_eq_forIn_range'];simp only[Std.Legacy.Range.size,List.range_eq_range']at this⊢;simp only[Nat.sub_zero,Nat.add_sub_cancel,Nat.div_one];rw[this,Result.andThen_ok];cases cu bs<;>simp
   ·cases h
end Go.bA
namespace Go.bA
open Go.RowKit
variable{P:Program}{A:Nat→Prop}{B:dI}{w:World}
theorem fT(op:BinOp)(t:TypeId)(x y:Operand)(a b:Value)(h1:a≠ .nilIface)(h2: ∀c,a≠ .agg c):
  (eqGuard op t x y a b).run P w= .ok () w:=by
 unfold eqGuard;cases a<;>first
  | exact absurd rfl h1
  | exact absurd rfl (h2 _)
  | (cases op<;>rfl)
theorem Nc{op:BinOp}{k:IntKind}{a b:Int}{r:Eff}(h:Tk op k a b=some r)(hc: ∀p∈r.conds,p)(t:TypeId)(hns:op≠ .shl)(hnr:op≠ .shr):
  r.upd=[]∧ ∃v,(binOp op t (.int k a) (.int k b)).run P w= .ok v w∧aV A B w r.val v:=by
 cases op<;>simp only[Tk,fu]at h<;>(try cases h)<;>refine⟨rfl,_,?_,aV.lit _⟩<;>
  simp only[binOp,ne_eq,not_true_eq_false,if_false,Op.intArith,Op.intCmp,Op.intBits,Op.intDiv,Sem.run_pure]<;>first
   | rfl
   | (have:=dec (hc (decide (b≠0)) (by simp));simp[this])
theorem BX{op:BinOp}{k k':IntKind}{a b:Int}{r:Eff}(h:Tm op k a b=some r)(hc: ∀p∈r.conds,p)(t:TypeId):
  r.upd=[]∧ ∃v,(binOp op t (.int k a) (.int k' b)).run P w= .ok v w∧aV A B w r.val v:=by
 cases op<;>simp only[Tm,fu]at h<;>(try cases h)<;>refine⟨rfl,_,?_,aV.lit _⟩<;>
  (have:=dec (hc (decide (¬b<0)) (by simp));simp[binOp,Op.shift,this])
theorem Nf{op:BinOp}{a b:ByteArray}{r:Eff}(h:Tn op a b=some r)(hc: ∀p∈r.conds,p)(t:TypeId):
  r.upd=[]∧ ∃v,(binOp op t (.string a) (.string b)).run P w= .ok v w∧aV A B w r.val v:=by
 cases op<;>simp only[Tn,fu]at h<;>(try cases h)<;>refine⟨rfl,_,?_,aV.lit _⟩<;>first
  | (simp[binOp,Op.stringOp,toList_data];done)
  | (have:=dec (hc (decide (a.size+b.size≤9223372036854775807)) (by simp))
     simp only[binOp,Op.stringOp];rw[if_neg]
     ·rfl
     ·simp only[IntKind.max,IntKind.bits,IntKind.signed];simp;omega)
theorem PY{op:BinOp}{t:TypeId}{l m:List AV}{r:Eff}(h:aaH P op t l m=some r){vx vy:Value}(hx:aV A B w (.agg l) vx)(hy:aV A B w (.agg m) vy)(xo yo:Operand):
  r.upd=[]∧ ∃v,(do eqGuard op t xo yo vx vy;binOp op t vx vy:Sem Value).run P w= .ok v w∧aV A B w r.val v:=by
 unfold aaH at h;cases hg:P.eqGuardType P.depth t with
 | true=>simp[hg]at h
 | false=>
   simp only[hg,cond_false]at h;obtain⟨cs,rfl,hl⟩:=hx.kD;obtain⟨ds,rfl,hm⟩:=hy.kD;cases he:Tp P 8 t (.agg l) (.agg m)with
   | none=>simp[he]at h
   | some b=>
     have hq:=Lj 8 t _ _ b _ _ he hx hy 10000 (by omega);cases op<;>simp only[he]at h<;>(try cases h)<;>refine⟨rfl,_,?_,aV.lit _⟩<;>
      simp only[Sem.run_bind,run_eqGuard_agg w _ t xo yo _ _ hg,Result.andThen_ok,run_eql_struct,run_neq_struct,hq]
theorem xD(w:World)(d:Nat)(t e:TypeId)(x:Option Addr)(hu:P.underlying t=some (.pointer e)):(Op.equalIn (d+1) t (.pointer x) (.pointer none)).run P w= .ok (x.isNone) w:=by
 cases x<;>simp[Op.equalIn,Sem.run_bind,run_underlying hu]
theorem ru{op:BinOp}{t:TypeId}{x:Option Addr}{r:Eff}(h:DZ P op t x.isNone=some r)(xo yo:Operand):
  r.upd=[]∧ ∃v,(do eqGuard op t xo yo (.pointer x) (.pointer none);binOp op t (.pointer x) (.pointer none):Sem Value).run P w= .ok v w∧aV A B w r.val v:=by
 rw[Sem.run_bind,fT op t xo yo _ _ (by simp) (by simp),Result.andThen_ok];unfold DZ at h
 split at h
 ·rename_i e hu
  cases h;exact⟨rfl,_,by simp[binOp,Op.equal,Op.maxDepth,xD w 9999 t e x hu],aV.lit _⟩
 ·rename_i e hu
  cases h;exact⟨rfl,_,by simp[binOp,Op.equal,Op.maxDepth,xD w 9999 t e x hu],aV.lit _⟩
 ·cases h
theorem og(w:World)(d:Nat)(t e:TypeId)(x:Addr)(n c:Nat)(hu:P.underlying t=some (.slice e)):(Op.equalIn (d+1) t (.slice (some x) n c) (.slice none 0 0)).run P w= .ok false w:=by
 simp[Op.equalIn,Sem.run_bind,run_underlying hu]
theorem PZ{op:BinOp}{t:TypeId}{n sz:Nat}{el:Nat→List IV}{r:Eff}(h:aaI P op t n=some r)(hc: ∀p∈r.conds,p){v:Value}(hx:aV A B w (.c (.sl n sz el)) v)(xo yo:Operand):
  r.upd=[]∧ ∃u,(do eqGuard op t xo yo v (.slice none 0 0);binOp op t v (.slice none 0 0):Sem Value).run P w= .ok u w∧aV A B w r.val u:=by
 have key:n≠0→ ∃x c,v= .slice (some x) n c:=by
  intro hn;cases hx with
  | c _ _ hi=>
    cases hi with
    | nil=>exact absurd rfl hn
    | zero=>exact absurd rfl hn
    | sl _ _ _ b off cap _ _ _ _ _ _=>exact⟨_,_,rfl⟩
 unfold aaI at h
 split at h
 ·rename_i e hu
  cases h;obtain⟨x,c,rfl⟩:=key (dec (hc (decide (n≠0)) (by simp)));rw[Sem.run_bind,fT _ t xo yo _ _ (by simp) (by simp),Result.andThen_ok];exact⟨rfl,_,by simp[binOp,Op.equal,Op.maxDepth,og w 9999 t e x n c hu],aV.lit _⟩
 ·rename_i e hu
  cases h;obtain⟨x,c,rfl⟩:=key (dec (hc (decide (n≠0)) (by simp)));rw[Sem.run_bind,fT _ t xo yo _ _ (by simp) (by simp),Result.andThen_ok];exact⟨rfl,_,by simp[binOp,Op.equal,Op.maxDepth,og w 9999 t e x n c hu],aV.lit _⟩
 ·cases h
theorem Ef(w:World)(d:Nat)(t e:TypeId)(hu:P.underlying t=some (.slice e)):(Op.equalIn (d+1) t (.slice none 0 0) (.slice none 0 0)).run P w= .ok true w:=by
 simp[Op.equalIn,Sem.run_bind,run_underlying hu]
theorem Fz{op:BinOp}{t:TypeId}{same:Bool}{r:Eff}(h:WM P op t same=some r){x:Option Addr}{n c:Nat}(he: ∀e,P.underlying t=some (.slice e)→(Op.equalIn 10000 t (.slice x n c) (.slice none 0 0)).run P w= .ok same w)(xo yo:Operand):
  r.upd=[]∧ ∃u,(do eqGuard op t xo yo (.slice x n c) (.slice none 0 0);binOp op t (.slice x n c) (.slice none 0 0):Sem Value).run P w= .ok u w∧aV A B w r.val u:=by
 unfold WM at h
 split at h
 ·rename_i e hu
  cases h;rw[Sem.run_bind,fT _ t xo yo _ _ (by simp) (by simp),Result.andThen_ok];exact⟨rfl,_,by simp[binOp,Op.equal,Op.maxDepth,he e hu],aV.lit _⟩
 ·rename_i e hu
  cases h;rw[Sem.run_bind,fT _ t xo yo _ _ (by simp) (by simp),Result.andThen_ok];exact⟨rfl,_,by simp[binOp,Op.equal,Op.maxDepth,he e hu],aV.lit _⟩
 ·cases h
theorem Tx{op:BinOp}{t:TypeId}{x y:AV}{r:Eff}(h:ali P op t x y=some r)(hc: ∀p∈r.conds,p){vx vy:Value}(hx:aV A B w x vx)(hy:aV A B w y vy)(xo yo:Operand):
  r.upd=[]∧ ∃v,(do eqGuard op t xo yo vx vy;binOp op t vx vy:Sem Value).run P w= .ok v w∧aV A B w r.val v:=by
 unfold ali at h
 split at h
 ·rename_i k a k' b
  obtain rfl:=hx.plain;obtain rfl:=hy.plain;rw[Sem.run_bind,fT op t xo yo _ _ (by simp) (by simp),Result.andThen_ok]
  split at h
  ·exact BX h hc t
  ·exact BX h hc t
  ·rename_i h1 h2
   split at h
   ·rename_i hk;subst hk
    exact Nc h hc t h1 h2
   ·cases h
 ·rename_i a b
  obtain rfl:=hx.plain;obtain rfl:=hy.plain;rw[Sem.run_bind,fT op t xo yo _ _ (by simp) (by simp),Result.andThen_ok];exact Nf h hc t
 ·rename_i a b
  obtain rfl:=hx.plain;obtain rfl:=hy.plain;rw[Sem.run_bind,fT op t xo yo _ _ (by simp) (by simp),Result.andThen_ok]
  split at h
  ·rename_i hu
   cases h;exact⟨rfl,_,by simp[binOp,Op.equal,Op.maxDepth,run_equalIn_bool' w 9999 t a b hu],aV.lit _⟩
  ·rename_i hu
   cases h;exact⟨rfl,_,by simp[binOp,Op.equal,Op.maxDepth,run_equalIn_bool' w 9999 t a b hu],aV.lit _⟩
  ·cases h
 ·exact PY h hx hy xo yo
 ·obtain rfl:=hx.plain
  obtain rfl:=hy.plain;exact ru (x:=none) h xo yo
 ·obtain rfl:=hy.plain
  cases hx with
  | ptr _ _ β _=>exact ru (x:=some _) h xo yo
 ·obtain rfl:=hy.plain
  cases hx with
  | jr _ _ _ _ β _=>exact ru (x:=some _) h xo yo
 ·obtain rfl:=hy.plain
  cases hx with
  | fB _ b off _ _ _=>exact ru (x:=some _) h xo yo
 ·obtain rfl:=hy.plain
  exact PZ h hc hx xo yo
 ·obtain rfl:=hx.plain
  obtain rfl:=hy.plain;exact Fz h (x:=none) (n:=0) (c:=0) (λe=>Ef w 9999 t e) xo yo
 ·rename_i x n c
  obtain rfl:=hx.plain;obtain rfl:=hy.plain;exact Fz h (x:=some x) (n:=n) (c:=c) (λe hu=>og w 9999 t e x n c hu) xo yo
 ·cases h
theorem YW{op:UnOp}{x:AV}{r:Eff}(h:unA op x=some r){vx:Value}(hx:aV A B w x vx):
  r.upd=[]∧ ∃v,(Op.unary op vx).run P w= .ok v w∧aV A B w r.val v:=by
 unfold unA at h
 split at h
 ·obtain rfl:=hx.plain;cases h;exact⟨rfl,_,rfl,aV.lit _⟩
 ·obtain rfl:=hx.plain;cases h;exact⟨rfl,_,rfl,aV.lit _⟩
 ·obtain rfl:=hx.plain;cases h;exact⟨rfl,_,rfl,aV.lit _⟩
 ·cases h
theorem P5{s d:TypeId}{x:AV}{r:Eff}(h:aaJ P s d x=some r){vx:Value}(hx:aV A B w x vx):
  r.upd=[]∧ ∃v,(convert s d vx).run P w= .ok v w∧aV A B w r.val v:=by
 unfold aaJ at h
 split at h
 ·rename_i ds k k' n hs hd
  obtain rfl:=hx.plain;cases h;refine⟨rfl,_,?_,aV.lit _⟩;unfold convert;simp only[Sem.run_bind,run_underlying hs,run_underlying hd,Result.andThen_ok];simp[Conv.intToInt]
 ·rename_i ds s' hs hd
  obtain rfl:=hx.plain;cases h;refine⟨rfl,_,?_,aV.lit _⟩;unfold convert;simp only[Sem.run_bind,run_underlying hs,run_underlying hd,Result.andThen_ok];rfl
 ·cases h
end Go.bA
namespace Go.bA
open Go.RowKit
variable{P:Program}{A:Nat→Prop}{B:dI}{w:World}
theorem P6: ∀(vs:List Value) (k off:Nat) (cs:Array Value),off+k+vs.length≤cs.size→
  (vs.zipIdx k).foldl (λ(cs:Array Value) (p:Value×Nat)=>cs.setIfInBounds (off+p.2) p.1) cs=(cs.toList.take (off+k)++vs++cs.toList.drop (off+k+vs.length)).toArray
 | [],k,off,cs,h=>by simp
 | v::vs,k,off,cs,h=>by
   simp only[List.zipIdx_cons,List.foldl_cons];rw[P6 vs (k+1) off (cs.setIfInBounds (off+k) v) (by simp at h⊢;omega)]
   congr 1
   have e:=list_seg_step cs.toList (off+k) v vs (by simp at h⊢;omega);simpa[Array.toList_setIfInBounds,Nat.add_assoc]using e
theorem wE{places:List (Nat×Nat)}{place:Nat→Option (Nat×Nat)}(hp: ∀i p,places[i]? =some p→place i=some p): ∀(parts:List (Nat×AV)) (jT:List (Nat×Value)) (l l':List AV) (cs:List Value),
  xC places l parts=some l'→dN A B w l cs→jT.length=parts.length→
  (∀j,j<parts.length→(jT.getD j (0,undef)).1=(parts.getD j (0,.any)).1∧aV A B w (parts.getD j (0,.any)).2 (jT.getD j (0,undef)).2)→
  ∃cs',Instr.fill place cs.toArray jT=some cs'.toArray∧dN A B w l' cs'
 | [],jT,l,l',cs,h,hr,hl,_=>by
   simp only[xC,fu]at h;subst h;obtain rfl:jT=[]:=List.eq_nil_of_length_eq_zero (by simpa using hl);exact⟨cs,rfl,hr⟩
 | (i,x)::parts,jT,l,l',cs,h,hr,hl,hv=>by
   cases jT with
   | nil=>simp at hl
   | cons p jT=>
     obtain⟨i',v⟩:=p;have h0:=hv 0 (by simp);simp only[List.getD_cons_zero]at h0;obtain⟨rfl,hx⟩:=h0;simp only[xC]at h;cases hpl:places[i']? with
     | none=>simp[hpl]at h
     | some q=>
       obtain⟨off,n⟩:=q;simp only[hpl]at h;cases hb:(beq (iP x).length n&&Nat.ble (off+n) l.length&&(iP x).all gU)with
       | false=>simp[hb]at h
       | true=>
         simp only[hb,cond_true]at h;simp only[bI,Nat.beq_eq,Nat.ble_eq]at hb;obtain⟨⟨hn,hle⟩,hok⟩:=hb;have hc:=y8 hx (.inl hok);have hlen:v.cells.size=n:=by have:=hc.1;simpa[hn]using this
         have hcl:off+n≤cs.length:=by rw[hr.1];exact hle
         have hr2:dN A B w (l.take off++iP x++l.drop (off+n)) (cs.take off++v.cells.toList++cs.drop (off+n)):=((hr.take off).append hc).append (hr.drop (off+n));obtain⟨cs',hf,hr'⟩:=wE hp parts jT _ l' _ h hr2 (by simpa using hl) (λj hj=>by simpa using hv (j+1) (by simpa using hj));refine⟨cs',?_,hr'⟩;simp only[Instr.fill,hp i' _ hpl];rw[if_neg (by simp;omega)];have e:=P6 v.cells.toList 0 off cs.toArray (by simp;omega);have e2:v.cells.zipIdx.foldl (λ(cs:Array Value) (p:Value×Nat)=>cs.setIfInBounds (off+p.2) p.1) cs.toArray=(cs.take off++v.cells.toList++cs.drop (off+n)).toArray:=by
          rw[←Array.foldl_toList,Array.toList_zipIdx,e];simp[hlen]
         rw[e2];exact hf
theorem Ng{t:TypeId}{parts:List (Nat×AV)}{r:Eff}(h:Tq P t parts=some r){jT:Array (Nat×Value)}(hl:jT.size=parts.length)
  (hv: ∀j,j<parts.length→(jT.toList.getD j (0,undef)).1=(parts.getD j (0,.any)).1∧aV A B w (parts.getD j (0,.any)).2 (jT.toList.getD j (0,undef)).2):
  r.upd=[]∧ ∃v,(Instr.build t jT).run P w= .ok v w∧aV A B w r.val v:=by
 unfold Tq at h
 split at h
 ·rename_i fs z hu hz
  cases hp:M8 P fs with
  | none=>simp[hp]at h
  | some places=>
    simp only[hp]at h;cases hf:xC places (cellsOf z) parts with
    | none=>simp[hf]at h
    | some l=>
      simp only[hf,fu]at h;subst h;have hz':dN A B w (cellsOf z) z.cells.toList:=lW _;obtain⟨cs',P7,hr'⟩:=wE (place:=(places.toArray[·]?)) (λi p hi=>by simpa using hi) parts jT.toList _ l _ hf hz' (by simpa using hl) hv;refine⟨rfl,.agg cs'.toArray,run_build w t jT cs'.toArray ?_,aV.sj hr'⟩;unfold o7 at hz;cases hi:P.info? t with
      | none=>simp[hi]at hz
      | some it=>
        simp only[hi,Option.bind_some]at hz;simp only[Program.built,hi,hu,hz];unfold M8 at hp;simp only[hp];simpa using P7
 ·rename_i n e z hu hz
  cases hs:iZ P e with
  | none=>simp[hs]at h
  | some sz=>
    simp only[hs]at h;cases hf:xC ((List.range n).map λi=>(i*sz,sz)) (cellsOf z) parts with
    | none=>simp[hf]at h
    | some l=>
      simp only[hf,fu]at h;subst h;have hz':dN A B w (cellsOf z) z.cells.toList:=lW _;obtain⟨cs',P7,hr'⟩:=wE (place:=λi=>some (i*sz,sz)) (λi p hi=>by
       simp only[List.getElem?_map,Option.map_eq_some_iff]at hi;obtain⟨j,hj,rfl⟩:=hi;rw[List.getElem?_eq_some_iff]at hj;obtain⟨_,rfl⟩:=hj;simp) parts jT.toList _ l _ hf hz' (by simpa using hl) hv
      refine⟨rfl,.agg cs'.toArray,run_build w t jT cs'.toArray ?_,aV.sj hr'⟩;unfold o7 at hz;unfold iZ at hs;cases hi:P.info? t with
      | none=>simp[hi]at hz
      | some it=>
        cases hie:P.info? e with
        | none=>simp[hie]at hs
        | some ie=>
          simp only[hie,Option.map_some,fu]at hs;simp only[hi,Option.bind_some]at hz;simp only[Program.built,hi,hu,hz,hie,hs];simpa using P7
 ·cases h
theorem Eh{t:Nat}{l:List AV}{cs:Array Value}{β off:Nat}{ty:TypeId}{fz:Nat×Nat}(hc:w.heap[β]? =some (.cells cs ty fz))
  (hr:dN A B w l cs.toList) {x:AV} (h:jS P t l off=some x): ∃v,(loadVar t ⟨β,off,none⟩).run P w= .ok v w∧aV A B w x v:=by
 obtain⟨d,hu,h⟩:=xX h;unfold loadVar;rw[Sem.run_bind,wD hu,Result.andThen_ok];rcases h with⟨hag,n,hs,hle,rfl⟩|⟨hag,hx⟩
 ·refine⟨.agg ((cs.toList.drop off).take n).toArray,?_,aV.sj ((hr.drop off).take n)⟩
  have hlen:((cs.toList.drop off).take n).length=n:=by have:=hr.1;simp at this⊢;omega
  have hload:=run_loadCells_list (P:=P) w ⟨β,off,none⟩ ((cs.toList.drop off).take n) (λj v hv=>by
   rw[Addr.add_mid];simp only[World.cell?,hc];have hj:j<n:=by have:=(List.getElem?_eq_some_iff.1 hv).1;omega
   simpa[List.getElem?_take,hj,List.getElem?_drop]using hv)
  rw[hlen]at hload;simp only[hag,if_true,Sem.run_bind,fC hs,Result.andThen_ok,hload,Sem.run_pure]
 ·obtain⟨v,hv,hrel⟩:=hr.get hx
  refine⟨v,?_,hrel⟩;have:w.cell? ⟨β,off,none⟩=some v:=by simp only[World.cell?,hc];simpa using hv
  simp[hag,this]
theorem tV{t n:Nat}(hs:iZ P t=some n){cs:Array Value}{β off:Nat}{ty:TypeId}(hc:w.heap[β]? =some (.cells cs ty (0,0))){v:Value}
  (hn:v.cells.size=n) (hle:off+n≤cs.size) (h1: ∀x∈v.cells.toList,x.oneCell'=true):
  (storeVar t ⟨β,off,none⟩ v).run P w= .ok () (w.setRow β (cs.toList.take off++v.cells.toList++cs.toList.drop (off+n)).toArray):=by
 have:=run_storeCells_at (P:=P) β off ty v.cells.toList 0 cs w hc (by simp;omega) h1;unfold storeVar;rw[Sem.run_bind,fC hs,Result.andThen_ok];rw[if_neg (by simpa using hn),this];simp[hn]
end Go.bA
namespace Go.bA
open Go.RowKit
variable{P:Program}
def apL(A:Nat→Prop)(w:World)(n sz:Nat)(el:Nat→List IV)(a:Option Addr):Prop:=
 ∃b off,a=some ⟨b,off,none⟩∧b<w.heap.size∧(∀k,k<n→(el k).length=sz)∧
  ∀k j,k<n→j<sz→(w.cell? ⟨b,off+(k*sz+j),none⟩).isSome=true∧(jE w ⟨b,off+(k*sz+j),none⟩).oneCell'=true∧
   jd A w ((el k).getD j (.v undef)) (jE w ⟨b,off+(k*sz+j),none⟩)
def o8(A:Nat→Prop)(w:World)(n sz:Nat)(el:Nat→List IV)(a:Option Addr):Prop:=n=0∨apL A w n sz el a
theorem iQ{k n sz j:Nat}(hk:k<n)(hj:j<sz):k*sz+j<n*sz:=by
 calc k*sz+j<k*sz+sz:=by omega
  _=(k+1)*sz:=by rw[Nat.add_mul,Nat.one_mul]
  _≤n*sz:=Nat.mul_le_mul_right _ hk
def gD(w:World)(n sz:Nat):Option Addr→List Value
 | none=> []
 | some a=>(List.range (n*sz)).map λi=>jE w (a.add i)
theorem o8.length{A:Nat→Prop}{w:World}{n sz:Nat}{el:Nat→List IV}{a:Option Addr}(h:o8 A w n sz el a):(gD w n sz a).length=n*sz:=by
 rcases h with rfl|⟨b,off,rfl,_⟩
 ·cases a<;>simp[gD]
 ·simp[gD]
theorem o8.cell{A:Nat→Prop}{w:World}{n sz:Nat}{el:Nat→List IV}{b off:Nat}(h:o8 A w n sz el (some ⟨b,off,none⟩)){i:Nat}(hi:i<n*sz):
  (w.cell? ⟨b,off+i,none⟩).isSome=true∧(jE w ⟨b,off+i,none⟩).oneCell'=true∧jd A w ((el (i/sz)).getD (i%sz) (.v undef)) (jE w ⟨b,off+i,none⟩):=by
 rcases h with rfl|⟨b',off',he,_,hl,h⟩
 ·simp at hi
 ·simp only[fu,Addr.mk.injEq,and_true]at he
  obtain⟨rfl,rfl⟩:=he
  have hsz:0<sz:=by rcases Nat.eq_zero_or_pos sz with h0|h0; · subst h0;simp at hi
                    exact h0
  have:=h (i/sz) (i%sz) (Nat.div_lt_of_lt_mul (by rwa [Nat.mul_comm])) (Nat.mod_lt _ hsz)
  rwa [Nat.div_add_mod' i sz]at this
theorem o8.news{A:Nat→Prop}{w:World}{n sz:Nat}{el:Nat→List IV}{a:Addr}(h:o8 A w n sz el (some a)):
  (∀j u,(gD w n sz (some a))[j]? =some u→w.cell? (a.add j)=some u)∧ ∀u∈gD w n sz (some a),u.oneCell'=true:=by
 by_cases hn:n=0
 ·subst hn
  simp[gD]
 have ha: ∃b off,a=⟨b,off,none⟩:=by
  rcases h with h|⟨b',off',he,_⟩
  ·exact absurd h hn
  ·simp only[fu]at he;exact⟨b',off',he⟩
 obtain⟨b,off,rfl⟩:=ha;constructor
 ·intro j u hu
  simp only[gD,List.getElem?_map,Option.map_eq_some_iff]at hu;obtain⟨i,hi,rfl⟩:=hu;obtain⟨hj,rfl⟩:=List.getElem?_eq_some_iff.1 hi;simp only[List.getElem_range];simp only[List.length_range]at hj;rw[Addr.add_mid];exact uJ (h.cell hj).1
 ·intro u hu
  simp only[gD,List.mem_map,List.mem_range]at hu;obtain⟨i,hi,rfl⟩:=hu;rw[Addr.add_mid];exact(h.cell hi).2.1
theorem Ei{w:World}{β:Nat}{cs:Array Value}{t:TypeId}{fz:Nat×Nat}(h:w.heap[β]? =some (.cells cs t fz))(i:Nat):jE w ⟨β,i,none⟩=cs.getD i undef:=by
 simp[jE,World.cell?,h,nS]
theorem P8{w:World}{β:Nat}{cs:Array Value}{t:TypeId}{fz:Nat×Nat}(h:w.heap[β]? =some (.cells cs t fz)){i:Nat}(hi:i<cs.size):(w.cell? ⟨β,i,none⟩).isSome=true:=by
 simp[World.cell?,h,hi]
variable{C:Ctx}{B:dI}{S:St}{a:Act}{w:World}
theorem Gz{A:Nat→Prop}{n sz:Nat}{el:Nat→List IV}{t:TypeId}{β:Nat}(h:fZ A B w (.arr n sz el t) w.heap[β]?):
  ∃cs,w.heap[β]? =some (.cells cs t (0,0))∧n*sz≤cs.size∧ ∀k,k≤n→apL A w k sz el (some ⟨β,0,none⟩):=by
 generalize ho:w.heap[β]? =o at h;cases h with
 | arr _ _ _ _ cs hs hl h=>
   refine⟨cs,rfl,hs,λk hk=>⟨β,0,rfl,lt_of_heap ho,λi hi=>hl i (by omega),λi j hi hj=> ?_⟩⟩;have hlt:i*sz+j<cs.size:=Nat.lt_of_lt_of_le (iQ (by omega:i<n) hj) hs;simp only[Nat.zero_add];rw[Ei ho];exact⟨P8 ho hlt,(h i j (by omega) hj).1,(h i j (by omega) hj).2⟩
theorem wF(H:Holds C B S a w){x:AV}{v:Value}(hx:aV (aU C.A0 B S.mem) B w x v){n sz:Nat}{el:Nat→List IV}{cs:List Bool}{rs:List Nat}(h:qN S.mem x=some (n,sz,el,cs,rs))(hc: ∀p∈cs,p):
  ∃ad cap,v= .slice ad n cap∧n≤cap∧o8 (aU C.A0 B S.mem) w n sz el ad:=by
 unfold qN at h
 split at h
 ·rename_i n' sz' iV
  simp only[fu,Prod.mk.injEq]at h;obtain⟨rfl,rfl,rfl,rfl,rfl⟩:=h;cases hx with
  | c _ _ hi=>
    cases hi with
    | nil=>exact⟨none,0,rfl,Nat.le_refl _,.inl rfl⟩
    | zero=>exact⟨_,0,rfl,Nat.le_refl _,.inl rfl⟩
    | sl _ _ _ b off cap hA hb hn hl hs h=>exact⟨_,cap,rfl,hn,.inr ⟨b,off,rfl,hb,hl,λk j hk hj=>⟨(hs k j hk hj).1,(hs k j hk hj).2,h k j hk hj⟩⟩⟩
 ·simp only[fu,Prod.mk.injEq]at h
  obtain⟨rfl,rfl,rfl,rfl,rfl⟩:=h;exact⟨none,0,hx.plain,Nat.le_refl _,.inl rfl⟩
 ·simp only[fu,Prod.mk.injEq]at h
  obtain⟨rfl,rfl,rfl,rfl,rfl⟩:=h;exact⟨_,_,hx.plain,Nat.zero_le _,.inl rfl⟩
 ·rename_i b n' sz'
  split at h
  ·rename_i m' Gy iV t hm
   cases hb:beq sz' Gy with
   | false=>simp[hb]at h
   | true=>
     simp only[hb,cond_true,fu,Prod.mk.injEq]at h;obtain⟨rfl,rfl,rfl,rfl,rfl⟩:=h;obtain rfl:sz'=Gy:=by simpa using hb
     have hle:=dec (hc (decide (n'≤m')) (by simp));cases hx with
     | fK _ _ _ cap β hβ hn hmx hcc=>
       rcases H.mem b _ hm with⟨γ,hγ,hent⟩|⟨hno,_⟩
       ·rw[hβ]at hγ
        cases hγ;obtain⟨cs,hcs,hsz,hsl⟩:=Gz hent;exact⟨_,cap,rfl,hn,.inr (hsl _ hle)⟩
       ·rw[hβ]at hno;cases hno
     | tu=>exact⟨none,0,rfl,Nat.le_refl _,.inl rfl⟩
  ·cases h
 ·cases h
end Go.bA
namespace Go
def Fence.PN(ro:Option Nat):Fence:={Fence.wide with round:=ro}
def Oper.apM(P:Program)(o:Oper)(a:Act)(next:Act→World→Prop):Result Next→Prop
 | .ok (.value v) w'=>next (a.put o.dst v) w'
 | .ok .skip w'=>next (a.put o.dst undef) w'
 | .ok (.enter f args) w'=>Calls P f args w' fun
  | .returned v,w''=>next (a.put o.dst v) w''
  | .panicked _,_=>False
  | .outgrown,_=>False
 | .ok (.round l f tmps assign body) w'=>RoundIn Fence.wide 0 P l f tmps assign body w' fun
  | .returned v,w''=>next (a.put o.dst v) w''
  | .panicked _,_=>False
  | .outgrown,_=>False
 | _=>False
def Oper.sZ(P:Program)(o:Oper)(a:Act)(w:World)(next:Act→World→Prop)(_:Exit→Act→World→Prop):Prop:=
 o.apM P a next ((execOp a.eval o).run P w)
theorem P9{ro:Option Nat}{n:Nat}{P:Program}{f:FuncId}{args:Array Value}{w:World}{R:Ending→World→Prop}(h:Calls P f args w R):CallsIn (Fence.PN ro) n P f args w R:=
 ⟨trivial,λcs _=>(callsIn_wide (n:=n).2 h).2 cs (room_wide _)⟩
theorem Qa{ro:Option Nat}{m n:Nat}{P:Program}{l:Nat}{f:FuncId}{tmps:Array Value}{assign body:Code}{w:World}{R:Ending→World→Prop}(h:RoundIn Fence.wide m P l f tmps assign body w R):
  RoundIn (Fence.PN ro) n P l f tmps assign body w R:=
 ⟨trivial,λc cs _=>h.2 c cs (room_wide _)⟩
theorem Oper.FB{P:Program}{o:Oper}{a:Act}{w:World}{next:Act→World→Prop}{Q:Exit→Act→World→Prop}(ro:Option Nat)(n:Nat)(hd: ∀c,o.op≠ .defer c)(h:o.sZ P a w next Q):
  o.wpIn (Fence.PN ro) n P a w next Q:=by
 refine⟨λ_ _=>trivial,?_⟩;have hs:o.semAt (Fence.PN ro).round a.eval=execOp a.eval o:=Oper.semAt_eq _ _ _ hd;rw[hs];unfold Oper.sZ at h;generalize (execOp a.eval o).run P w=r at*;cases r with
 | halt x w'=>cases x<;>exact h.elim
 | ok x w'=>
   cases x with
   | value v=>exact h
   | skip=>exact h
   | enter f args=>
     refine⟨λh=>by simp[Fence.PN,Fence.wide]at h,P9 (Calls.mono h ?_)⟩;intro e w'' he;cases e with
     | returned v=>exact he
     | panicked c=>exact he.elim
     | outgrown=>exact he.elim
   | round l f tmps assign body=>
     refine⟨λh=>by simp[Fence.PN,Fence.wide]at h,Qa (RoundIn.mono h ?_)⟩;intro e w'' he;cases e with
     | returned v=>exact he
     | panicked c=>exact he.elim
     | outgrown=>exact he.elim
   | _=>exact h.elim
theorem Qb{P:Program}{b:Frame}{a:Act}{k:List Item}{cs:List Frame}{w:World}{c:Code}:step P (lone (b.atR a (.code (.scope c)::k)) cs w)= .next (lone (b.atR a (.code c:: .inScope c::k)) cs w):=
 step_lone_go (by simp[stepG,stepG.exec,Frame.atR])
theorem KH{P:Program}{b:Frame}{a:Act}{k:List Item}{cs:List Frame}{w:World}{c:Code}:step P (lone (b.atR a (.inScope c::k)) cs w)= .next (lone (b.atR a k) cs w):=
 step_lone_go (by simp[stepG,stepG.exec,Frame.atR])
theorem Ab{F:Fence}{n:Nat}{P:Program}{Q:Exit→Act→World→Prop}{a:Act}{w:World}{c:Code}(h:c.wpIn F n P (Exit.noGoto Q) a w):(Code.scope c).wpIn F n P Q a w:=by
 intro b k cs hro hb hr;obtain⟨e,a₁,w₁,hq,harr⟩:=h b (.inScope c::k) cs hro hb hr;have s0:StepsIn (Machine.fenced P F) P (lone (b.atR a (.code (.scope c)::k)) cs w) (lone (b.atR a (.code c:: .inScope c::k)) cs w):= .one (fenced_calm hb hr rfl) Qb;cases e with
 | normal=>exact⟨.normal,a₁,w₁,hq,StepsIn.trans s0 (StepsIn.trans harr (.one (fenced_calm hb hr rfl) KH))⟩
 | exit id=>exact⟨.exit id,a₁,w₁,hq,λk' hk=>StepsIn.trans s0 (harr.1 k' (by simp[exitTo,hk])),λhr hk=>let ⟨k₁,h1,h2⟩:=harr.2 hr (by simp[exitTo,hk]);⟨k₁,h1,StepsIn.trans s0 h2⟩⟩
 | goto l=>exact hq.elim
 | ret=>exact⟨.ret,a₁,w₁,hq,λhr=>let ⟨todo,hs⟩:=harr.1 hr;⟨todo,StepsIn.trans s0 hs⟩,λhr=>let ⟨k₁,hs⟩:=harr.2 hr;⟨k₁,StepsIn.trans s0 hs⟩⟩
 | panic ch=>exact⟨.panic ch,a₁,w₁,hq,let ⟨todo,hs⟩:=harr;⟨todo,StepsIn.trans s0 hs⟩⟩
 | outgrown=>exact⟨.outgrown,a₁,w₁,hq,harr.imp id (Outgrown.of_steps s0.steps)⟩
end Go
namespace Go.bA
open Go.RowKit
section
variable{P:Program}{C:Ctx}{B:dI}{S:St}{a:Act}{w:World}{o:Oper}{r:Eff}{slot:Nat}
 {K:Act→World→Prop} {Q:Exit→Act→World→Prop}
abbrev Cont(C:Ctx)(B:dI)(slot:Nat)(S':St)(K:Act→World→Prop):Prop:=
 ∀a' w' B',Holds C B' S' a' w'→(∀j,j≠slot→B' j=B j)→K a' w'
theorem jU(hK:Cont C B slot (S.apply o.dst r) K){v:Value}{w':World}{B':dI}(hrun:(execOp a.eval o).run P w= .ok (.value v) w')
  (H':Holds C B' {S with mem:=bV S.mem r.upd} a w') (hrel:aV (aU C.A0 B' (bV S.mem r.upd)) B' w' r.val v) (hB: ∀j,j≠slot→B' j=B j):o.sZ P a w K Q:=by
 unfold Oper.sZ;rw[hrun];exact hK _ _ B' (H'.put o.dst hrel) hB
theorem Ll{t n:Nat}(h:Ie P t=some n){s:Nat}(hs:iZ P t=some s){z:Value}(hz:o7 P t=some z): ∃i,P.info? t=some i∧i.bytes=n∧i.size=s∧i.zero=some z:=by
 unfold Ie at h;unfold iZ at hs;unfold o7 at hz;cases hi:P.info? t with
 | none=>simp[hi]at h
 | some i=>simp[hi]at h hs hz;exact⟨i,rfl,h,hs,hz⟩
theorem Qc{n:Int}(h0:0≤n)(h1:n≤9223372036854775807):i64.wrap n=n:=IntWalk.i64_in n ⟨by omega,h1⟩
theorem run_makeSlice{t e p D7:Nat}{n:Int}{z:Value}(hu:P.underlying t=some (.slice e))(hs:iZ P e=some (p+1))(hb:Ie P e=some D7)(hz:o7 P e=some z)
  (h0:0≤n) (h1:n≤9223372036854775807) (h2:(D7:Int)*n≤140737488355328):
  (Instr.makeSlice t (.int .i64 n) (.int .i64 n)).run P w= .ok (.slice (some ⟨w.heap.size,0,none⟩) n.toNat n.toNat) (w.alloc (.cells ((Array.range (n.toNat*(p+1))).map (λi=>z.cells[i%z.cells.size]!)) e)):=by
 obtain⟨i,hi,hib,his,hiz⟩:=Ll hb hs hz;have hw:=Qc h0 h1;have hl:(n<0 || (D7:Int)*n>2^48)=false:=by simp;omega
 unfold Instr.makeSlice;simp only[Sem.run_bind,run_underlying hu,Result.andThen_ok,asInt,asIntOf,Sem.run_pure,typeInfo,run_program,hi,hib,hw,hl];have h00: ¬n<0:=by omega
 by_cases hn:n.toNat*(p+1)=0
 ·have hr:Array.range 0= #[]:=rfl
  simp[h00,sizeOf,typeInfo,hi,his,hn,newRow,hr]
 ·have hne:n.toNat≠0:=by rintro h;rw[h]at hn;simp at hn
  simp[h00,sizeOf,typeInfo,hi,his,hne,newRow,zeroValue,hiz];intro h;exact absurd h hn
theorem Tz{l:List Value}{j:Nat}(hj:j<l.length):(l.map IV.v).getD j (.v undef)= .v l[j]:=by simp[dJ,hj]
theorem Lm{A:Nat→Prop}{n p:Nat}{z:Value}{e:TypeId}{cs:Array Value}(hzs:z.cells.size=p+1)(hok:z.cells.toList.all (·.oneCell')=true)(hsz:cs.size=n*(p+1))
  (hcs: ∀i,i<n*(p+1)→cs.getD i undef=z.cells.toList.getD (i%(p+1)) undef):
  fZ A B w (.arr n (p+1) (λ_=>z.cells.toList.map .v) e) (some (.cells cs e (0,0))):=by
 refine .arr n (p+1) _ e cs (by omega) (λk hk=>by simpa using hzs) λk j hk hj=> ?_
 have hlt:=iQ hk hj;rw[hcs _ hlt];have hm:(k*(p+1)+j)%(p+1)=j:=by rw[Nat.mul_comm,Nat.mul_add_mod,Nat.mod_eq_of_lt hj]
 rw[hm];have hjl:j<z.cells.toList.length:=by simpa[hzs]using hj
 rw[Tz hjl];have hv:z.cells.toList.getD j undef=z.cells.toList[j]:=by rw[dJ,List.getElem?_eq_getElem hjl];rfl
 rw[hv];exact⟨List.all_eq_true.1 hok _ (List.getElem_mem hjl),.v _⟩
theorem Ip(hC:C.Ok)(H:Holds C B S a w)(hs:B slot=none)(hnx:Between C S slot){t:TypeId}{x y:Operand}(hop:o.op= .makeSlice t x y)
  (h:A9 P slot t (bQ S.tm x) (bQ S.tm y)=some r) (hc: ∀p∈r.conds,p) (hK:Cont C B slot (S.apply o.dst r) K):o.sZ P a w K Q:=by
 have hx:=bG H x;have hy:=bG H y;unfold A9 at h
 split at h
 ·rename_i e n k hu hxe hye
  rw[hxe]at hx;rw[hye]at hy
  split at h
  ·rename_i p D7 z hsz hby hz
   cases hb:(beq z.cells.size (p+1)&&z.cells.toList.all (·.oneCell'))with
   | false=>rw[hb]at h;cases h
   | true=>
     rw[hb]at h;simp only[cond_true,fu]at h;subst h;simp only[bI,Nat.beq_eq]at hb;have hnk:n=k:=dec (hc _ (by simp));have h0:0≤n:=dec (hc _ (by simp));have h1:n≤9223372036854775807:=dec (hc _ (by simp));have h2:(D7:Int)*n≤140737488355328:=dec (hc _ (by simp));subst hnk;have hrun:=run_makeSlice (w:=w) hu hsz hby hz h0 h1 h2;have hent:=Lm (A:=aU C.A0 B S.mem) (B:=B) (w:=w) (n:=n.toNat) (p:=p) (z:=z) (e:=e) (cs:=(Array.range (n.toNat*(p+1))).map (λi=>z.cells[i%z.cells.size]!)) hb.1 hb.2 (by simp) (λi hi=>by
      have hz0:i%z.cells.size<z.cells.size:=Nat.mod_lt _ (by omega);simp[nS,hi,dJ,hb.1 ▸ hz0,hz0,hb.1])
     refine jU hK (w':=w.alloc (.cells ((Array.range (n.toNat*(p+1))).map (λi=>z.cells[i%z.cells.size]!)) e)) (v:= .slice (some ⟨w.heap.size,0,none⟩) n.toNat n.toNat) (B':=gT B slot w.heap.size) ?_ (H.alloc hC hs hnx hent) ?_ (λj hj=>by simp[gT,hj])
     ·simp only[execOp,hop,hx.plain,hy.plain,Sem.run_bind,hrun,Result.andThen_ok,Sem.run_pure]
     ·refine .fK slot n.toNat (p+1) n.toNat w.heap.size (by simp[gT]) (Nat.le_refl _) (by unfold maxLen;omega) ⟨_,e,(0,0),by show(w.heap.push _)[w.heap.size]? =_;simp;rfl,by simp⟩
  ·cases h
 ·cases h
end
end Go.bA
namespace Go.bA
open Go.RowKit
section
variable{P:Program}{C:Ctx}{B:dI}{S:St}{a:Act}{w:World}{o:Oper}{r:Eff}{slot:Nat}
 {K:Act→World→Prop} {Q:Exit→Act→World→Prop}
theorem dF(H:Holds C B S a w)(hK:Cont C B slot (S.apply o.dst r) K){v:Value}(hrun:(execOp a.eval o).run P w= .ok (.value v) w)
  (hrel:aV (aU C.A0 B S.mem) B w r.val v) (hu:r.upd=[]):o.sZ P a w K Q:=by
 refine jU hK (B':=B) hrun ?_ ?_ (λ_ _=>rfl)
 ·rw[hu];exact H
 ·rw[hu];exact hrel
theorem iL(β off n:Nat):(⟨β,off,none⟩:Addr).add n=⟨β,off+n,none⟩:=Addr.add_mid β off n
theorem TA{A:Nat→Prop}{n sz:Nat}{el:Nat→List IV}{b off:Nat}(hA: ¬A b)(hb:b<w.heap.size){k:Nat}(hl:(el k).length=sz)
  (h: ∀j,j<sz→(w.cell? ⟨b,off+(k*sz+j),none⟩).isSome=true∧jd A w ((el k).getD j (.v undef)) (jE w ⟨b,off+(k*sz+j),none⟩)):
  aV A B w (.fB (el k)) (.pointer (some ⟨b,off+k*sz,none⟩)):=by
 refine .fB _ b (off+k*sz) hA hb λj hj=> ?_
 rw[hl]at hj;have:=h j hj;rw[Nat.add_assoc];exact this
theorem Iq(H:Holds C B S a w){t:TypeId}{x y:Operand}(hop:o.op= .indexAddr t x y)
  (h:A8 P S.mem t (bQ S.tm x) (bQ S.tm y)=some r) (hc: ∀p∈r.conds,p)
  (hK:Cont C B slot (S.apply o.dst r) K):o.sZ P a w K Q:=by
 have hx:=bG H x;have hy:=bG H y;unfold A8 at h
 split at h
 ·rename_i e ki i hu hye
  rw[hye]at hy;have hyv:=hy.plain
  split at h
  ·rename_i b n sz p hxe hp
   cases hz:beq p sz with
   | false=>simp[hz]at h
   | true=>
   simp only[hz,cond_true,fu]at h;subst h;have hi:=dec (hc (decide (0≤i∧i<(n:Int))) (by simp));obtain rfl:p=sz:=by simpa using hz
   rw[hxe]at hx;generalize oh:a.eval x=vx at hx;cases hx with
   | fK _ _ _ cap β hβ hn hm hcc=>
     refine dF H hK (v:= .pointer (some ⟨β,i.toNat*p+0,none⟩)) ?_ (.jr b i.toNat 0 p β hβ) rfl;simp[execOp,hop,Instr.indexAt,hyv,oh,asIntOf,run_underlying hu,hi.1,hi.2,fC hp,iL]
   | tu=>omega
  ·rename_i n sz el p hxe hp
   cases hz:beq p sz with
   | false=>simp[hz]at h
   | true=>
     simp only[hz,cond_true,fu]at h;subst h;have hi:=dec (hc (decide (0≤i∧i<(n:Int))) (by simp));obtain rfl:p=sz:=by simpa using hz
     rw[hxe]at hx;generalize oh:a.eval x=vx at hx;cases hx with
     | c _ _ hi2=>
       cases hi2 with
       | nil=>omega
       | zero=>omega
       | sl _ _ _ b off cap hA hb hn hl hs hh=>
         have hik:i.toNat<n:=by omega
         refine dF H hK (v:= .pointer (some ⟨b,off+i.toNat*p,none⟩)) ?_ (TA (n:=n) hA hb (hl _ hik) λj hj=>⟨(hs _ j hik hj).1,hh _ j hik hj⟩) rfl;simp[execOp,hop,Instr.indexAt,hyv,oh,asIntOf,run_underlying hu,hi.1,hi.2,fC hp,iL]
  ·rename_i b k n sz p hxe hp
   cases hz:beq p sz with
   | false=>simp[hz]at h
   | true=>
     simp only[hz,cond_true,fu]at h;subst h;have hi:=dec (hc (decide (0≤i∧i<(n:Int))) (by simp));obtain rfl:p=sz:=by simpa using hz
     rw[hxe]at hx;generalize oh:a.eval x=vx at hx;cases hx with
     | H9 _ _ _ _ cap β hβ hn h0 hcc=>
       refine dF H hK (v:= .pointer (some ⟨β,(k+i.toNat)*p+0,none⟩)) ?_ (.jr b (k+i.toNat) 0 p β hβ) rfl;have e:(k+i.toNat)*p+0=k*p+i.toNat*p:=by rw[Nat.add_mul,Nat.add_zero]
       rw[e];simp[execOp,hop,Instr.indexAt,hyv,oh,asIntOf,run_underlying hu,hi.1,hi.2,fC hp,iL]
  ·cases h
 ·rename_i n e ki i hu hye
  rw[hye]at hy;have hyv:=hy.plain
  split at h
  ·rename_i b sz p hxe hp
   cases hz:beq sz p with
   | false=>simp[hz]at h
   | true=>
     simp only[hz,cond_true,fu]at h;subst h;obtain rfl:sz=p:=by simpa using hz
     have hi:=dec (hc (decide (0≤i∧i<(n:Int))) (by simp));rw[hxe]at hx;generalize oh:a.eval x=vx at hx;cases hx with
     | jr _ _ _ _ β hβ=>
       refine dF H hK (v:= .pointer (some ⟨β,i.toNat*sz+0,none⟩)) ?_ (.jr b i.toNat 0 sz β hβ) rfl;simp[execOp,hop,Instr.indexAt,hyv,oh,asIntOf,run_underlying hu,hi.1,hi.2,fC hp,iL,Instr.sureAddr]
  ·rename_i b off p hxe hp
   cases h;have hi:=dec (hc (decide (0≤i∧i<(n:Int))) (by simp));rw[hxe]at hx;obtain⟨β,hβ,oh⟩:=hx.lV;refine dF H hK (v:= .pointer (some ⟨β,off+i.toNat*p,none⟩)) ?_ (.ptr b _ β hβ) rfl;simp[execOp,hop,Instr.indexAt,hyv,oh,asIntOf,run_underlying hu,hi.1,hi.2,fC hp,iL,Instr.sureAddr]
  ·cases h
 ·cases h
theorem aaO{A:Nat→Prop}{l:List IV}{cs:List Value}(hl:cs.length=l.length)(h: ∀j,j<l.length→jd A w (l.getD j (.v undef)) (cs.getD j undef)):dN A B w (PU l) cs:=
 ⟨by simpa[PU]using hl,λj hj=>by
  have hj':j<l.length:=by simpa[PU]using hj
  have:=h j hj';simp only[PU,dJ,List.getElem?_map,List.getElem?_eq_getElem hj',Option.map_some,Option.getD_some]at this⊢;exact .c _ _ this⟩
theorem om{A:Nat→Prop}{t:Nat}{l:List IV}{b off j:Nat}(h: ∀i,i<l.length→(w.cell? ⟨b,off+i,none⟩).isSome=true∧jd A w (l.getD i (.v undef)) (jE w ⟨b,off+i,none⟩)){x:AV}
  (hp:jS P t (PU l) j=some x): ∃v,(loadVar t ⟨b,off+j,none⟩).run P w= .ok v w∧aV A B w x v:=by
 obtain⟨d,hu,hp⟩:=xX hp;have hr:dN A B w (PU l) ((List.range l.length).map λi=>jE w ⟨b,off+i,none⟩):=
  aaO (by simp) λi hi=>by
   have:=(h i hi).2;simpa[dJ,hi]using this
 unfold loadVar;rw[Sem.run_bind,wD hu,Result.andThen_ok];rcases hp with⟨hag,n,hs,hle,rfl⟩|⟨hag,hx⟩
 ·have hle':j+n≤l.length:=by simpa[PU]using hle
  refine⟨.agg ((((List.range l.length).map λi=>jE w ⟨b,off+i,none⟩).drop j).take n).toArray,?_,aV.sj ((hr.drop j).take n)⟩;have hload:=run_loadCells_list (P:=P) w ⟨b,off+j,none⟩ ((((List.range l.length).map λi=>jE w ⟨b,off+i,none⟩).drop j).take n) (λi v hv=>by
   rw[iL];have hin:i<n:=by have:=(List.getElem?_eq_some_iff.1 hv).1;simp at this;omega
   simp only[List.getElem?_take,hin,if_true,List.getElem?_drop,List.getElem?_map,Option.map_eq_some_iff]at hv;obtain⟨k,hk,rfl⟩:=hv;obtain⟨hk1,rfl⟩:=List.getElem?_eq_some_iff.1 hk;simp only[List.getElem_range];rw[Nat.add_assoc];exact uJ (h _ (by omega)).1)
  have hlen:((((List.range l.length).map λi=>jE w ⟨b,off+i,none⟩).drop j).take n).length=n:=by simp;omega
  rw[hlen]at hload;simp only[hag,if_true,Sem.run_bind,fC hs,Result.andThen_ok,hload,Sem.run_pure]
 ·obtain⟨v,hv,hrel⟩:=hr.get hx
  refine⟨v,?_,hrel⟩;simp only[List.getElem?_map,Option.map_eq_some_iff]at hv;obtain⟨k,hk,rfl⟩:=hv;obtain⟨hk1,rfl⟩:=List.getElem?_eq_some_iff.1 hk;simp only[List.getElem_range];simp only[List.length_range]at hk1;have:=uJ (h j hk1).1;simp[hag,this]
theorem Lp(H:Holds C B S a w){t:TypeId}{x:AV}{vx:Value}(hx:aV (aU C.A0 B S.mem) B w x vx)(h:Fx P S.mem t x=some r)(hc: ∀p∈r.conds,p):
  r.upd=[]∧ ∃ad v,vx= .pointer (some ad)∧(loadVar t ad).run P w= .ok v w∧aV (aU C.A0 B S.mem) B w r.val v:=by
 unfold Fx at h
 split at h
 ·rename_i b off
  obtain⟨β,hβ,hxe⟩:=hx.lV
  split at h
  ·rename_i l ty hm
   obtain⟨γ,hγ,hent⟩: ∃β,B b=some β∧fZ (aU C.A0 B S.mem) B w _ w.heap[β]? :=(H.mem b _ hm).resolve_right (λh=>h.2);rw[hβ]at hγ;cases hγ
   split at h
   ·rename_i v hpart
    cases h;generalize xR:w.heap[β]? =ob at hent;cases hent with
    | cells _ _ cs hsz o9=>
      obtain⟨u,hrun,hrel⟩:=Eh (P:=P) (l:=l) xR ⟨by simpa using hsz,λj hj=>by simpa[nS,dJ]using o9 j hj⟩ hpart;exact⟨rfl,_,u,hxe,hrun,hrel⟩
   ·cases h
  ·cases h
 ·rename_i b k j sz
  split at h
  ·rename_i n sz' el ty hm
   cases hb:beq sz sz' with
   | false=>simp[hb]at h
   | true=>
     simp only[hb,cond_true]at h;obtain rfl:sz=sz':=by simpa using hb
     split at h
     ·rename_i v hpart
      cases h;have hk:=dec (hc (decide (k<n)) (by simp));cases hx with
      | jr _ _ _ _ β hβ=>
        rcases H.mem b _ hm with⟨γ,hγ,hent⟩|⟨hno,_⟩
        ·rw[hβ]at hγ
         cases hγ;obtain⟨cs,hcs,hsz,hsl⟩:=Gz hent;rcases hsl n (Nat.le_refl _)with⟨b',off',he,_,hl,hall⟩
         ·simp only[fu,Addr.mk.injEq,and_true]at he
          obtain⟨rfl,rfl⟩:=he;obtain⟨u,hrun,hrel⟩:=om (P:=P) (B:=B) (b:=β) (off:=k*sz) (l:=el k) (λi hi=>by
           have hi':i<sz:=by rw[hl k hk]at hi;exact hi
           have:=hall k i hk hi';simp only[Nat.zero_add]at this;exact⟨this.1,this.2.2⟩) hpart
          exact⟨rfl,_,u,rfl,hrun,hrel⟩
        ·rw[hβ]at hno;cases hno
     ·cases h
  ·cases h
 ·rename_i l
  split at h
  ·rename_i v hpart
   cases h;cases hx with
   | fB _ b off hA hb hall=>
     obtain⟨u,hrun,hrel⟩:=om (P:=P) (B:=B) (b:=b) (off:=off) (j:=0) hall hpart;exact⟨rfl,_,u,rfl,hrun,hrel⟩
  ·cases h
 ·rename_i ad
  split at h
  ·rename_i fs hz hu
   cases h;have hi:=wD (w:=w) hu;have ha:AX P t=true:=by unfold AX;rw[hu]
   rw[ha]at hi;refine⟨rfl,ad,.agg #[],hx.plain,?_,aV.sj .nil⟩;simp[loadVar,Sem.run_bind,hi,fC hz,loadCells,loadCellsFrom]
  ·cases h
 ·cases h
theorem YX(H:Holds C B S a w){t:TypeId}{x:Operand}(hop:o.op= .load t x)
  (h:Fx P S.mem t (bQ S.tm x)=some r) (hc: ∀p∈r.conds,p) (hK:Cont C B slot (S.apply o.dst r) K):o.sZ P a w K Q:=by
 obtain⟨hu,ad,v,hxe,hrun,hrel⟩:=Lp H (bG H x) h hc;exact dF H hK (v:=v) (by simp[execOp,hop,Instr.loadAt,hxe,Instr.sureAddr,hrun]) hrel hu
theorem pJ: ∀{l:List AV} {c:List IV},l.mapM PV=some c→l=PU c
 | [],c,h=>by simp at h;subst h;rfl
 | x::l,c,h=>by
   simp only[List.mapM_cons,Option.bind_eq_bind,Option.pure_def]at h;cases x with
   | c i=>
     cases hl:l.mapM PV with
     | none=>simp[PV,hl]at h
     | some d=>simp[PV,hl]at h;subst h;rw[pJ hl];rfl
   | _=>simp[PV]at h
theorem xZ{A:Nat→Prop}{c:List IV}{cs:List Value}(h:dN A B w (PU c) cs):cs.length=c.length∧ ∀j,j<c.length→jd A w (c.getD j (.v undef)) (cs.getD j undef):=by
 refine⟨by simpa[PU]using h.1,λj hj=> ?_⟩;have:=h.2 j (by simpa[PU]using hj);simp only[PU,dJ,List.getElem?_map,List.getElem?_eq_getElem hj,Option.map_some,Option.getD_some]at this⊢;cases this with
 | c _ _ h=>exact h
theorem Lr(H:Holds C B S a w){t:TypeId}{x y:Operand}(hop:o.op= .store t x y){va:AV}(hy:aV (aU C.A0 B S.mem) B w va (a.eval y))
  (h:AY P S.mem t (bQ S.tm x) va=some r) (hc: ∀p∈r.conds,p) (hK:Cont C B slot (S.apply o.dst r) K):o.sZ P a w K Q:=by
 have hx:=bG H x;have fin: ∀(ad:Addr) (w':World),a.eval x= .pointer (some ad)→(storeVar t ad (a.eval y)).run P w= .ok () w'→r.val= .c (.v undef)→Holds C B {S with mem:=bV S.mem r.upd} a w'→o.sZ P a w K Q:=by
  intro ad w' hxe hrun hv H';unfold Oper.sZ;rw[show(execOp a.eval o).run P w= .ok .skip w' by simp[execOp,hop,Instr.storeAt,hxe,Instr.sureAddr,hrun]];exact hK _ _ B (H'.put o.dst (by rw[hv];exact aV.lit _)) (λ_ _=>rfl)
 unfold AY at h
 split at h
 ·rename_i b off Bb
  rw[Bb]at hx;obtain⟨β,hβ,hxe⟩:=hx.lV
  split at h
  ·rename_i l ty n hm hsz
   obtain⟨γ,hγ,hent⟩: ∃β,B b=some β∧fZ (aU C.A0 B S.mem) B w _ w.heap[β]? :=(H.mem b _ hm).resolve_right (λh=>h.2);rw[hβ]at hγ;cases hγ;dsimp only at h;cases hb:(beq (iP va).length n&&Nat.ble (off+n) l.length&&(iP va).all gU)with
   | false=>rw[hb]at h;cases h
   | true=>
     rw[hb]at h;simp only[cond_true,fu]at h;subst h;simp only[bI,Nat.beq_eq,Nat.ble_eq]at hb;obtain⟨⟨hn,hle⟩,hok⟩:=hb;have hcells:=y8 hy (.inl hok);generalize xR:w.heap[β]? =ob at hent;cases hent with
     | cells _ _ cs hcs o9=>
       have aaP:dN (aU C.A0 B S.mem) B w l cs.toList:=⟨by simpa using hcs,λj hj=>by simpa[nS,dJ]using o9 j hj⟩
       have hvn:(a.eval y).cells.size=n:=by have:=hcells.1;simpa[hn]using this
       have hrun:=tV (P:=P) (w:=w) (t:=t) hsz xR (off:=off) hvn (by omega) (q9 hcells hok);have hnew:dN (aU C.A0 B S.mem) B w (l.take off++iP va++l.drop (off+n)) (cs.toList.take off++(a.eval y).cells.toList++cs.toList.drop (off+n)):=((aaP.take off).append hcells).append (aaP.drop (off+n));exact fin _ _ hxe hrun rfl (H.setRow hm hβ xR (by simp;omega) (.cells _ _ _ (by simpa using hnew.1) λj hj=>by simpa[nS,dJ]using hnew.2 j hj))
  ·cases h
 ·rename_i b k j sz Bb
  rw[Bb]at hx
  split at h
  ·rename_i n sz' el ty p hm hsz
   split at h
   ·rename_i c hcm
    cases hb:(beq sz sz'&&beq c.length p&&Nat.ble (j+p) sz&&(iP va).all gU)with
    | false=>rw[hb]at h;cases h
    | true=>
      rw[hb]at h;simp only[cond_true,fu]at h;subst h;simp only[bI,Nat.beq_eq,Nat.ble_eq]at hb;obtain⟨⟨⟨rfl,hcp⟩,hjp⟩,hok⟩:=hb;have hk:=dec (hc (decide (k<n)) (by simp));generalize oh:a.eval x=vx at hx;cases hx with
      | jr _ _ _ _ β hβ=>
        rcases H.mem b _ hm with⟨γ,hγ,hent⟩|⟨hno,_⟩
        ·rw[hβ]at hγ
         cases hγ;generalize xR:w.heap[β]? =ob at hent;cases hent with
         | arr _ _ _ _ cs hcs hlen o9=>
           have hcells:=y8 hy (.inl hok);rw[pJ hcm]at hcells;obtain⟨hcl,hcr⟩:=xZ hcells;have hvn:(a.eval y).cells.size=p:=by simpa[hcp]using hcl
           have hlt:k*sz+(j+p)≤n*sz:=by
            calc k*sz+(j+p)≤k*sz+sz:=by omega
             _=(k+1)*sz:=by rw[Nat.add_mul,Nat.one_mul]
             _≤n*sz:=Nat.mul_le_mul_right _ hk
           have h1: ∀x∈(a.eval y).cells.toList,x.oneCell'=true:=by
            rw[pJ hcm]at hok;exact q9 hcells hok
           have hrun:=tV (P:=P) (w:=w) (t:=t) hsz xR (off:=k*sz+j) hvn (by omega) h1;refine fin _ _ oh hrun rfl (H.setRow hm hβ xR (by simp;omega) (.arr n sz _ ty _ (by simp;omega) (λi hi=> ?_) λi q hi hq=> ?_))
           ·unfold aT
            split
            ·rename_i hik;subst hik;simp[hlen i hi];omega
            ·exact hlen i hi
           ·have hil:=hlen i hi
            have hq2:i*sz+q<cs.size:=Nat.lt_of_lt_of_le (iQ hi hq) hcs
            have hcell:((cs.toList.take (k*sz+j)++(a.eval y).cells.toList++cs.toList.drop (k*sz+j+p)).toArray).getD (i*sz+q) undef=
              if k*sz+j≤i*sz+q∧i*sz+q<k*sz+j+p then(a.eval y).cells.toList.getD (i*sz+q-(k*sz+j)) undef else cs.getD (i*sz+q) undef:=by
             simp only[nS,List.getElem?_toArray,dJ,List.append_assoc];have htl:(cs.toList.take (k*sz+j)).length=k*sz+j:=by simp;omega
             have hvl:(a.eval y).cells.toList.length=p:=by simpa using hvn
             by_cases ha1:i*sz+q<k*sz+j
             ·rw[List.getElem?_append_left (by omega),List.getElem?_take,if_pos ha1,if_neg (by omega)]
              simp
             ·rw[List.getElem?_append_right (by omega),htl]
              by_cases ha2:i*sz+q<k*sz+j+p
              ·rw[List.getElem?_append_left (by omega),if_pos ⟨by omega,ha2⟩]
              ·rw[List.getElem?_append_right (by omega),hvl,List.getElem?_drop,if_neg (by omega)]
               rw[show k*sz+j+p+(i*sz+q-(k*sz+j)-p)=i*sz+q by omega];simp
            rw[hcell];by_cases hik:i=k
            ·subst hik
             simp only[aT,if_true];by_cases hin:i*sz+j≤i*sz+q∧i*sz+q<i*sz+j+p
             ·rw[if_pos hin]
              have hqj:q-j<c.length:=by omega
              have e1:i*sz+q-(i*sz+j)=q-j:=by omega
              rw[e1];have e2:((el i).take j++c++(el i).drop (j+c.length)).getD q (.v undef)=c.getD (q-j) (.v undef):=by
               have htl:((el i).take j).length=j:=by simp;omega
               rw[dJ,List.append_assoc,List.getElem?_append_right (by omega),htl,List.getElem?_append_left hqj, ←dJ]
              rw[e2];refine⟨h1 _ ?_,hcr _ hqj⟩;have hlt2:q-j<(a.eval y).cells.toList.length:=by omega
              rw[dJ,List.getElem?_eq_getElem hlt2];exact List.getElem_mem hlt2
             ·rw[if_neg hin]
              have e2:((el i).take j++c++(el i).drop (j+c.length)).getD q (.v undef)=(el i).getD q (.v undef):=by
               have htl:((el i).take j).length=j:=by simp;omega
               simp only[dJ,List.append_assoc];by_cases hqj:q<j
               ·rw[List.getElem?_append_left (by omega),List.getElem?_take,if_pos hqj]
               ·rw[List.getElem?_append_right (by omega),htl,List.getElem?_append_right (by omega),List.getElem?_drop]
                rw[show j+c.length+(q-j-c.length)=q by omega]
              rw[e2];exact o9 i q hi hq
            ·simp only[aT,hik,if_false]
             have hout: ¬(k*sz+j≤i*sz+q∧i*sz+q<k*sz+j+p):=by
              rintro⟨h2,h3⟩;rcases Nat.lt_or_gt_of_ne hik with hlt'|ase
              ·have:(i+1)*sz≤k*sz:=Nat.mul_le_mul_right _ hlt'
               rw[Nat.add_mul,Nat.one_mul]at this;omega
              ·have:(k+1)*sz≤i*sz:=Nat.mul_le_mul_right _ ase
               rw[Nat.add_mul,Nat.one_mul]at this;omega
             rw[if_neg hout];exact o9 i q hi hq
        ·rw[hβ]at hno;cases hno
   ·cases h
  ·cases h
 ·cases h
theorem Ir(H:Holds C B S a w){t:TypeId}{x:Operand}{f:Nat}(hop:o.op= .fieldAddr t x f)
  (h:AZ P t (bQ S.tm x) f=some r) (hK:Cont C B slot (S.apply o.dst r) K):o.sZ P a w K Q:=by
 have hx:=bG H x;unfold AZ at h
 split at h
 ·rename_i fs hu
  split at h
  ·rename_i fl hfl
   split at h
   ·rename_i m hsz
    have fin: ∀(β off:Nat),a.eval x= .pointer (some ⟨β,off,none⟩)→(execOp a.eval o).run P w= .ok (.value (.pointer (some ⟨β,off+fl.offset,none⟩))) w:=by
     intro β off hxe;simp[execOp,hop,Instr.fieldAt,run_underlying hu,hfl,hxe,Instr.sureAddr,fieldPlace,fC hsz,iL]
    split at h
    ·rename_i b off Bb
     cases h;rw[Bb]at hx;obtain⟨β,hβ,hxe⟩:=hx.lV;exact dF H hK (fin β off hxe) (.ptr _ _ _ hβ) rfl
    ·rename_i b k j sz Bb
     cases h;rw[Bb]at hx;generalize oh:a.eval x=vx at hx;cases hx with
     | jr _ _ _ _ β hβ=>
       refine dF H hK (fin β _ oh) ?_ rfl;rw[Nat.add_assoc];exact .jr b k _ sz β hβ
    ·rename_i l Bb
     rw[Bb]at hx;cases hb:Nat.blt fl.offset l.length with
     | false=>simp[hb]at h
     | true=>
       simp only[hb,cond_true,fu]at h;subst h;generalize oh:a.eval x=vx at hx;cases hx with
       | fB _ b off hA hbw hall=>
         refine dF H hK (fin b off oh) (.fB _ b _ hA hbw λj hj=> ?_) rfl;have hj':fl.offset+j<l.length:=by simp at hj;omega
         have:=hall (fl.offset+j) hj';rw[Nat.add_assoc];have e:(l.drop fl.offset).getD j (.v undef)=l.getD (fl.offset+j) (.v undef):=by simp[dJ,List.getElem?_drop]
         rw[e];exact this
    ·cases h
   ·cases h
  ·cases h
 ·cases h
end
end Go.bA
namespace Go.bA
open Go.RowKit
section
variable{P:Program}{C:Ctx}{B:dI}{S:St}{a:Act}{w:World}{o:Oper}{r:Eff}{slot:Nat}
 {K:Act→World→Prop} {Q:Exit→Act→World→Prop}
theorem Nh(s:ByteArray)(l h:Nat)(hl:l≤h)(hh:h≤s.data.toList.length):s.extract l h=⟨⟨(s.data.toList.take h).drop l⟩⟩:=by
 apply ByteArray.ext
 rw[ByteArray.data_extract]
 apply Array.ext'
 rw[Array.toList_extract,List.extract_eq_take_drop, ←List.drop_take]
theorem gL{k:IntKind}{i:Int}{y:Nat}{c:BoundsCode}(h0:0≤i)(h1:i≤(y:Int)):(Instr.sliceBound (.int k i) y c).run P w= .ok i.toNat w:=by
 simp[Instr.sliceBound,asIntOf,h0,h1]
theorem TB(H:Holds C B S a w)(hC:C.Ok){t:TypeId}{x:Operand}{lo hi mx:Option Operand}(hop:o.op= .slice t x lo hi mx)(hmx:mx=none)
  (h:D9 P S.mem t (bQ S.tm x) (lo.map (bQ S.tm)) (hi.map (bQ S.tm))=some r) (hc: ∀p∈r.conds,p) (hK:Cont C B slot (S.apply o.dst r) K):o.sZ P a w K Q:=by
 subst hmx;have hx:=bG H x;have FC: ∀v w',(Instr.sliceAt t (a.eval x) (lo.map a.eval) (hi.map a.eval) none).run P w= .ok v w'→(execOp a.eval o).run P w= .ok (.value v) w':=by
  intro v w' hr;simp[execOp,hop,hr]
 have hlo: ∀{k:IntKind} {i:Int},lo.map (bQ S.tm)=some (.c (.v (.int k i)))→lo.map a.eval=some (.int k i):=by
  intro k i hl;cases lo with
  | none=>cases hl
  | some z=>
    simp only[Option.map_some,fu]at hl⊢;have:=bG H z;rw[hl]at this;exact this.plain
 have hlo0:lo.map (bQ S.tm)=none→lo.map a.eval=none:=by intro hl;cases lo with|none=>rfl|some z=>cases hl
 have hhi: ∀{k:IntKind} {i:Int},hi.map (bQ S.tm)=some (.c (.v (.int k i)))→hi.map a.eval=some (.int k i):=by
  intro k i hl;cases hi with
  | none=>cases hl
  | some z=>
    simp only[Option.map_some,fu]at hl⊢;have:=bG H z;rw[hl]at this;exact this.plain
 have hhi0:hi.map (bQ S.tm)=none→hi.map a.eval=none:=by intro hl;cases hi with|none=>rfl|some z=>cases hl
 unfold D9 at h
 split at h
 ·
  rename_i s hu hxe;rw[hxe]at hx;have hxv:=hx.plain;have hsz:s.size=s.data.toList.length:=by simp
  have fin: ∀l h':Nat,l≤h'→h'≤s.data.toList.length→(Instr.sliceBounds false s.size s.size (lo.map a.eval) (hi.map a.eval) none).run P w= .ok (l,h',s.size) w→
    (execOp a.eval o).run P w= .ok (.value (.string ⟨⟨(s.data.toList.take h').drop l⟩⟩)) w:=by
   intro l h' h1 h2 hb
   apply FC
   simp only[Instr.sliceAt,Sem.run_bind,run_underlying hu,Result.andThen_ok,Instr.slice,hxv];simp[hb,Nh s l h' h1 h2]
  split at h
  ·rename_i hl hh
   cases h;have:=fin 0 s.data.toList.length (Nat.zero_le _) (Nat.le_refl _) (by simp only[Instr.sliceBounds,hlo0 hl,hhi0 hh,hsz];rfl);refine dF H hK (v:= .string s) ?_ (aV.lit _) rfl;rw[this];simp only[List.take_length,List.drop_zero]
  ·rename_i k l hl hh
   cases h;have hb:=dec (hc (decide (0≤l∧l≤(s.data.toList.length:Int))) (by simp));have:=fin l.toNat s.data.toList.length (by omega) (Nat.le_refl _) (by
    simp only[Instr.sliceBounds,hlo hl,hhi0 hh,Sem.run_bind,Sem.run_pure,Result.andThen_ok,hsz];rw[gL hb.1 hb.2];rfl)
   refine dF H hK this ?_ rfl;simp only[List.take_length];exact aV.lit _
  ·rename_i k h' hl hh
   cases h;have hb:=dec (hc (decide (0≤h'∧h'≤(s.data.toList.length:Int))) (by simp));have:=fin 0 h'.toNat (Nat.zero_le _) (by omega) (by
    simp only[Instr.sliceBounds,hlo0 hl,hhi hh,Sem.run_bind,Sem.run_pure,Result.andThen_ok,hsz];rw[gL hb.1 hb.2];rfl)
   refine dF H hK this ?_ rfl;exact aV.lit _
  ·rename_i k l k' h' hl hh
   cases h;have hb:=dec (hc (decide (0≤l∧l≤h'∧h'≤(s.data.toList.length:Int))) (by simp));have:=fin l.toNat h'.toNat (by omega) (by omega) (by
    simp only[Instr.sliceBounds,hlo hl,hhi hh,Sem.run_bind,Sem.run_pure,Result.andThen_ok,hsz];rw[gL (by omega) hb.2.2];simp only[Result.andThen_ok];rw[gL hb.1 (by omega)];rfl)
   exact dF H hK this (aV.lit _) rfl
  ·cases h
 ·
  rename_i e b n sz hu hxe;rw[hxe]at hx
  split at h
  ·rename_i p k h' hp hl hh
   cases h;have hb:=dec (hc (decide (0≤h'∧h'≤(n:Int))) (by simp));have fin: ∀(ad:Option Addr) (cap:Nat),a.eval x= .slice ad n cap→n≤cap→(ad=none∨ ∃β,ad=some ⟨β,0,none⟩)→(execOp a.eval o).run P w= .ok (.value (.slice ad h'.toNat cap)) w:=by
    intro ad cap oh hn had
    apply FC
    simp only[Instr.sliceAt,Sem.run_bind,run_underlying hu,Result.andThen_ok,Instr.slice,oh,Instr.sliceBounds,hlo0 hl,hhi hh,Sem.run_pure,if_true];rw[gL (y:=cap) hb.1 (by omega)];simp only[Result.andThen_ok,Sem.run_pure,fC hp,Nat.sub_zero];rcases had with rfl|⟨β,rfl⟩
    ·simp
    ·by_cases hc0:cap=0
     ·simp[hc0]
     ·simp[hc0,iL]
   generalize oh:a.eval x=vx at hx;cases hx with
   | fK _ _ _ cap β hβ hn hm hcc=>
     exact dF H hK (fin _ cap oh hn (.inr ⟨β,rfl⟩)) (.fK b h'.toNat sz cap β hβ (by omega) hm hcc) rfl
   | tu=>
     have:=fin none 0 oh (Nat.le_refl _) (.inl rfl);have hz:h'.toNat=0:=by omega
     rw[hz]at this;refine dF H hK this ?_ rfl;simp only[hz];exact .tu b sz
  ·rename_i p k l hp hl hh
   cases hps:beq p sz with
   | false=>simp[hps]at h
   | true=>
     obtain rfl:p=sz:=by simpa using hps
     cases hln:beq l.toNat n with
     | true=>
       simp only[hps,hln,cond_true,fu]at h;subst h;have hb:=dec (hc (decide (0≤l)) (by simp));have hl':l.toNat=n:=by simpa using hln
       have key: ∀(ad:Option Addr) (cap:Nat),a.eval x= .slice ad n cap→ ∃v,(execOp a.eval o).run P w= .ok (.value v) w:=λad cap oh=>by
        refine⟨.slice (if cap=l.toNat then ad else ad.map (·.add (l.toNat*p))) (n-l.toNat) (cap-l.toNat),?_⟩
        apply FC
        simp only[Instr.sliceAt,Sem.run_bind,run_underlying hu,Result.andThen_ok,Instr.slice,oh,Instr.sliceBounds,hlo hl,hhi0 hh,Sem.run_pure];rw[gL (y:=n) hb (by omega)];simp only[Result.andThen_ok,Sem.run_pure,fC hp]
       generalize oh:a.eval x=vx at hx;cases hx with
       | tu=>
         obtain⟨v,hv⟩:=key _ _ oh;exact dF H hK hv (.any v) rfl
       | fK _ _ _ cap β hβ hn hm hcc=>
         obtain⟨v,hv⟩:=key _ _ oh;exact dF H hK hv (.any v) rfl
     | false=>
     simp only[hps,hln,cond_true,cond_false,fu]at h;subst h;have hb:=dec (hc (decide (0≤l∧l<(n:Int))) (by simp));generalize oh:a.eval x=vx at hx;cases hx with
     | tu=>omega
     | fK _ _ _ cap β hβ hn hm hcc=>
       have hcl:cap≠l.toNat:=by omega
       have hrun:(execOp a.eval o).run P w= .ok (.value (.slice (some ⟨β,l.toNat*p,none⟩) (n-l.toNat) (cap-l.toNat))) w:=by
        apply FC
        simp only[Instr.sliceAt,Sem.run_bind,run_underlying hu,Result.andThen_ok,Instr.slice,oh,Instr.sliceBounds,hlo hl,hhi0 hh,Sem.run_pure];rw[gL (y:=n) hb.1 (by omega)];simp only[Result.andThen_ok,Sem.run_pure,fC hp];simp[hcl,iL]
       obtain⟨Cc,tt,fz,hcell,hsize⟩:=hcc;refine dF H hK hrun (.H9 b l.toNat (n-l.toNat) p (cap-l.toNat) β hβ (by omega) (by omega) ⟨Cc,tt,fz,hcell,?_⟩) rfl;rw[hsize,show l.toNat+(n-l.toNat)=n by omega];exact Nat.mul_le_mul_right _ hn
  ·cases h
 ·
  rename_i e n sz el hu hxe;rw[hxe]at hx
  split at h
  ·rename_i p hp
   cases hps:beq p sz with
   | false=>simp[hps]at h
   | true=>
     simp only[hps,cond_true]at h;obtain rfl:p=sz:=by simpa using hps
     have shift: ∀(ad:Option Addr) (cap l m:Nat),jd (aU C.A0 B S.mem) w (.sl n p el) (.slice ad n cap)→l+m≤n→ ∀(ad':Option Addr),ad'=(if cap=l then ad else ad.map (·.add (l*p)))→
       jd (aU C.A0 B S.mem) w (.sl m p λk=>el (k+l)) (.slice ad' m (cap-l)):=by
      intro ad cap l m hr hlm ad' had;cases hr with
      | nil=>
        obtain⟨rfl,rfl⟩:l=0∧m=0:=by omega
        simp at had;subst had;exact .nil _ _
      | zero=>
        obtain⟨rfl,rfl⟩:l=0∧m=0:=by omega
        simp at had;subst had;exact .zero _ _ _
      | sl _ _ _ b off _ hA hbw hn hl hs hh=>
        by_cases hcl:cap=l
        ·have hm0:m=0:=by omega
         subst hm0;rw[if_pos hcl]at had;subst had;exact .sl 0 p _ b off _ hA hbw (Nat.zero_le _) (λk hk=>by omega) (λk j hk=>by omega) (λk j hk=>by omega)
        ·rw[if_neg hcl]at had
         simp only[Option.map_some,iL]at had;subst had;refine .sl m p _ b (off+l*p) _ hA hbw (by omega) (λk hk=>hl _ (by omega)) (λk j hk hj=> ?_) (λk j hk hj=> ?_)
         ·have:=hs (k+l) j (by omega) hj
          rw[show off+l*p+(k*p+j)=off+((k+l)*p+j)by rw[Nat.add_mul];omega];exact this
         ·have:=hh (k+l) j (by omega) hj
          rw[show off+l*p+(k*p+j)=off+((k+l)*p+j)by rw[Nat.add_mul];omega];exact this
     have form: ∃ad cap,a.eval x= .slice ad n cap∧n≤cap∧jd (aU C.A0 B S.mem) w (.sl n p el) (.slice ad n cap):=by
      generalize a.eval x=vx at hx;cases hx with
      | c _ _ hi=>
        cases hi with
        | nil=>exact⟨none,0,rfl,Nat.le_refl _,.nil _ _⟩
        | zero=>exact⟨_,0,rfl,Nat.le_refl _,.zero _ _ _⟩
        | sl _ _ _ b off cap hA hb hn hl hs hh=>exact⟨_,cap,rfl,hn,.sl _ _ _ b off cap hA hb hn hl hs hh⟩
     obtain⟨ad,cap,oh,hn,hir⟩:=form
     have fin: ∀l m:Nat,l+m≤n→(Instr.sliceBounds true n cap (lo.map a.eval) (hi.map a.eval) none).run P w= .ok (l,l+m,cap) w→
       (execOp a.eval o).run P w= .ok (.value (.slice (if cap=l then ad else ad.map (·.add (l*p))) m (cap-l))) w:=by
      intro l m hlm hb
      apply FC
      simp only[Instr.sliceAt,Sem.run_bind,run_underlying hu,Result.andThen_ok,Instr.slice,oh,hb,fC hp,Sem.run_pure];rw[show l+m-l=m by omega]
     split at h
     ·rename_i k h' hl hh
      cases h;have hb:=dec (hc (decide (0≤h'∧h'≤(n:Int))) (by simp));have:=fin 0 h'.toNat (by omega) (by
       simp only[Instr.sliceBounds,hlo0 hl,hhi hh,Sem.run_bind,Sem.run_pure,Result.andThen_ok,if_true];rw[gL hb.1 (by omega)];simp)
      exact dF H hK this (.c _ _ (shift ad cap 0 h'.toNat hir (by omega) _ rfl)) rfl
     ·rename_i k l hl hh
      cases h;have hb:=dec (hc (decide (0≤l∧l≤(n:Int))) (by simp));have:=fin l.toNat (n-l.toNat) (by omega) (by
       simp only[Instr.sliceBounds,hlo hl,hhi0 hh,Sem.run_bind,Sem.run_pure,Result.andThen_ok];rw[gL hb.1 hb.2];simp only[Result.andThen_ok];rw[show l.toNat+(n-l.toNat)=n by omega])
      exact dF H hK this (.c _ _ (shift ad cap l.toNat _ hir (by omega) _ rfl)) rfl
     ·rename_i k l k' h' hl hh
      cases h;have hb:=dec (hc (decide (0≤l∧l≤h'∧h'≤(n:Int))) (by simp));have:=fin l.toNat (h'.toNat-l.toNat) (by omega) (by
       simp only[Instr.sliceBounds,hlo hl,hhi hh,Sem.run_bind,Sem.run_pure,Result.andThen_ok,if_true];rw[gL (by omega) (by omega)];simp only[Result.andThen_ok];rw[gL hb.1 (by omega)];simp only[Result.andThen_ok];rw[show l.toNat+(h'.toNat-l.toNat)=h'.toNat by omega])
      exact dF H hK this (.c _ _ (shift ad cap l.toNat _ hir (by omega) _ rfl)) rfl
     ·cases h
  ·cases h
 ·
  rename_i e hu hxe;rw[hxe]at hx;have hxv:=hx.plain
  split at h
  ·rename_i _ _ _ _ k h' hp hl hh
   cases h;have hb:=dec (hc (decide (0≤h'∧h'≤0)) (by simp));obtain rfl:h'=0:=by omega
   refine dF H hK (v:= .slice none 0 0) (FC _ _ ?_) (aV.lit _) rfl;simp only[Instr.sliceAt,Sem.run_bind,run_underlying hu,Result.andThen_ok,Instr.slice,hxv,Instr.sliceBounds,hlo0 hl,hhi hh,Sem.run_pure,if_true];rw[gL (y:=0) (by omega) (by omega)];simp[fC hp]
  ·cases h
 ·
  rename_i n e b sz hu hxe;rw[hxe]at hx
  split at h
  ·rename_i p n' sz' el ty k h' hp hm hl hh
   cases hb0:(beq sz p&&beq sz' p&&beq n n'&& !beq n 0)with
   | false=>rw[hb0]at h;cases h
   | true=>
     rw[hb0]at h;simp only[cond_true,fu]at h;subst h;simp only[bI,Nat.beq_eq,Bool.not_eq_true']at hb0;obtain⟨⟨⟨rfl,rfl⟩,rfl⟩,hn0⟩:=hb0;have hne:n≠0:=by rintro rfl;cases hn0
     have hb:=dec (hc (decide (0≤h'∧h'≤(n:Int))) (by simp));generalize oh:a.eval x=vx at hx;cases hx with
     | jr _ _ _ _ β hβ=>
       rcases H.mem b _ hm with⟨γ,hγ,hent⟩|⟨hno,_⟩
       ·rw[hβ]at hγ
        cases hγ;obtain⟨cs,hcs,hsz,hsl⟩:=Gz hent;have hd:=H.drop b;have hA: ∀i,i<w.heap.size→aU C.A0 B (S.mem.set b none) i→aU C.A0 B S.mem i:=by
         intro i _ h;rcases h with h|⟨j,e2,h1,h2⟩
         ·exact .inl h
         ·rw[bF]at h1
          by_cases hj:j=b
          ·simp[hj]at h1
          ·simp only[hj,if_false]at h1;exact .inr ⟨j,e2,h1,h2⟩
        have hnot: ¬aU C.A0 B (S.mem.set b none) β:=by
         rintro(h|⟨j,e2,h1,h2⟩)
         ·rcases(H.old b β hβ).1 with h3|h3
          ·exact absurd (hC.a0 β h) (Nat.not_lt.2 h3)
          ·exact hC.Il β h h3
         ·rw[bF]at h1
          by_cases hj:j=b
          ·simp[hj]at h1
          ·simp only[hj,if_false]at h1
           exact hj (H.inj j b _ _ β h1 hm h2 hβ)
        refine jU hK (B':=B) (v:= .slice (some ⟨β,0*sz'+0,none⟩) h'.toNat n) (w':=w) ?_ hd ?_ (λ_ _=>rfl)
        ·apply FC
         simp only[Instr.sliceAt,Sem.run_bind,run_underlying hu,Result.andThen_ok,oh,Instr.sureAddr,Sem.run_pure,Instr.sliceBounds,hlo0 hl,hhi hh];rw[gL (y:=n) hb.1 (by omega)];simp[fC hp,hne,iL]
        ·rcases hsl h'.toNat (by omega)with⟨b',off',he,hbw,hl2,hall⟩
         ·simp only[fu,Addr.mk.injEq,and_true]at he
          obtain⟨rfl,rfl⟩:=he;refine .c _ _ (.sl _ _ _ β (0*sz'+0) n hnot (lt_of_heap hcs) (by omega) hl2 (λk j hk hj=> ?_) (λk j hk hj=> ?_))
          ·have:=hall k j hk hj
           simp only[Nat.zero_mul,Nat.zero_add]at this⊢;exact⟨this.1,this.2.1⟩
          ·have:=(hall k j hk hj).2.2.trans (Trans.refl _ _) hA
           simp only[Nat.zero_mul,Nat.zero_add]at this⊢;exact this
       ·rw[hβ]at hno;cases hno
  ·cases h
 ·
  rename_i n e b hu hxe;rw[hxe]at hx;obtain⟨β,hβ,oh⟩:=hx.lV
  split at h
  ·rename_i p l ty k h' hp hm hl hh
   split at h
   ·rename_i c hcm
    cases hb0:(beq l.length (n*p)&& !beq n 0&&l.all gU)with
    | false=>rw[hb0]at h;cases h
    | true=>
      rw[hb0]at h;simp only[cond_true,fu]at h;subst h;simp only[bI,Nat.beq_eq,Bool.not_eq_true']at hb0;obtain⟨⟨hlen,hn0⟩,hok⟩:=hb0;have hne:n≠0:=by rintro rfl;cases hn0
      have hb:=dec (hc (decide (0≤h'∧h'≤(n:Int))) (by simp));rcases H.mem b _ hm with⟨γ,hγ,hent⟩|⟨_,hno⟩
      ·rw[hβ]at hγ
       cases hγ;have hd:=H.drop b;have hA: ∀i,i<w.heap.size→aU C.A0 B (S.mem.set b none) i→aU C.A0 B S.mem i:=by
        intro i _ h;rcases h with h|⟨j,e2,h1,h2⟩
        ·exact .inl h
        ·rw[bF]at h1
         by_cases hj:j=b
         ·simp[hj]at h1
         ·simp only[hj,if_false]at h1;exact .inr ⟨j,e2,h1,h2⟩
       have hnot: ¬aU C.A0 B (S.mem.set b none) β:=by
        rintro(h|⟨j,e2,h1,h2⟩)
        ·rcases(H.old b β hβ).1 with h3|h3
         ·exact absurd (hC.a0 β h) (Nat.not_lt.2 h3)
         ·exact hC.Il β h h3
        ·rw[bF]at h1
         by_cases hj:j=b
         ·simp[hj]at h1
         ·simp only[hj,if_false]at h1
          exact hj (H.inj j b _ _ β h1 hm h2 hβ)
       generalize xR:w.heap[β]? =ob at hent;cases hent with
       | cells _ _ cs hcs o9=>
         have hr:dN (aU C.A0 B S.mem) B w l cs.toList:=⟨by simpa using hcs,λj hj=>by simpa[nS,dJ]using o9 j hj⟩
         have h1:=q9 hr hok;rw[pJ hcm]at hr;obtain⟨hcl,hcr⟩:=xZ hr;have hcn:c.length=n*p:=by
          have:=hlen;rw[pJ hcm]at this;simpa[PU]using this
         have hcsz:cs.size=n*p:=by simpa[hcn]using hcl
         refine jU hK (B':=B) (v:= .slice (some ⟨β,0,none⟩) h'.toNat n) (w':=w) ?_ hd ?_ (λ_ _=>rfl)
         ·apply FC
          simp only[Instr.sliceAt,Sem.run_bind,run_underlying hu,Result.andThen_ok,oh,Instr.sureAddr,Sem.run_pure,Instr.sliceBounds,hlo0 hl,hhi hh];rw[gL (y:=n) hb.1 (by omega)];simp[fC hp,hne,iL]
         ·refine .c _ _ (.sl _ _ _ β 0 n hnot (lt_of_heap xR) (by omega) (λk hk=> ?_) (λk j hk hj=> ?_) (λk j hk hj=> ?_))
          ·have:k*p+p≤n*p:=by
            calc k*p+p=(k+1)*p:=by rw[Nat.add_mul,Nat.one_mul]
             _≤n*p:=Nat.mul_le_mul_right _ (by omega)
           simp;omega
          ·have hlt:k*p+j<n*p:=iQ (by omega) hj
           rw[Nat.zero_add,Ei xR];refine⟨P8 xR (by omega),h1 _ ?_⟩;rw[nS,Array.getElem?_eq_getElem (show k*p+j<cs.size by omega)];simp
          ·have hlt:k*p+j<n*p:=iQ (by omega) hj
           have:=(hcr (k*p+j) (by omega)).trans (Trans.refl _ _) hA;rw[Nat.zero_add,Ei xR];have e1:((c.drop (k*p)).take p).getD j (.v undef)=c.getD (k*p+j) (.v undef):=by
            simp[dJ,List.getElem?_take,hj,List.getElem?_drop]
           rw[e1];have e2:cs.toList.getD (k*p+j) undef=cs.getD (k*p+j) undef:=by simp[nS,dJ]
           rw[e2]at this;exact this
      ·exact hno.elim
   ·cases h
  ·cases h
 ·cases h
end
end Go.bA
namespace Go.bA
open Go.RowKit
section
variable{P:Program}{C:Ctx}{B:dI}{S:St}{a:Act}{w:World}{o:Oper}{r:Eff}{slot:Nat}
 {K:Act→World→Prop} {Q:Exit→Act→World→Prop}
structure aaQ (P:Program) (w:World) (u:TypeId) (size:Nat) (x:Value) (m:Nat) (news:List Value):Prop where
 ty: ∃d,P.underlying u=some d∧(∀k,d≠ .int k)
 len:(Builtin.lenOf x).run P w= .ok m w
 first:(Builtin.firstCells size m x).run P w= .ok news.toArray w
 first':(Builtin.firstCells size m x).run P w.drew= .ok news.toArray w.drew
 size:news.length=m*size
structure asf (P:Program) (w:World) (u e:TypeId) (i:TypeInfo) (x:Value) (m:Nat) (news:List Value):Prop where
 ty: ∃k,P.underlying u=some (.int k)
 val: ∃k n,x= .int k n∧0≤n∧n≤9223372036854775807∧n.toNat=m
 fits:m*i.bytes≤140737488355328
 zero: ∃z,i.zero=some z∧news=(Builtin.zeroCells z.cells m).toList∧z.cells.size=i.size
 size:news.length=m*i.size
def Ls(P:Program)(w:World)(u e:TypeId)(i:TypeInfo)(x:Value)(m:Nat)(news:List Value):Prop:=aaQ P w u i.size x m news∨asf P w u e i x m news
theorem TD{d:TypeDesc}(hd: ∀k,d≠ .int k):(match d with | .int _=>true | _=>false)=false:=by
 cases d<;>first|rfl|exact absurd rfl (hd _)
section
variable{t u ty e:TypeId}{i:TypeInfo}{z:Value}{x:Value}{m:Nat}{news:List Value}
theorem TF{n:Int}(h0:0≤n)(h1:n≤9223372036854775807):i64.wrap n=n:=by
 unfold IntKind.wrap;simp[IntKind.signed,IntKind.bits];omega
theorem rM(k:IntKind)(n:Int):(asInt (.int k n)).run P w= .ok n w:=by simp[asInt,asIntOf]
theorem Ls.size(hs:Ls P w u e i x m news):news.length=m*i.size:=by
 rcases hs with h|h
 ·exact h.size
 ·exact h.size
theorem Gi(ht:P.underlying t=some (.slice e))(hi:P.info? e=some i)(hs:Ls P w u e i x m news)(hm:m=0){ad:Option Addr}{n cap:Nat}(hn:n≤cap)
  (had:ad=none∨ ∃g:Nat,ad=some ⟨g,0,none⟩):
  (Builtin.append_ #[t,u] ty #[.slice ad n cap,x]).run P w= .ok (.slice ad n cap) w:=by
 subst hm;rcases hs with hs|hs
 ·obtain⟨d,hu,hd⟩:=hs.ty
  have hz:=TD hd;have hne:news=[]:=List.eq_nil_of_length_eq_zero (by simpa using hs.size);have hf:=hs.first;rw[hne]at hf;rcases had with rfl|⟨g,rfl⟩
  ·simp[Builtin.append_,run_underlying ht,run_underlying hu,sizeOf,typeInfo,hi,hz,hs.len,hn,hf]
  ·simp[Builtin.append_,run_underlying ht,run_underlying hu,sizeOf,typeInfo,hi,hz,hs.len,hn,hf,storeCells]
 ·obtain⟨k,hu⟩:=hs.ty
  obtain⟨k',n',rfl,h0,h1,h2⟩:=hs.val;have hw:=TF h0 h1;obtain rfl:n'=0:=by omega
  rcases had with rfl|⟨g,rfl⟩
  ·simp[Builtin.append_,run_underlying ht,run_underlying hu,sizeOf,typeInfo,hi,rM,hw,hn]
  ·simp[Builtin.append_,run_underlying ht,run_underlying hu,sizeOf,typeInfo,hi,rM,hw,hn,storeCells]
theorem KI(ht:P.underlying t=some (.slice e))(hi:P.info? e=some i)(hs:Ls P w u e i x m news){g n cap:Nat}{cur:Array Value}(hg:w.heap[g]? =some (.cells cur e (0,0)))
  (h1: ∀v∈news,v.oneCell'=true) (hroom:n+m≤cap) (hfit:n*i.size+news.length≤cur.size):
  (Builtin.append_ #[t,u] ty #[.slice (some ⟨g,0,none⟩) n cap,x]).run P w=
   .ok (.slice (some ⟨g,0,none⟩) (n+m) cap) (w.setRow g (cur.toList.take (n*i.size)++news++cur.toList.drop (n*i.size+news.length)).toArray):=by
 have hst:=run_storeCells_at P g (n*i.size) e news 0 cur w hg (by simpa using hfit) h1;simp only[Nat.add_zero]at hst;rcases hs with hs|hs
 ·obtain⟨d,hu,hd⟩:=hs.ty
  have hz:=TD hd;simp[Builtin.append_,run_underlying ht,run_underlying hu,sizeOf,typeInfo,hi,hz,hs.len,hroom,hs.first,Addr.add_lit,hst]
 ·obtain⟨k,hu⟩:=hs.ty
  obtain⟨k',n',rfl,h0,h1,h2⟩:=hs.val;obtain⟨z,hz0,hz1,hz2⟩:=hs.zero;have hw:=TF h0 h1;have hfits:=hs.fits;have hn0: ¬(n'<0):=by omega
  have hb: ¬(281474976710656<n'*(i.bytes:Int)):=by
   have:n'=(m:Int):=by omega
   rw[this];omega
  by_cases hmz:m*i.size=0
  ·have hne:news=[]:=List.eq_nil_of_length_eq_zero (by rw[hs.size];exact hmz)
   rw[hne]at hst⊢;simp[Builtin.append_,run_underlying ht,run_underlying hu,sizeOf,typeInfo,hi,rM,hw,hn0,hb,h2,hroom,hmz,Addr.add_lit,hst]
  ·simp[Builtin.append_,run_underlying ht,run_underlying hu,sizeOf,typeInfo,hi,rM,hw,hn0,hb,h2,hroom,hmz,zeroValue,hz0,Addr.add_lit, ←hz1,hst]
theorem Iu(ht:P.underlying t=some (.slice e))(hi:P.info? e=some i)(hz0:i.zero=some z)(hs:Ls P w u e i x m news){ad:Option Addr}{n cap:Nat}{olds:List Value}
  (hold:(Builtin.firstCells i.size n (.slice ad n cap)).run P w.drew= .ok olds.toArray w.drew) (hg:cap<n+m) (h63:n+m≤9223372036854775807) (hb:(n+m)*i.bytes≤140737488355328):
  (Builtin.append_ #[t,u] ty #[.slice ad n cap,x]).run P w=
   .ok (.slice (some ⟨w.heap.size,0,none⟩) (n+m) (grownCap w (n+m) cap e))
    (w.drew.alloc (.cells (olds.toArray++news.toArray++Builtin.zeroCells z.cells (grownCap w (n+m) cap e-(n+m))) e)):=by
 have hn: ¬(n+m≤cap):=by omega
 have h63': ¬(9223372036854775807<((n:Int)+(m:Int))):=by omega
 have h48': ¬(281474976710656<Builtin.nextslicecap (n+m) cap*i.bytes):=by have:=growslice_fits hg hb;omega
 have h0: ¬((n:Int)+(m:Int)>9223372036854775807):=by omega
 rcases hs with hs|hs
 ·obtain⟨d,hu,hd⟩:=hs.ty
  have hz:=TD hd;simp[Builtin.append_,run_underlying ht,run_underlying hu,sizeOf,typeInfo,zeroValue,hi,hz0,hz,hs.len,hn,h63',h48',Question.forced,hs.first',hold,newRow,grownCap]
  congr 2
  apply Array.ext'
  simp[List.append_assoc]
 ·obtain⟨k,hu⟩:=hs.ty
  obtain⟨k',n',rfl,h0',h1,h2⟩:=hs.val;obtain⟨z',hz0',hz1,hz2⟩:=hs.zero;rw[hz0]at hz0';cases hz0';have hw:=TF h0' h1;have hfits:=hs.fits;have hn0: ¬(n'<0):=by omega
  have hbb: ¬(281474976710656<n'*(i.bytes:Int)):=by
   have:n'=(m:Int):=by omega
   rw[this];omega
  have hmx: ¬(9223372036854775807<((n:Int)+max n' 0)):=by omega
  by_cases hmz:m*i.size=0
  ·have hne:news=[]:=List.eq_nil_of_length_eq_zero (by rw[hs.size];exact hmz)
   rw[hne];simp[Builtin.append_,run_underlying ht,run_underlying hu,sizeOf,typeInfo,zeroValue,hi,hz0,rM,hw,hn0,hbb,h2,hn,h63',hmx,h48',Question.forced,hmz,hold,newRow,grownCap]
  ·simp[Builtin.append_,run_underlying ht,run_underlying hu,sizeOf,typeInfo,zeroValue,hi,hz0,rM,hw,hn0,hbb,h2,hn,h63',hmx,h48',Question.forced,hmz,hold,newRow,grownCap,hz1]
end
def jy(A:Nat→Prop)(w:World)(n sz:Nat)(el:Nat→List IV)(xs:List Value):Prop:=
 xs.length=n*sz∧(∀k,k<n→(el k).length=sz)∧
  ∀k j,k<n→j<sz→(xs.getD (k*sz+j) undef).oneCell'=true∧jd A w ((el k).getD j (.v undef)) (xs.getD (k*sz+j) undef)
theorem jy.oneCell{A:Nat→Prop}{n sz:Nat}{el:Nat→List IV}{xs:List Value}(h:jy A w n sz el xs): ∀v∈xs,v.oneCell'=true:=by
 intro v hv;obtain⟨i,hi,rfl⟩:=List.mem_iff_getElem.1 hv;have hi':i<n*sz:=by rw[←h.1];exact hi
 have hsz:0<sz:=by rcases Nat.eq_zero_or_pos sz with h0|h0; · subst h0;simp at hi'
                   exact h0
 have:=(h.2.2 (i/sz) (i%sz) (Nat.div_lt_of_lt_mul (by rwa [Nat.mul_comm])) (Nat.mod_lt _ hsz)).1;rw[Nat.div_add_mod' i sz]at this;simpa[dJ,hi]using this
theorem o8.row{A:Nat→Prop}{n sz:Nat}{el:Nat→List IV}{ad:Option Addr}(h:o8 A w n sz el ad):jy A w n sz el (gD w n sz ad):=by
 refine⟨h.length,?_,?_⟩
 ·rcases h with rfl|⟨b,off,_,_,hl,_⟩
  ·intro k hk;omega
  ·exact hl
 ·intro k j hk hj
  rcases h with rfl|⟨b,off,rfl,_,hl,hh⟩
  ·omega
  ·have hlt:=iQ hk hj
   have e:(gD w n sz (some ⟨b,off,none⟩)).getD (k*sz+j) undef=jE w ⟨b,off+(k*sz+j),none⟩:=by
    simp[gD,dJ,hlt,iL]
   rw[e];exact(hh k j hk hj).2
theorem jy.join{A:Nat→Prop}{n m sz:Nat}{el iV:Nat→List IV}{xs ys:List Value}(h:jy A w n sz el xs)(k:jy A w m sz iV ys):jy A w (n+m) sz (dH n el iV) (xs++ys):=by
 refine⟨by rw[List.length_append,h.1,k.1,Nat.add_mul],λi hi=> ?_,λi j hi hj=> ?_⟩
 ·unfold dH
  split
  ·exact h.2.1 i ‹_›
  ·exact k.2.1 _ (by omega)
 ·unfold dH
  by_cases hin:i<n
  ·rw[if_pos hin]
   have hlt:i*sz+j<xs.length:=by rw[h.1];exact iQ hin hj
   have e:(xs++ys).getD (i*sz+j) undef=xs.getD (i*sz+j) undef:=by
    simp only[dJ,List.getElem?_append_left hlt]
   rw[e];exact h.2.2 i j hin hj
  ·rw[if_neg hin]
   have hge:xs.length≤i*sz+j:=by rw[h.1];have:=Nat.mul_le_mul_right sz (Nat.le_of_not_lt hin);omega
   have e:(xs++ys).getD (i*sz+j) undef=ys.getD ((i-n)*sz+j) undef:=by
    simp only[dJ,List.getElem?_append_right hge,h.1]
    congr 2
    rw[Nat.sub_mul];have:=Nat.mul_le_mul_right sz (Nat.le_of_not_lt hin);omega
   rw[e];exact k.2.2 _ j (by omega) hj
theorem jy.ent{A:Nat→Prop}{n sz:Nat}{el:Nat→List IV}{xs:List Value}(h:jy A w n sz el xs){cs:Array Value}(hcs:cs.toList.take (n*sz)=xs)(t:TypeId):
  fZ A B w (.arr n sz el t) (some (.cells cs t (0,0))):=by
 have hlen:n*sz≤cs.size:=by
  have:=h.1;rw[←hcs]at this;simp at this;omega
 refine .arr n sz el t cs hlen h.2.1 λk j hk hj=> ?_
 have hlt:=iQ hk hj;have e:cs.getD (k*sz+j) undef=xs.getD (k*sz+j) undef:=by
  rw[←hcs];simp[nS,dJ,List.getElem?_take,hlt]
 rw[e];exact h.2.2 k j hk hj
theorem jy.trans{A A':Nat→Prop}{w':World}(ht:Trans A w w')(hA: ∀b,b<w.heap.size→A' b→A b){n sz:Nat}{el:Nat→List IV}{xs:List Value}(h:jy A w n sz el xs):jy A' w' n sz el xs:=
 ⟨h.1,h.2.1,λk j hk hj=>⟨(h.2.2 k j hk hj).1,(h.2.2 k j hk hj).2.trans ht hA⟩⟩
theorem WT{A:Nat→Prop}{n k sz:Nat}{el:Nat→List IV}{t:TypeId}{cs:Array Value}(h:fZ A B w (.arr n sz el t) (some (.cells cs t (0,0))))(hk:k≤n):jy A w k sz el (cs.toList.take (k*sz)):=by
 cases h with
 | arr _ _ _ _ _ hs hl hh=>
   have hks:k*sz≤n*sz:=Nat.mul_le_mul_right _ hk;refine⟨by simp;omega,λi hi=>hl i (by omega),λi j hi hj=> ?_⟩;have hlt:=iQ hi hj;have e:(cs.toList.take (k*sz)).getD (i*sz+j) undef=cs.getD (i*sz+j) undef:=by
    simp[nS,dJ,List.getElem?_take,hlt]
   rw[e];exact hh i j (by omega) hj
theorem Qd(b:Nat): ∀i,aU C.A0 B (S.mem.set b none) i→aU C.A0 B S.mem i:=by
 intro i h;rcases h with h|⟨j,e2,h1,h2⟩
 ·exact .inl h
 ·rw[bF]at h1
  by_cases hj:j=b
  ·simp[hj]at h1
  ·simp only[hj,if_false]at h1;exact .inr ⟨j,e2,h1,h2⟩
theorem Holds.Ni(H:Holds C B S a w)(hs:B slot=none){e:gJ}(he:e.none0):Holds C B {S with mem:=S.mem.set slot (some e)} a w:=by
 have hA: ∀b,b<w.heap.size→aU C.A0 B (S.mem.set slot (some e)) b→aU C.A0 B S.mem b:=by
  intro b _ h;rcases h with h|⟨j,e2,h1,h2⟩
  ·exact .inl h
  ·rw[bF]at h1
   by_cases hj:j=slot
   ·subst hj;rw[hs]at h2;cases h2
   ·simp only[hj,if_false]at h1;exact .inr ⟨j,e2,h1,h2⟩
 refine{defers:=H.defers,size:=H.size,tm:=λt h=>(H.tm t h).trans (Trans.refl _ _) hA (λ_ _ h=>h),mem:=?_,inj:=?_,kept:=H.kept,old:=H.old,fresh:=H.fresh,base:=H.base,sW:=H.sW}
 ·intro j e' hj
  simp only[bF]at hj;by_cases hjs:j=slot
  ·subst hjs
   simp only[if_true,fu]at hj;subst hj;exact .inr ⟨hs,he⟩
  ·simp only[hjs,if_false]at hj
   rcases H.mem j e' hj with⟨β,h1,h3⟩|h
   ·exact .inl ⟨β,h1,h3.trans (Trans.refl _ _) hA (λ_ _ h=>h)⟩
   ·exact .inr h
 ·intro j j' e1 e2 β m1 m2 h1 h2
  simp only[bF]at m1 m2;by_cases hj:j=slot
  ·subst hj;rw[hs]at h1;cases h1
  ·by_cases hj':j'=slot
   ·subst hj';rw[hs]at h2;cases h2
   ·simp only[hj,hj',if_false]at m1 m2;exact H.inj j j' e1 e2 β m1 m2 h1 h2
theorem Holds.rename(H:Holds C B S a w){b β:Nat}{e:gJ}(hm:S.mem b=some e)(hβ:B b=some β)(hs:B slot=none)(hnx:Between C S slot):
  Holds C (gT B slot β) {S with mem:=(S.mem.set b none).set slot (some e)} a w:=by
 have hbs:slot≠b:=by rintro rfl;rw[hs]at hβ;cases hβ
 have hB: ∀j γ,B j=some γ→gT B slot β j=some γ:=by
  intro j γ hj;unfold gT
  split
  ·rename_i h;subst h;rw[hs]at hj;cases hj
  ·exact hj
 have hA: ∀i,i<w.heap.size→aU C.A0 (gT B slot β) ((S.mem.set b none).set slot (some e)) i→aU C.A0 B S.mem i:=by
  intro i _ h;rcases h with h|⟨j,e2,h1,h2⟩
  ·exact .inl h
  ·rw[bF]at h1
   unfold gT at h2;by_cases hj:j=slot
   ·simp only[hj,if_true,fu]at h2
    subst h2;exact .inr ⟨b,e,hm,hβ⟩
   ·simp only[hj,if_false]at h1 h2
    rw[bF]at h1;by_cases hj2:j=b
    ·simp[hj2]at h1
    ·simp only[hj2,if_false]at h1;exact .inr ⟨j,e2,h1,h2⟩
 have live: ∀j e2,((S.mem.set b none).set slot (some e)) j=some e2→(j=slot∧e2=e)∨(j≠slot∧j≠b∧S.mem j=some e2):=by
  intro j e2 hj;rw[bF]at hj;by_cases h1:j=slot
  ·simp only[h1,if_true,fu]at hj;exact .inl ⟨h1,hj.symm⟩
  ·simp only[h1,if_false]at hj
   rw[bF]at hj;by_cases h2:j=b
   ·simp[h2]at hj
   ·simp only[h2,if_false]at hj;exact .inr ⟨h1,h2,hj⟩
 refine{defers:=H.defers,size:=H.size,tm:=λt h=>(H.tm t h).trans (Trans.refl _ _) hA hB,mem:=?_,inj:=?_,kept:=H.kept,old:=?_,fresh:=?_,base:=?_,sW:=H.sW}
 ·intro j e' hj
  rcases live j e' hj with⟨rfl,rfl⟩|⟨h1,h2,h3⟩
  ·rcases H.mem b _ hm with⟨γ,hγ,hent⟩|⟨hno,_⟩
   ·rw[hβ]at hγ
    cases hγ;exact .inl ⟨β,by simp[gT],hent.trans (Trans.refl _ _) hA hB⟩
   ·rw[hβ]at hno;cases hno
  ·rcases H.mem j e' h3 with⟨γ,hγ,hent⟩|⟨hno,hn⟩
   ·exact .inl ⟨γ,hB _ _ hγ,hent.trans (Trans.refl _ _) hA hB⟩
   ·exact .inr ⟨by simp[gT,h1,hno],hn⟩
 ·intro j j' e1 e2 γ m1 m2 h1 h2
  rcases live j e1 m1 with⟨rfl,rfl⟩|⟨a1,a2,a3⟩<;>rcases live j' e2 m2 with⟨rfl,rfl⟩|⟨b1,b2,b3⟩
  ·rfl
  ·simp only[gT,if_true,fu]at h1
   subst h1;simp only[gT,b1,if_false]at h2;exact absurd (H.inj j' b _ _ β b3 hm h2 hβ) b2
  ·simp only[gT,if_true,fu]at h2
   subst h2;simp only[gT,a1,if_false]at h1;exact absurd (H.inj j b _ _ β a3 hm h1 hβ) a2
  ·simp only[gT,a1,if_false]at h1
   simp only[gT,b1,if_false]at h2;exact H.inj j j' _ _ γ a3 b3 h1 h2
 ·intro j γ h
  unfold gT at h;by_cases hj:j=slot
  ·simp only[hj,if_true,fu]at h;subst h;exact H.old b _ hβ
  ·simp only[hj,if_false]at h;exact H.old j γ h
 ·intro j hj
  have:j≠slot:=by rintro rfl;exact absurd hj (Nat.not_le.2 hnx.2)
  simp only[gT,this,if_false];exact H.fresh j hj
 ·intro j hj
  have:j≠slot:=by rintro rfl;exact absurd hj (Nat.not_lt.2 hnx.1)
  simp only[gT,this,if_false];exact H.base j hj
end
end Go.bA
namespace Go.bA
open Go.RowKit
section
variable{P:Program}{C:Ctx}{B:dI}{S:St}{a:Act}{w:World}{o:Oper}{r:Eff}{slot:Nat}
 {K:Act→World→Prop} {Q:Exit→Act→World→Prop}
theorem aaR{A:Nat→Prop}{u e:TypeId}(hu:P.underlying u=some (.slice e)){size k cap:Nat}{el:Nat→List IV}{ad:Option Addr}(h:o8 A w k size el ad):
  aaQ P w u size (.slice ad k cap) k (gD w k size ad):=by
 refine⟨⟨_,hu,λk h=>by cases h⟩,by simp[Builtin.lenOf],?_,?_,h.length⟩
 ·cases ad with
  | none=>simp[Builtin.firstCells,gD]
  | some ad=>exact run_firstCells_some (P:=P) w size k ad k cap _ h.length h.news.1
 ·cases ad with
  | none=>simp[Builtin.firstCells,gD]
  | some ad=>exact run_firstCells_some (P:=P) w.drew size k ad k cap _ h.length h.news.1
theorem o8.zero{A:Nat→Prop}{sz sz':Nat}{el:Nat→List IV}{ad:Option Addr}(h:o8 A w 0 sz el ad):o8 A w 0 sz' el ad:=by
 rcases h with _|⟨b,off,rfl,hb,_,_⟩
 ·exact .inl rfl
 ·exact .inr ⟨b,off,rfl,hb,λk hk=>by omega,λk j hk=>by omega⟩
theorem Iw(z:Array Value)(m k j:Nat)(hk:k<m)(hj:j<z.size):(Builtin.zeroCells z m).toList.getD (k*z.size+j) undef=z.toList.getD j undef:=by
 have hlt:k*z.size+j<m*z.size:=iQ hk hj;have hm:(k*z.size+j)%z.size=j:=by rw[Nat.mul_comm,Nat.mul_add_mod,Nat.mod_eq_of_lt hj]
 simp[Builtin.zeroCells,dJ,hlt,hm,hj]
theorem alp{t u e p D7:Nat}{i:TypeInfo}(hti:P.info? e=some i)(his:i.size=p)(hib:i.bytes=D7){ya:AV}{vy:Value}{k:Nat}{el:Nat→List IV}{cs:List Bool}{rs:List Nat}(ht:P.underlying t=some (.slice e))(H:Holds C B S a w)
  (h:D6 P S.mem t u e p D7 ya=some (k,el,cs,rs)) (hc: ∀p∈cs,p) (hy:aV (aU C.A0 B S.mem) B w ya vy):
  ∃news,Ls P w u e i vy k news∧jy (aU C.A0 B S.mem) w k p el news:=by
 unfold D6 at h;cases htu:beq t u with
 | true=>
   obtain rfl:t=u:=by simpa using htu
   simp only[htu,cond_true]at h
   split at h
   ·rename_i k' sz iV cs' rs' hv
    cases hsz:(beq sz p || beq k' 0)with
    | false=>rw[hsz]at h;cases h
    | true=>
      rw[hsz]at h;simp only[cond_true,fu,Prod.mk.injEq]at h;obtain⟨rfl,rfl,rfl,rfl⟩:=h;obtain⟨ad,cap,rfl,hn,hsl⟩:=wF H hy hv hc;have Ej:o8 (aU C.A0 B S.mem) w k' p iV ad:=by
       simp only[Bool.or_eq_true,Nat.beq_eq]at hsz;rcases hsz with rfl|rfl
       ·exact hsl
       ·exact hsl.zero
      exact⟨_,.inl (by rw[his];exact aaR ht Ej),Ej.row⟩
   ·cases h
 | false=>
   simp only[htu,cond_false]at h
   split at h
   ·rename_i s hu he
    cases hp:(beq p 1&&beq D7 1)with
    | false=>rw[hp]at h;cases h
    | true=>
      rw[hp]at h;simp only[cond_true,fu,Prod.mk.injEq]at h;obtain⟨rfl,rfl,rfl,rfl⟩:=h;simp only[bI,Nat.beq_eq]at hp;obtain⟨rfl,rfl⟩:=hp;obtain rfl:=hy.plain;have hsz:s.data.toList.length=s.size:=by simp
      refine⟨Lib.strCells s,.inl (his ▸ ⟨⟨_,hu,λk h=>by cases h⟩,by simp[Builtin.lenOf],by rw[hsz];exact Lib.run_firstCells_string w 1 s,by rw[hsz];exact Lib.run_firstCells_string w.drew 1 s,by rw[Lib.strCells_length];simp⟩),by rw[Lib.strCells_length];simp,λk _=>rfl,λk j hk hj=> ?_⟩
      ·obtain rfl:j=0:=by omega
       have hk':k<s.data.size:=by simpa using hk
       have e1:(Lib.strCells s).getD (k*1+0) undef= .int .u8 ((s.data.toList.getD k 0).toNat:Nat):=by
        simp only[Lib.strCells,dJ,Nat.mul_one,Nat.add_zero,List.getElem?_map,Array.getElem?_toList,Array.getElem?_eq_getElem hk',Option.map_some,Option.getD_some]
       rw[e1];exact⟨rfl,.v _⟩
   ·rename_i n hu
    split at h
    ·rename_i z hz
     cases hp:(beq z.cells.size p&&z.cells.toList.all (·.oneCell'))with
     | false=>rw[hp]at h;cases h
     | true=>
       rw[hp]at h;simp only[cond_true,fu,Prod.mk.injEq]at h;obtain⟨rfl,rfl,rfl,rfl⟩:=h;simp only[bI,Nat.beq_eq]at hp;obtain⟨hp,hall⟩:=hp;obtain rfl:=hy.plain;have h0:0≤n:=dec (hc (decide (0≤n)) (by simp));have h1:n≤9223372036854775807:=dec (hc (decide (n≤9223372036854775807)) (by simp));have h2:n.toNat*D7≤140737488355328:=dec (hc (decide (n.toNat*D7≤140737488355328)) (by simp));have hzi:i.zero=some z:=by
        unfold o7 at hz;rw[hti]at hz;simpa using hz
       have hlen:(Builtin.zeroCells z.cells n.toNat).toList.length=n.toNat*p:=by simp[Builtin.zeroCells,hp]
       refine⟨(Builtin.zeroCells z.cells n.toNat).toList,.inr ⟨⟨_,hu⟩,⟨_,_,rfl,h0,h1,rfl⟩,by rw[hib];exact h2,⟨z,hzi,rfl,by rw[his,hp]⟩,by rw[his,hlen]⟩,hlen,λk _=>by simp[hp],λk j hk hj=> ?_⟩;have hj':j<z.cells.size:=by rw[hp];exact hj
       have e1:=Iw z.cells n.toNat k j hk hj';rw[hp]at e1;rw[e1];have e2:(z.cells.toList.map IV.v).getD j (.v undef)= .v (z.cells.toList.getD j undef):=by
        simp[dJ,hj']
       rw[e2];refine⟨?_,.v _⟩;have hm:z.cells.toList.getD j undef∈z.cells.toList:=by
        rw[dJ,List.getElem?_eq_getElem (by simpa using hj')];exact List.getElem_mem _
       exact List.all_eq_true.1 hall _ hm
    ·cases h
   ·cases h
theorem Iy{v:Value}{w':World}(hrun:(execOp a.eval o).run P w= .ok (.value v) w')(hk:K (a.put o.dst v) w'):o.sZ P a w K Q:=by
 unfold Oper.sZ;rw[hrun];exact hk
theorem Qe(H:Holds C B S a w)(hC:C.Ok)(hs:B slot=none)(hnx:Between C S slot){c:Call}{zx zy:Operand}(hop:o.op= .call c)(hb:c.callee= .builtin .append){ts:List TypeId}(hts:c.argTypes.toList=ts)(hxs:c.args= #[zx,zy])
  (h:y5 P slot S.mem ts (bQ S.tm zx) (bQ S.tm zy)=some r) (hc: ∀p∈r.conds,p) (hK:Cont C B slot (S.apply o.dst r) K):o.sZ P a w K Q:=by
 have hx:=bG H zx;have hy:=bG H zy;unfold y5 at h
 split at h
 ·rename_i t u
  have hty:c.argTypes= #[t,u]:=Array.ext' (by simpa using hts);have yg: ∀v w',(Builtin.append_ #[t,u] o.type #[a.eval zx,a.eval zy]).run P w= .ok v w'→(execOp a.eval o).run P w= .ok (.value v) w':=by
   intro v w' hr;simp[execOp,hop,resolve,hb,hxs,hty,invoke,builtin,hr]
  split at h
  ·rename_i e ht
   split at h
   ·rename_i p D7 z hsz hby hz
    cases hzc:beq z.cells.size (p+1)with
    | false=>rw[hzc]at h;cases h
    | true=>
    rw[hzc]at h;simp only[cond_true]at h;have hzc:z.cells.size=p+1:=by simpa using hzc
    split at h
    ·rename_i n el c1 r1 k iV c2 r2 hdst hsrc
     cases h;have h63:n+k≤9223372036854775807:=dec (hc _ (by simp));have hbytes:(n+k)*D7≤140737488355328:=dec (hc _ (by simp));have hc1: ∀p∈c1,p:=λq hq=>hc q (by simp[hq])
     have hc2: ∀p∈c2,p:=λq hq=>hc q (by simp[hq])
     obtain⟨i,hi,hib,his,hiz⟩:=Ll hby hsz hz;have his:i.size=p+1:=his;obtain⟨news,hso,hrow⟩:=alp hi his hib ht H hsrc hc2 hy;subst hib
     have fresh: ∀(ad:Option Addr) (cap:Nat) (olds:List Value) (S2:St),a.eval zx= .slice ad n cap→cap<n+k→(Builtin.firstCells i.size n (.slice ad n cap)).run P w.drew= .ok olds.toArray w.drew→
       jy (aU C.A0 B S.mem) w n (p+1) el olds→Holds C B S2 a w→(∀b,aU C.A0 B S2.mem b→aU C.A0 B S.mem b)→S2.nx=S.nx→
       ({S2 with mem:=S2.mem.set slot (some (.arr (n+k) (p+1) (dH n el iV) e)),tm:=lF S2.tm o.dst (.fK slot (n+k) (p+1))}:St)=
        S.apply o.dst {val:= .fK slot (n+k) (p+1),upd:=r1.map (λb=>(b,none))++[(slot,some (.arr (n+k) (p+1) (dH n el iV) e))]}→o.sZ P a w K Q:=by
      intro ad cap olds S2 hzx hcap hold hor H2 hA2 hnx2 hS;have hrun:=Iu (P:=P) (w:=w) (ty:=o.type) ht hi hiz hso (ad:=ad) (cap:=cap) hold hcap h63 hbytes;have H3:=H2.move (w':=w.drew) (Below.refl _ w).drew;have hge:=grownCap_ge w (n+k) cap e;have hcm:=grownCap_le_maxLen w (n+k) cap e (by unfold maxLen;omega);have hj:=(hor.join hrow).trans (w':=w.drew) (A':=aU C.A0 B S2.mem) (Trans.of_below (Below.refl _ w).drew) (λb _ h=>hA2 b h);have hlen:(olds.toArray++news.toArray++Builtin.zeroCells z.cells (grownCap w (n+k) cap e-(n+k))).size=grownCap w (n+k) cap e*(p+1):=by
       simp only[Array.size_append,List.size_toArray,size_zeroCells,hzc,hor.1,hrow.1, ←Nat.add_mul]
       congr 1
       omega
      have hent:=hj.ent (B:=B) (cs:=olds.toArray++news.toArray++Builtin.zeroCells z.cells (grownCap w (n+k) cap e-(n+k))) (by
       simp only[Array.toList_append];rw[List.take_left' (by simp[hor.1,hrow.1,Nat.add_mul])]) e
      have H4:=H3.alloc hC hs (by unfold Between;rw[hnx2];exact hnx) hent;have H5:=H4.put (x:= .fK slot (n+k) (p+1)) (v:= .slice (some ⟨w.heap.size,0,none⟩) (n+k) (grownCap w (n+k) cap e)) o.dst
       (.fK slot _ _ _ w.heap.size (by simp[gT]) hge hcm ⟨_,e,(0,0),heap_alloc_new w.drew _,hlen⟩)
      refine Iy (yg _ _ (by rw[hzx];exact hrun)) (hK _ _ (gT B slot w.heap.size) ?_ (λj hj=>by simp[gT,hj]))
      have:S.apply o.dst {val:= .fK slot (n+k) (p+1),upd:=r1.map (λb=>(b,none))++[(slot,some (.arr (n+k) (p+1) (dH n el iV) e))],
                          conds:=c1++c2++[decide (n+k≤9223372036854775807),decide ((n+k)*i.bytes≤140737488355328)],reads:=r1++r2}=
       {S2 with mem:=S2.mem.set slot (some (.arr (n+k) (p+1) (dH n el iV) e)),tm:=lF S2.tm o.dst (.fK slot (n+k) (p+1))}:=hS.symm
      rw[this];exact H5
     have nil: ∀(S2:St),a.eval zx= .slice none 0 0→n=0→k=0→Holds C B S2 a w→S2.nx=S.nx→
       ({S2 with mem:=S2.mem.set slot (some (.arr (n+k) (p+1) (dH n el iV) e)),tm:=lF S2.tm o.dst (.fK slot (n+k) (p+1))}:St)=
        S.apply o.dst {val:= .fK slot (n+k) (p+1),upd:=r1.map (λb=>(b,none))++[(slot,some (.arr (n+k) (p+1) (dH n el iV) e))]}→o.sZ P a w K Q:=by
      intro S2 hzx hn0 hk0 H2 hnx2 hS;subst hn0;subst hk0;have hrun:=Gi (P:=P) (w:=w) (ty:=o.type) ht hi hso rfl (ad:=none) (n:=0) (cap:=0) (Nat.le_refl _) (.inl rfl);have H4:=H2.Ni hs (e:= .arr (0+0) (p+1) (dH 0 el iV) e) rfl;have H5:=H4.put (x:= .fK slot (0+0) (p+1)) (v:= .slice none 0 0) o.dst (.tu slot _);refine Iy (yg _ _ (by rw[hzx];exact hrun)) (hK _ _ B ?_ (λj hj=>rfl))
      have:S.apply o.dst {val:= .fK slot (0+0) (p+1),upd:=r1.map (λb=>(b,none))++[(slot,some (.arr (0+0) (p+1) (dH 0 el iV) e))],
                          conds:=c1++c2++[decide (0+0≤9223372036854775807),decide ((0+0)*i.bytes≤140737488355328)],reads:=r1++r2}=
       {S2 with mem:=S2.mem.set slot (some (.arr (0+0) (p+1) (dH 0 el iV) e)),tm:=lF S2.tm o.dst (.fK slot (0+0) (p+1))}:=hS.symm
      rw[this];exact H5
     have aaS:jy (aU C.A0 B S.mem) w 0 (p+1) el []:=⟨by simp,λk hk=>by omega,λk j hk=>by omega⟩
     unfold Ih at hdst
     split at hdst
     ·rename_i hzx
      cases hdst;rw[hzx]at hx;have oh:=hx.plain;by_cases hk0:k=0
      ·exact nil S oh rfl hk0 H rfl rfl
      ·exact fresh none 0 [] S oh (by omega) (by simp[Builtin.firstCells]) aaS H (λ_ h=>h) rfl rfl
     ·rename_i b n' sz hzx
      rw[hzx]at hx
      split at hdst
      ·rename_i m sz' el2 e' hm
       cases hall:(beq sz (p+1)&&beq sz' (p+1)&&beq e e')with
       | false=>rw[hall]at hdst;cases hdst
       | true=>
         rw[hall]at hdst;simp only[cond_true,fu,Prod.mk.injEq]at hdst;obtain⟨rfl,rfl,rfl,rfl⟩:=hdst;simp only[bI,Nat.beq_eq]at hall;obtain⟨⟨rfl,rfl⟩,rfl⟩:=hall;have hle:n'≤m:=dec (hc1 _ (by simp));generalize oh:a.eval zx=vx at hx;cases hx with
         | tu=>
           have Hd:=H.drop b;by_cases hk0:k=0
           ·exact nil _ oh rfl hk0 Hd rfl rfl
           ·exact fresh none 0 [] _ oh (by omega) (by simp[Builtin.firstCells]) aaS Hd (Qd b) rfl rfl
         | fK _ _ _ cap β hβ hn hmx hcc=>
           rcases H.mem b _ hm with⟨γ,hγ,hent⟩|⟨hno,_⟩
           ·rw[hβ]at hγ
            cases hγ;generalize xR:w.heap[β]? =ob at hent;obtain⟨cs,t',rfl⟩:=hent.isCells;have ht':t'=e:=by cases hent;rfl
            subst ht';have hor:=WT hent hle;obtain⟨C',t2,fz,hcc,hcs⟩:=hcc;rw[xR]at hcc;simp only[fu,Obj.cells.injEq]at hcc;obtain⟨rfl,rfl,rfl⟩:=hcc;by_cases hroom:n'+k≤cap
            ·have hnew:news.length=k*(p+1):=hrow.1
             have hmul:(n'+k)*(p+1)≤cap*(p+1):=Nat.mul_le_mul_right _ hroom;have hfit:n'*i.size+news.length≤cs.size:=by rw[his,hnew,hcs, ←Nat.add_mul];exact hmul
             have hrun:=KI (P:=P) (w:=w) (ty:=o.type) ht hi hso xR hrow.oneCell hroom hfit;have Qf:fZ (aU C.A0 B S.mem) B w (.arr (n'+k) (p+1) (dH n' el2 iV) t') (some (.cells (cs.toList.take (n'*i.size)++news++cs.toList.drop (n'*i.size+news.length)).toArray t' (0,0))):=by
              refine(hor.join hrow).ent ?_ t';rw[his];rw[List.take_left' (by rw[List.length_append,hor.1,hrow.1,Nat.add_mul])]
             have H2:=H.setRow hm hβ xR (by simp;rw[his]at hfit⊢;omega) Qf;have H3:=H2.rename (slot:=slot) (e:= .arr (n'+k) (p+1) (dH n' el2 iV) t') (by show(S.mem.set b _) b=_;rw[bF,if_pos rfl]) hβ hs hnx;have hbs:b≠slot:=by rintro rfl;rw[hs]at hβ;cases hβ
             refine Iy (yg _ _ (by rw[oh];exact hrun)) (hK _ _ (gT B slot β) ?_ (λj hj=>by simp[gT,hj]));have H4:=H3.put (x:= .fK slot (n'+k) (p+1)) (v:= .slice (some ⟨β,0,none⟩) (n'+k) cap) o.dst
              (.fK slot _ _ _ β (by simp[gT]) hroom hmx ⟨_,t',(0,0),setRow_heap w β cs _ t' (0,0) xR,by simp;rw[his]at hfit⊢;omega⟩)
             have hmem:((S.mem.set b (some (.arr (n'+k) (p+1) (dH n' el2 iV) t'))).set b none).set slot (some (.arr (n'+k) (p+1) (dH n' el2 iV) t'))=
               (S.mem.set b none).set slot (some (.arr (n'+k) (p+1) (dH n' el2 iV) t')):=by
              funext j
              simp only[bF];by_cases h1:j=slot<;>by_cases h2:j=b<;>simp[h1,h2]
             simp only[hmem]at H4;exact H4
            ·refine fresh (some ⟨β,0,none⟩) cap (cs.toList.take (n'*(p+1))) _ oh (by omega) ?_ hor (H.drop b) (Qd b) rfl rfl
             rw[his];refine run_firstCells_some (P:=P) w.drew (p+1) n' ⟨β,0,none⟩ n' cap _ hor.1 λj u hu=> ?_
             rw[iL]
             show w.cell? _=_
             simp only[World.cell?,xR,Nat.zero_add];rw[List.getElem?_take]at hu
             split at hu
             ·simpa using hu
             ·cases hu
           ·rw[hβ]at hno;cases hno
      ·cases hdst
     ·cases hdst
    ·cases h
   ·cases h
  ·cases h
 ·cases h
end
end Go.bA
namespace Go.bA
open Go.RowKit
section
variable{P:Program}{C:Ctx}{B:dI}{S:St}{a:Act}{w:World}{o:Oper}{r:Eff}{slot:Nat}
 {K:Act→World→Prop} {Q:Exit→Act→World→Prop}
theorem o8.mono{A:Nat→Prop}{n k sz:Nat}{el:Nat→List IV}{ad:Option Addr}(h:o8 A w n sz el ad)(hk:k≤n):o8 A w k sz el ad:=by
 rcases h with rfl|⟨b,off,rfl,hb,hl,hh⟩
 ·exact .inl (by omega)
 ·exact .inr ⟨b,off,rfl,hb,λi hi=>hl i (by omega),λi j hi hj=>hh i j (by omega) hj⟩
theorem jy.apN{A:Nat→Prop}{n c sz:Nat}{el:Nat→List IV}{xs:List Value}(h:jy A w n sz el xs)(hc:c≤n):jy A w (n-c) sz (λi=>el (i+c)) (xs.drop (c*sz)):=by
 refine⟨by rw[List.length_drop,h.1,Nat.sub_mul],λk hk=>h.2.1 _ (by omega),λk j hk hj=> ?_⟩;have e:(xs.drop (c*sz)).getD (k*sz+j) undef=xs.getD ((k+c)*sz+j) undef:=by
  simp only[dJ,List.getElem?_drop];rw[show c*sz+(k*sz+j)=(k+c)*sz+j by rw[Nat.add_mul];omega]
 rw[e];exact h.2.2 (k+c) j (by omega) hj
theorem YZ(H:Holds C B S a w){c:Call}{zx zy:Operand}(hop:o.op= .call c)(hb:c.callee= .builtin .copy){ts:List TypeId}(hts:c.argTypes.toList=ts)(hxs:c.args= #[zx,zy])
  (h:Lg P S.mem ts (bQ S.tm zx) (bQ S.tm zy)=some r) (hc: ∀p∈r.conds,p) (hK:Cont C B slot (S.apply o.dst r) K):o.sZ P a w K Q:=by
 have hx:=bG H zx;have hy:=bG H zy;unfold Lg at h
 split at h
 ·rename_i t u b n sz hxe
  rw[hxe]at hx;have hty:c.argTypes= #[t,u]:=Array.ext' (by simpa using hts);have yg: ∀v w',(Builtin.copy_ #[t,u] o.type #[a.eval zx,a.eval zy]).run P w= .ok v w'→(execOp a.eval o).run P w= .ok (.value v) w':=by
   intro v w' hr;simp[execOp,hop,resolve,hb,hxs,hty,invoke,builtin,hr]
  split at h
  ·rename_i e hu
   split at h
   ·rename_i p n' sz' el ty k Gy iV cs rs hp hm hv
    cases htu:beq t u with
    | false=>rw[htu]at hv;cases hv
    | true=>
    rw[htu]at hv;simp only[cond_true]at hv;cases hall:(beq sz p&&beq sz' p&&beq Gy p&&(rs.all λr=> !beq r b))with
    | false=>rw[hall]at h;cases h
    | true=>
      rw[hall]at h;simp only[cond_true,fu]at h;subst h;simp only[bI,Nat.beq_eq]at hall;obtain⟨⟨⟨rfl,rfl⟩,rfl⟩,_⟩:=hall;have hle:n≤n':=dec (hc _ (by simp));obtain⟨ad,cap2,hvy,hn2,hsl⟩:=wF H hy hv (λq hq=>hc q (by simp[hq]));have Ej:=hsl.mono (Nat.min_le_left k n);have hrow:=Ej.row;have TG:(Builtin.firstCells Gy (min k n) (.slice ad k cap2)).run P w= .ok (gD w (min k n) Gy ad).toArray w:=by
       cases ad with
       | none=>simp[Builtin.firstCells,gD]
       | some ad=>exact run_firstCells_some (P:=P) w Gy (min k n) ad k cap2 _ Ej.length Ej.news.1
      generalize oh:a.eval zx=vx at hx;cases hx with
      | tu=>
        have hm0:min k 0=0:=by omega
        have hsame:(λi=>if i<min k 0 then iV i else el i)=el:=by funext i;simp
        have hcells:gD w (min k 0) Gy ad=[]:=List.eq_nil_of_length_eq_zero (by rw[Ej.length,hm0,Nat.zero_mul]);rw[hcells,hm0]at TG;refine jU hK (B':=B) (v:=goInt ((min k 0:Nat):Int)) (w':=w) (yg _ _ ?_) ?_ (aV.lit _) (λ_ _=>rfl)
        ·rw[oh,hvy]
         simp[Builtin.copy_,run_underlying hu,Builtin.lenOf,fC hp,TG]
        ·have:bV S.mem [(b,some (.arr n' Gy (λi=>if i<min k 0 then iV i else el i) ty))]=S.mem:=by
          funext j
          simp only[bV,bF];by_cases hj:j=b
          ·subst hj;rw[if_pos rfl,hsame,hm]
          ·rw[if_neg hj]
         rw[this];exact H
      | fK _ _ _ cap β hβ hn hmx hcc=>
        rcases H.mem b _ hm with⟨γ,hγ,hent⟩|⟨hno,_⟩
        ·rw[hβ]at hγ
         cases hγ;generalize xR:w.heap[β]? =ob at hent;obtain⟨cs0,t',rfl⟩:=hent.isCells;have ht':t'=ty:=by cases hent;rfl
         subst ht';have hor:=WT hent (Nat.le_refl _);have hsz:n'*Gy≤cs0.size:=by cases hent;assumption
         have hlen:(gD w (min k n) Gy ad).length=min k n*Gy:=Ej.length;have hmn:min k n*Gy≤n'*Gy:=Nat.mul_le_mul_right _ (by omega);have hst:=run_storeCells_at P β 0 t' (gD w (min k n) Gy ad) 0 cs0 w xR (by rw[hlen];omega) hrow.oneCell;simp only[Nat.add_zero,Nat.zero_add,List.take_zero,List.nil_append]at hst;have hrun:(Builtin.copy_ #[t,u] o.type #[a.eval zx,a.eval zy]).run P w= .ok (goInt ((min k n:Nat):Int)) (w.setRow β (gD w (min k n) Gy ad++cs0.toList.drop (gD w (min k n) Gy ad).length).toArray):=by
          rw[oh,hvy];simp[Builtin.copy_,run_underlying hu,Builtin.lenOf,fC hp,TG,hst]
         have hj:=hrow.join (hor.apN (c:=min k n) (by omega));rw[show min k n+(n'-min k n)=n' by omega]at hj;have hfun:dH (min k n) iV (λi=>el (i+min k n))=λi=>if i<min k n then iV i else el i:=by
          funext i
          unfold dH;by_cases hi:i<min k n
          ·rw[if_pos hi,if_pos hi]
          ·rw[if_neg hi,if_neg hi]
           show el (i-min k n+min k n)=el i
           rw[show i-min k n+min k n=i by omega]
         rw[hfun]at hj;have Qf:=hj.ent (B:=B) (cs:=(gD w (min k n) Gy ad++cs0.toList.drop (gD w (min k n) Gy ad).length).toArray) (by
          simp only[];rw[hlen,List.take_append,hlen,List.take_of_length_le (by rw[hlen];exact hmn),List.drop_take]) t'
         have H2:=H.setRow hm hβ xR (by simp;rw[hlen];omega) Qf;exact jU hK (B':=B) (v:=goInt ((min k n:Nat):Int)) (yg _ _ hrun) H2 (aV.lit _) (λ_ _=>rfl)
        ·rw[hβ]at hno;cases hno
   ·cases h
  ·cases h
 ·cases h
theorem FD{n:Nat}{el:Nat→List IV}(h:isBytes n el=true)(k:Nat)(hk:k<n): ∃b:UInt8,el k=[.v (.int .u8 (b.toNat:Nat))]:=by
 have h1:=List.all_eq_true.1 h k (by simpa using hk);unfold isByte at h1
 split at h1
 ·rename_i x hx
  simp only[bI,dS]at h1;refine⟨UInt8.ofNat x.toNat,?_⟩;have e:((UInt8.ofNat x.toNat).toNat:Int)=x:=by
   simp only[UInt8.toNat_ofNat'];omega
  rw[e,hx]
 ·cases h1
theorem Nj{A:Nat→Prop}{n:Nat}{el:Nat→List IV}{xs:List Value}(h:jy A w n 1 el xs)(hb:isBytes n el):
  xs=((bytesOf n el).map λb=>(b.toNat:Int)).map (Value.int .u8):=by
 apply List.ext_getElem?
 intro i;by_cases hi:i<n
 ·have hil:i<xs.length:=by rw[h.1];omega
  obtain⟨b,hel⟩:=FD hb i hi;have hr:=(h.2.2 i 0 hi (by omega)).2;rw[hel]at hr;simp only[List.getD_cons_zero,Nat.mul_one,Nat.add_zero]at hr;have hx:xs.getD i undef= .int .u8 (b.toNat:Nat):=by
   generalize xs.getD i undef=q at hr;cases hr;rfl
  have hx':xs[i]? =some (.int .u8 (b.toNat:Nat)):=by
   rw[dJ,List.getElem?_eq_getElem hil]at hx;rw[List.getElem?_eq_getElem hil];simpa using hx
  rw[hx'];simp[bytesOf,hi,hel,byteOf]
 ·rw[List.getElem?_eq_none (by rw[h.1];omega),List.getElem?_eq_none (by simp[bytesOf];omega)]
theorem Qg(H:Holds C B S a w){s d:TypeId}{x:Operand}(hop:o.op= .convert s d x)
  (h:Ea P S.mem s d (bQ S.tm x)=some r) (hc: ∀p∈r.conds,p) (hK:Cont C B slot (S.apply o.dst r) K):o.sZ P a w K Q:=by
 have hx:=bG H x;unfold Ea at h
 split at h
 ·rename_i e hs hd
  split at h
  ·rename_i n sz el cs rs he hv
   cases hsz:(beq sz 1 || beq n 0)with
   | false=>rw[hsz]at h;cases h
   | true=>
     rw[hsz]at h;simp only[cond_true,fu]at h;subst h;obtain⟨ad,cap,oh,hn,hsl⟩:=wF H hx hv (λq hq=>hc q (by simp[hq]));have hib:isBytes n el:=hc _ (by simp);have Ej:o8 (aU C.A0 B S.mem) w n 1 el ad:=by
      simp only[Bool.or_eq_true,Nat.beq_eq]at hsz;rcases hsz with rfl|rfl
      ·exact hsl
      ·exact hsl.zero
     refine dF H hK (v:= .string ⟨⟨bytesOf n el⟩⟩) ?_ (aV.lit _) rfl;have hcells:=Nj Ej.row hib;have apO:(convert s d (a.eval x)).run P w= .ok (.string ⟨⟨bytesOf n el⟩⟩) w:=by
      rw[oh,run_convert_bytes_string w s d e ad n cap hs he hd];cases ad with
      | none=>
        have:n=0:=by rcases Ej with h|⟨_,_,h,_⟩<;>first|exact h|cases h
        subst this;simp[Conv.bytesToString,bytesOf];rfl
      | some ad=>
        have hload:(loadCells ad n).run P w= .ok (((bytesOf n el).map λb=>(b.toNat:Int)).map (Value.int .u8)).toArray w:=by
         have:=run_loadCells_list (P:=P) w ad (gD w n 1 (some ad)) Ej.news.1;rw[Ej.length,Nat.mul_one,hcells]at this;exact this
        rw[run_bytesToString w ad n cap _ hload,foldl_push_bytes]
        congr 2
        apply ByteArray.ext
        simp only[ByteArray.empty,ByteArray.emptyWithCapacity]
        apply Array.ext'
        show(#[]:Array UInt8).toList++_=_
        simp[Function.comp_def];rfl
     simp[execOp,hop,apO]
  ·cases h
 ·obtain⟨hu,v,hrun,hrel⟩:=P5 h hx
  exact dF H hK (v:=v) (by simp[execOp,hop,hrun]) hrel hu
theorem aaT(H:Holds C B S a w){c:Call}{z:Operand}(hop:o.op= .call c)(hb:c.callee= .builtin .cap){t:TypeId}(hts:c.argTypes.toList=[t])(hxs:c.args= #[z])
  (h:aln P t (bQ S.tm z)=some r) (hK:Cont C B slot (S.apply o.dst r) K):o.sZ P a w K Q:=by
 have hx:=bG H z;have hty:c.argTypes= #[t]:=Array.ext' (by simpa using hts);unfold aln at h
 split at h
 ·rename_i e hu hxe
  rw[hxe]at hx;cases h;have hv:(Builtin.cap_ #[t] o.type #[a.eval z]).run P w= .ok (goInt 0) w:=by
   rw[hx.plain];simp[Builtin.cap_,run_underlying hu]
  refine dF H hK (v:=goInt 0) ?_ (aV.lit _) rfl;simp[execOp,hop,resolve,hb,hxs,hty,invoke,builtin,hv]
 ·cases h
theorem aaU(H:Holds C B S a w){c:Call}{z:Operand}(hop:o.op= .call c)(hb:c.callee= .builtin .len){t:TypeId}(hts:c.argTypes.toList=[t])(hxs:c.args= #[z])
  (h:alj P t (bQ S.tm z)=some r) (hK:Cont C B slot (S.apply o.dst r) K):o.sZ P a w K Q:=by
 have hx:=bG H z;have hty:c.argTypes= #[t]:=Array.ext' (by simpa using hts);have hbase: ∀v:Value,(Builtin.len_ #[t] o.type #[a.eval z]).run P w= .ok v w→(execOp a.eval o).run P w= .ok (.value v) w:=by
  intro v hv;simp[execOp,hop,resolve,hb,hxs,hty,invoke,builtin,hv]
 unfold alj at h
 split at h
 ·rename_i s hu hxe
  rw[hxe]at hx;cases h;refine dF H hK (v:=goInt s.size) (hbase _ ?_) (aV.lit _) rfl;rw[hx.plain];simp[Builtin.len_,run_underlying hu]
 ·rename_i e n sz el hu hxe
  rw[hxe]at hx;cases h;refine dF H hK (v:=goInt n) (hbase _ ?_) (aV.lit _) rfl;generalize a.eval z=vz at hx;cases hx with
  | c _ _ hi=>cases hi<;>simp[Builtin.len_,run_underlying hu]
 ·rename_i e hu hxe
  rw[hxe]at hx;cases h;refine dF H hK (v:=goInt 0) (hbase _ ?_) (aV.lit _) rfl;rw[hx.plain];simp[Builtin.len_,run_underlying hu]
 ·rename_i e b n sz hu hxe
  rw[hxe]at hx;cases h;refine dF H hK (v:=goInt n) (hbase _ ?_) (aV.lit _) rfl;generalize a.eval z=vz at hx;cases hx<;>simp[Builtin.len_,run_underlying hu]
 ·rename_i e b k n sz hu hxe
  rw[hxe]at hx;cases h;refine dF H hK (v:=goInt n) (hbase _ ?_) (aV.lit _) rfl;generalize a.eval z=vz at hx;cases hx<;>simp[Builtin.len_,run_underlying hu]
 ·rename_i n e hu
  cases h;refine dF H hK (v:=goInt n) (hbase _ ?_) (aV.lit _) rfl;simp[Builtin.len_,run_underlying hu]
 ·cases h
theorem aaV(H:Holds C B S a w){c:Call}{zx zy:Operand}(hop:o.op= .call c)(hb:c.callee= .builtin .min)(hxs:c.args= #[zx,zy])
  (h:alk (bQ S.tm zx) (bQ S.tm zy)=some r) (hK:Cont C B slot (S.apply o.dst r) K):o.sZ P a w K Q:=by
 have hx:=bG H zx;have hy:=bG H zy;unfold alk at h
 split at h
 ·rename_i k i k' j hxe hye
  rw[hxe]at hx;rw[hye]at hy;cases h;refine dF H hK (v:= .int k (if j<i then j else i)) ?_ (aV.lit _) rfl;simp[execOp,hop,resolve,hb,hxs,invoke,builtin,hx.plain,hy.plain,Builtin.min_,Builtin.min2]
 ·cases h
theorem aaW(H:Holds C B S a w){c:Call}{zx zy:Operand}(hop:o.op= .call c)(hb:c.callee= .builtin .max)(hxs:c.args= #[zx,zy])
  (h:alm (bQ S.tm zx) (bQ S.tm zy)=some r) (hK:Cont C B slot (S.apply o.dst r) K):o.sZ P a w K Q:=by
 have hx:=bG H zx;have hy:=bG H zy;unfold alm at h
 split at h
 ·rename_i k i k' j hxe hye
  rw[hxe]at hx;rw[hye]at hy;cases h;refine dF H hK (v:= .int k (if j>i then j else i)) ?_ (aV.lit _) rfl;simp[execOp,hop,resolve,hb,hxs,invoke,builtin,hx.plain,hy.plain,Builtin.max_,Builtin.max2]
 ·cases h
theorem KJ{z:Value}{n:Nat}(h:z.cells.toList.all (·.oneCell')=true): ∀v∈(Builtin.zeroCells z.cells n).toList,v.oneCell'=true:=by
 intro v hv;simp only[Builtin.zeroCells,Array.toList_map,List.mem_map]at hv;obtain⟨i,hi,rfl⟩:=hv;have hi:i<n*z.cells.size:=by simpa using hi
 have hlt:i%z.cells.size<z.cells.size:=Nat.mod_lt _ (by
  rcases Nat.eq_zero_or_pos z.cells.size with h0|h0
  ·rw[h0,Nat.mul_zero]at hi;omega
  ·exact h0)
 rw[getElem!_pos z.cells _ hlt];exact List.all_eq_true.1 h _ (by simpa using Array.getElem_mem hlt)
theorem TH(H:Holds C B S a w){c:Call}{z:Operand}(hop:o.op= .call c)(hb:c.callee= .builtin .clear){t:TypeId}(hts:c.argTypes.toList=[t])(hxs:c.args= #[z])
  (h:D8 P S.mem t (bQ S.tm z)=some r) (hK:Cont C B slot (S.apply o.dst r) K):o.sZ P a w K Q:=by
 have hx:=bG H z;have hty:c.argTypes= #[t]:=Array.ext' (by simpa using hts);have hbase: ∀(v:Value) (w':World),(Builtin.clear_ #[t] o.type #[a.eval z]).run P w= .ok v w'→(execOp a.eval o).run P w= .ok (.value v) w':=by
  intro v w' hv;simp[execOp,hop,resolve,hb,hxs,hty,invoke,builtin,hv]
 unfold D8 at h
 split at h
 ·rename_i e b k n sz hu hxe
  rw[hxe]at hx
  split at h
  ·rename_i p zv n' sz' el e' hp hz hm
   cases hall:(beq p sz&&(beq sz' sz&&(Nat.ble k n'&&(beq zv.cells.size sz&&zv.cells.toList.all (·.oneCell')))))with
   | false=>rw[hall]at h;cases h
   | true=>
     rw[hall]at h;simp only[cond_true,fu]at h;subst h;simp only[bI,Nat.beq_eq,Nat.ble_eq]at hall;obtain⟨rfl,rfl,hkn,hzs,hone⟩:=hall;generalize oh:a.eval z=vz at hx;cases hx with
     | H9 _ _ _ _ cap β hβ hn h0 hcc=>
       obtain⟨Cc,tt,fz,hcell,hsize⟩:=hcc;rcases H.mem b _ hm with⟨γ,hγ,hent⟩|⟨hno,_⟩
       ·rw[hβ]at hγ
        cases hγ;rw[hcell]at hent;cases hent with
        | arr _ _ _ _ cs hcs hlen hrel=>
          have hzl:(Builtin.zeroCells zv.cells n).toList.length=n*sz':=by simp[Builtin.zeroCells,hzs]
          have hst:=run_storeCells_at P β (k*sz') e' (Builtin.zeroCells zv.cells n).toList 0 Cc w hcell (by rw[hzl,Nat.add_zero];rw[Nat.add_mul]at hsize;omega) (KJ hone);have hn0:n≠0:=by omega
          have hrun:(Builtin.clear_ #[t] o.type #[a.eval z]).run P w= .ok (.tuple #[]) (w.setRow β (Cc.toList.take (k*sz'+0)++(Builtin.zeroCells zv.cells n).toList++Cc.toList.drop (k*sz'+0+(Builtin.zeroCells zv.cells n).toList.length)).toArray):=by
           rw[oh];cases n with
           | zero=>exact absurd rfl hn0
           | succ n=>simp[Builtin.clear_,Sem.run_bind,run_underlying hu,vk hz,hst]
          have hz2:(Builtin.zeroCells zv.cells n).toList.length=n*sz':=hzl;generalize (Builtin.zeroCells zv.cells n).toList=zs at hrun hz2;rw[Nat.add_mul]at hsize;have hcl:Cc.toList.length=Cc.size:=by simp
          have hsz2:(Cc.toList.take (k*sz'+0)++zs++Cc.toList.drop (k*sz'+0+zs.length)).toArray.size=Cc.size:=by
           simp only[List.size_toArray,List.length_append,List.length_take,List.length_drop,hz2,hcl];omega
          have hget: ∀i,i<k*sz'→(Cc.toList.take (k*sz'+0)++zs++Cc.toList.drop (k*sz'+0+zs.length)).toArray.getD i undef=Cc.getD i undef:=by
           intro i hi;have h1:i<(Cc.toList.take (k*sz')).length:=by rw[List.length_take,hcl];omega
           simp only[nS,List.getElem?_toArray,Nat.add_zero];rw[List.append_assoc,List.getElem?_append_left h1,List.getElem?_take_of_lt hi];simp
          have Qf:fZ (aU C.A0 B S.mem) B w (.arr k sz' el e') (some (.cells (Cc.toList.take (k*sz'+0)++zs++Cc.toList.drop (k*sz'+0+zs.length)).toArray e' (0,0))):=by
           refine .arr k sz' el e' _ (by rw[hsz2];omega) (λi hi=>hlen i (by omega)) λi j hi hj=> ?_
           rw[hget _ (iQ hi hj)];exact hrel i j (by omega) hj
          have H2:=H.setRow hm hβ hcell hsz2 Qf;exact jU hK (B':=B) (v:= .tuple #[]) (hbase _ _ hrun) H2 (.fG [] #[] rfl (λj hj=>absurd hj (Nat.not_lt_zero j))) (λ_ _=>rfl)
       ·rw[hβ]at hno;cases hno
  ·cases h
 ·cases h
theorem Qh{x y:Value}(h:BO x y=true):x=y:=by
 unfold BO at h
 split at h<;>first|rfl|cases h
theorem KL(H:Holds C B S a w)(hC:C.Ok)(hs:B slot=none)(hnx:Between C S slot){t:TypeId}(hop:o.op= .alloc t){n p:Nat}{ze z:Value}(hz:o7 P t=some z)(hzc:ze.cells.size=p+1)
  (h:Ib slot t n (p+1) ze z=some r) (hK:Cont C B slot (S.apply o.dst r) K):o.sZ P a w K Q:=by
 unfold Ib at h;cases hall:(beq z.cells.toList.length (n*(p+1))&&ze.cells.toList.all (·.oneCell')&&(List.range (n*(p+1))).all (λj=>BO (z.cells.toList.getD j undef) (ze.cells.toList.getD (j%(p+1)) undef)))with
 | false=>rw[hall]at h;cases h
 | true=>
   rw[hall]at h;simp only[cond_true,fu]at h;subst h;simp only[bI,Nat.beq_eq]at hall;obtain⟨⟨hlen,hok⟩,hsame⟩:=hall;have hent:=Lm (A:=aU C.A0 B S.mem) (B:=B) (w:=w) (n:=n) (p:=p) (z:=ze) (e:=t) (cs:=z.cells) hzc hok (by simpa using hlen) (λi hi=>by
    have:=List.all_eq_true.1 hsame i (by simpa using hi);have:=Qh this;simpa[nS,dJ]using this)
   refine jU hK (w':=w.alloc (.cells z.cells t)) (v:= .pointer (some ⟨w.heap.size,0,none⟩)) (B':=gT B slot w.heap.size) ?_ (H.alloc hC hs hnx hent) ?_ (λj hj=>by simp[gT,hj])
   ·simp[execOp,hop,Instr.alloc,vk hz,newVar,newRow]
   ·have:=aV.jr (A:=aU C.A0 (gT B slot w.heap.size) (bV S.mem [(slot,some (.arr n (p+1) (λ_=>ze.cells.toList.map .v) t))])) (B:=gT B slot w.heap.size) (w:=w.alloc (.cells z.cells t)) slot 0 0 (p+1) w.heap.size (by simp[gT])
    simpa using this
theorem yh(H:Holds C B S a w)(hC:C.Ok)(hs:B slot=none)(hnx:Between C S slot){t:TypeId}{n:Nat}{ps:Array (Nat×Operand)}(hop:o.op= .buildSlice t n ps)
  (ys:List (Nat×AV)) (hyl:(ps.toList.map λ(i,x)=>(i,a.eval x)).length=ys.length) (hyr: ∀j,j<ys.length→((ps.toList.map λ(i,x)=>(i,a.eval x)).getD j (0,undef)).1=(ys.getD j (0,.any)).1∧aV (aU C.A0 B S.mem) B w (ys.getD j (0,.any)).2 ((ps.toList.map λ(i,x)=>(i,a.eval x)).getD j (0,undef)).2)
  (h:qC P slot t n ys=some r) (hK:Cont C B slot (S.apply o.dst r) K):o.sZ P a w K Q:=by
 unfold qC at h
 split at h
 ·rename_i e hu
  split at h
  ·rename_i p z hp hz
   cases afC:(beq n 0&&ys.isEmpty)with
   | true=>
     rw[afC]at h;simp only[cond_true,fu]at h;subst h;simp only[bI,Nat.beq_eq,List.isEmpty_iff]at afC;obtain⟨rfl,hys⟩:=afC;subst hys;have hps:ps= #[]:=by
      have:ps.toList.length=0:=by simpa using hyl
      exact Array.ext' (List.eq_nil_of_length_eq_zero this)
     subst hps;have hrow:jy (aU C.A0 B S.mem) w 0 (p+1) (λ_=> []) []:=⟨by simp,λk hk=>by omega,λk j hk hj=>by omega⟩
     have hent:=hrow.ent (B:=B) (cs:= #[]) (by simp) e;refine jU hK (w':=w.alloc (.cells #[] e)) (v:= .slice (some ⟨w.heap.size,0,none⟩) 0 0) (B':=gT B slot w.heap.size) ?_ (H.alloc hC hs hnx hent) ?_ (λj hj=>by simp[gT,hj])
     ·simp[execOp,hop,Instr.buildSlice,run_underlying hu,fC hp,Instr.fill,newRow];exact congrArg (λl=>w.alloc (Obj.cells l e)) (Array.ext' (by simp))
     ·exact .fK slot 0 (p+1) 0 w.heap.size (by simp[gT]) (Nat.le_refl _) (by unfold maxLen;omega) ⟨_,e,(0,0),heap_alloc_new w _,by simp⟩
   | false=>
   rw[afC]at h;simp only[cond_false]at h
   split at h
   ·rename_i l hf
    split at h
    ·rename_i c hcm
     cases hall:(Nat.ble (n*(p+1)) 16777216&&beq z.cells.size (p+1)&&l.all gU&& !beq n 0)with
     | false=>rw[hall]at h;cases h
     | true=>
       rw[hall]at h;simp only[cond_true,fu]at h;subst h;simp only[bI,Nat.ble_eq,Nat.beq_eq,Bool.not_eq_true']at hall;obtain⟨⟨⟨hbig,hzc⟩,hok⟩,hn0⟩:=hall;have hne:n≠0:=by rintro rfl;cases hn0
       have hnp: ¬n*(p+1)=0:=Nat.mul_ne_zero hne (by omega)
       let zs:List Value:=(List.range (n*(p+1))).map λj=>z.cells[j%z.cells.size]!
       have hz0:dN (aU C.A0 B S.mem) B w ((List.range (n*(p+1))).map λj=>AV.c (.v (z.cells[j%z.cells.size]!))) zs:=by
        have:=lW (A:=aU C.A0 B S.mem) (B:=B) (w:=w) zs;simpa[zs,List.map_map,Function.comp_def,DY]using this
       obtain⟨cs',P7,hr'⟩:=wE (place:=λi=>some (i*(p+1),p+1)) (λi q hi=>by
        simp only[List.getElem?_map,Option.map_eq_some_iff]at hi;obtain⟨j,hj,rfl⟩:=hi;rw[List.getElem?_eq_some_iff]at hj;obtain⟨_,rfl⟩:=hj;simp) _ (ps.toList.map λ(i,x)=>(i,a.eval x)) _ l zs hf hz0 hyl hyr
       rw[pJ hcm]at hr' hok;have h1:=q9 hr' hok;obtain⟨hcl,hcr⟩:=xZ hr';have hfl:cs'.length=n*(p+1):=by
        have hfa: ∀(pl:List (Nat×Nat)) (parts:List (Nat×AV)) (l0 l1:List AV),xC pl l0 parts=some l1→l1.length=l0.length:=by
         intro pl parts
         induction parts with
         | nil=>intro l0 l1 h;simp only[xC,fu]at h;rw[h]
         | cons q parts ih=>
           obtain⟨i,x⟩:=q;intro l0 l1 h;simp only[xC]at h;cases hpl:pl[i]? with
           | none=>simp[hpl]at h
           | some q=>
             obtain⟨off,m⟩:=q;simp only[hpl]at h;cases hb:(beq (iP x).length m&&Nat.ble (off+m) l0.length&&(iP x).all gU)with
             | false=>rw[hb]at h;cases h
             | true=>
               rw[hb]at h;simp only[cond_true]at h;simp only[bI,Nat.beq_eq,Nat.ble_eq]at hb;rw[ih _ _ h];simp;omega
        have:=hfa _ _ _ _ hf;rw[pJ hcm]at this;rw[hcl];simpa[PU]using this
       have hrow:jy (aU C.A0 B S.mem) w n (p+1) (λk=>(c.drop (k*(p+1))).take (p+1)) cs':=by
        refine⟨hfl,λk hk=> ?_,λk j hk hj=> ?_⟩
        ·have:k*(p+1)+(p+1)≤n*(p+1):=by
          calc k*(p+1)+(p+1)=(k+1)*(p+1):=by rw[Nat.add_mul,Nat.one_mul]
           _≤n*(p+1):=Nat.mul_le_mul_right _ hk
         simp;omega
        ·have hlt:=iQ hk hj
         have hlc:k*(p+1)+j<cs'.length:=by rw[hfl];exact hlt
         have e1:((c.drop (k*(p+1))).take (p+1)).getD j (.v undef)=c.getD (k*(p+1)+j) (.v undef):=by
          simp[dJ,List.getElem?_take,hj,List.getElem?_drop]
         rw[e1];refine⟨h1 _ ?_,hcr _ (by omega)⟩;rw[dJ,List.getElem?_eq_getElem hlc];exact List.getElem_mem hlc
       have hent:=hrow.ent (B:=B) (cs:=cs'.toArray) (by simp only[];rw[List.take_of_length_le (by omega)]) e;have hbig': ¬n*(p+1)>2^24:=by omega
       refine jU hK (w':=w.alloc (.cells cs'.toArray e)) (v:= .slice (some ⟨w.heap.size,0,none⟩) n n) (B':=gT B slot w.heap.size) ?_ (H.alloc hC hs hnx hent) ?_ (λj hj=>by simp[gT,hj])
       ·have alq:Instr.fill (λi=>some (i*(p+1),p+1)) ((Array.range (n*(p+1))).map (z.cells[· % z.cells.size]!)) (ps.map λ(i,x)=>(i,a.eval x)).toList=some cs'.toArray:=by
         have e1:((Array.range (n*(p+1))).map (z.cells[· % z.cells.size]!))=zs.toArray:=by
          apply Array.ext';simp[zs]
         rw[e1];simpa using P7
        simp only[execOp,hop,Instr.buildSlice,Sem.run_bind,run_underlying hu,Result.andThen_ok,fC hp,if_neg hbig',if_neg hnp,vk hz,Sem.run_pure,Sem.run_ite];rw[alq];simp[newRow]
       ·refine .fK slot n (p+1) n w.heap.size (by simp[gT]) (Nat.le_refl _) ?_ ⟨_,e,(0,0),heap_alloc_new w _,by simpa using hfl⟩
        unfold maxLen;have:n≤n*(p+1):=Nat.le_mul_of_pos_right _ (by omega);omega
    ·cases h
   ·cases h
  ·cases h
 ·cases h
theorem Gj(H:Holds C B S a w)(hC:C.Ok)(hs:B slot=none)(hnx:Between C S slot){t:TypeId}{n:Nat}{ps:Array (Nat×Operand)}(hop:o.op= .buildSlice t n ps)
  (h:qC P slot t n (ps.toList.map λ(i,x)=>(i,bQ S.tm x))=some r) (hK:Cont C B slot (S.apply o.dst r) K):o.sZ P a w K Q:=by
 refine yh H hC hs hnx hop _ (by simp) (λj hj=> ?_) h hK;have hj':j<ps.toList.length:=by simpa using hj
 simp only[dJ,List.getElem?_map,List.getElem?_eq_getElem hj',Option.map_some,Option.getD_some];exact⟨trivial,bG H _⟩
end
end Go.bA
namespace Go.bA
open Go.RowKit
section
variable{P:Program}{C:Ctx}{B:dI}{S:St}{a:Act}{w:World}{o:Oper}{r:Eff}{slot:Nat}
 {K:Act→World→Prop} {Q:Exit→Act→World→Prop}
theorem wG{t:TypeId}(h:nV P t=true): ∃k e,P.underlying t=some (.map k e)∧P.underlying k=some (.int .i64):=by
 unfold nV at h
 split at h
 ·rename_i k e ht
  split at h
  ·rename_i hk
   exact⟨k,e,ht,hk⟩
  ·cases h
 ·cases h
theorem Holds.akJ(H:Holds C B S a w){s β:Nat}{e e':gJ}(hm:S.mem s=some e)(hβ:B s=some β){o0 o':Obj}(hc:w.heap[β]? =some o0)(hnc: ∀cs t fz,o0≠ .cells cs t fz)
  (he:fZ (aU C.A0 B S.mem) B w e' (some o')):Holds C B {S with mem:=S.mem.set s (some e')} a (w.putObj β o'):=by
 have hown:aU C.A0 B S.mem β:= .inr ⟨s,e,hm,hβ⟩;have hlt:β<w.heap.size:=lt_of_heap hc;have hother: ∀b,b≠β→(w.putObj β o').heap[b]? =w.heap[b]? :=λb hb=>World.putObj_heap_other hb
 have hrow: ∀(k:Nat) (D:Array Value) (t:TypeId) (fz:Nat×Nat),w.heap[k]? =some (.cells D t fz)→ ∃D' t' Te,(w.putObj β o').heap[k]? =some (.cells D' t' Te)∧D'.size=D.size:=by
  intro k D t fz hD;by_cases hk:k=β
  ·subst hk
   rw[hc]at hD;exact absurd (Option.some.inj hD) (hnc _ _ _)
  ·exact⟨D,t,fz,by rw[hother k hk];exact hD,rfl⟩
 have hk:Kept (λb=>b=β) w (w.putObj β o'):=⟨rfl,rfl,rfl,by simp,λk _ hk=>hother k hk,hrow⟩
 have ht:Trans (aU C.A0 B S.mem) w (w.putObj β o'):=⟨by simp,λb hb hn=>hother b (by rintro rfl;exact hn hown),λb _ D t2 fz2 hD=>hrow b D t2 fz2 hD⟩
 have hA0: ∀b,aU C.A0 B (S.mem.set s (some e')) b→aU C.A0 B S.mem b:=by
  intro b h;rcases h with h|⟨j,e2,h1,h2⟩
  ·exact .inl h
  ·rw[bF]at h1
   by_cases hj:j=s
   ·subst hj;exact .inr ⟨j,e,hm,h2⟩
   ·simp only[hj,if_false]at h1;exact .inr ⟨j,e2,h1,h2⟩
 refine{defers:=H.defers,size:=H.size,tm:=λt h=>(H.tm t h).trans ht (λb _ h=>hA0 b h) (λ_ _ h=>h),mem:=?_,inj:=?_,kept:=?_,old:=λj γ h=>⟨(H.old j γ h).1,Nat.lt_of_lt_of_le (H.old j γ h).2 hk.size⟩,fresh:=H.fresh,base:=H.base,sW:=H.sW}
 ·intro j e2 hj
  simp only[bF]at hj;by_cases hjs:j=s
  ·subst hjs
   simp only[if_true,fu]at hj;subst hj;refine .inl ⟨β,hβ,?_⟩;rw[World.putObj_heap_same hlt];exact he.trans ht (λb _ h=>hA0 b h) (λ_ _ h=>h)
  ·simp only[hjs,if_false]at hj
   rcases H.mem j e2 hj with⟨γ,h1,h3⟩|h
   ·refine .inl ⟨γ,h1,?_⟩
    rw[hother γ (by rintro rfl;exact hjs (H.inj j s _ _ γ hj hm h1 hβ))];exact h3.trans ht (λb _ h=>hA0 b h) (λ_ _ h=>h)
   ·exact .inr h
 ·have live: ∀j e2,(S.mem.set s (some e')) j=some e2→ ∃e3,S.mem j=some e3:=by
   intro j e2 hj;rw[bF]at hj;by_cases hjs:j=s
   ·subst hjs;exact⟨e,hm⟩
   ·simp only[hjs,if_false]at hj;exact⟨e2,hj⟩
  intro j j' e1 e2 γ m1 m2 h1 h2;obtain⟨e3,m1⟩:=live j e1 m1;obtain⟨e4,m2⟩:=live j' e2 m2;exact H.inj j j' e3 e4 γ m1 m2 h1 h2
 ·refine H.kept.trans hk λi hi hib=> ?_
  subst hib;rcases(H.old s i hβ).1 with h|h
  ·exact absurd hi (Nat.not_lt.2 h)
  ·exact h
theorem keys_nil:wC [] #[] 0:=⟨rfl,rfl,λi hi=>by simp at hi,λi hi=>by simp at hi,λi hi=>by simp at hi⟩
theorem Y0{es:List (Int×IV)}{entries:Array MapEntry}{clock:Nat}(h:wC es entries clock)(n:Int)(y:IV)(v:Value)(hv:v.oneCell'=true):
  wC (es++[(n,y)]) (entries.push {key:= .int .i64 n,val:=v,born:=clock}) (clock+1):=by
 have hs:=h.size;have hc:=h.clock
 have key: ∀i,i<(es++[(n,y)]).length→(i<es.length∧(entries.push {key:= .int .i64 n,val:=v,born:=clock}).getD i me0=entries.getD i me0∧(es++[(n,y)]).getD i mz=es.getD i mz)∨
   (i=es.length∧(entries.push {key:= .int .i64 n,val:=v,born:=clock}).getD i me0={key:= .int .i64 n,val:=v,born:=clock}∧(es++[(n,y)]).getD i mz=(n,y)):=by
  intro i hi;simp only[List.length_append,List.length_singleton]at hi;by_cases hlt:i<es.length
  ·refine .inl ⟨hlt,?_,?_⟩
   ·simp only[nS,Array.getElem?_push_lt (show i<entries.size by omega),Array.getElem?_eq_getElem (show i<entries.size by omega)]
   ·simp[dJ,List.getElem?_append_left hlt]
  ·obtain rfl:i=es.length:=by omega
   refine .inr ⟨rfl,?_,?_⟩
   ·rw[←hs]
    simp[nS]
   ·simp[dJ]
 refine⟨by simp[hs],by simp[hc],λi hi=> ?_,λi hi=> ?_,λi hi=> ?_⟩
 ·rcases key i hi with⟨h1,h2,h3⟩|⟨h1,h2,h3⟩
  ·rw[h2,h3];exact h.key i h1
  ·rw[h2,h3]
 ·rcases key i hi with⟨h1,h2,h3⟩|⟨h1,h2,h3⟩
  ·rw[h2];exact h.born i h1
  ·rw[h2,h1];exact hc
 ·rcases key i hi with⟨h1,h2,h3⟩|⟨h1,h2,h3⟩
  ·rw[h2];exact h.one i h1
  ·rw[h2];exact hv
theorem Y1{A:Nat→Prop}{es:List (Int×IV)}{entries:Array MapEntry}{clock:Nat}(h:wC es entries clock)(hv: ∀i,i<es.length→jd A w (es.getD i mz).2 (entries.getD i me0).val){n:Int}{y:IV}{v:Value}
  (hy:jd A w y v) (k:Value) (b:Nat): ∀i,i<(es++[(n,y)]).length→jd A w ((es++[(n,y)]).getD i mz).2 ((entries.push {key:=k,val:=v,born:=b}).getD i me0).val:=by
 have hs:=h.size;intro i hi;simp only[List.length_append,List.length_singleton]at hi;by_cases hlt:i<es.length
 ·have e1:(entries.push {key:=k,val:=v,born:=b}).getD i me0=entries.getD i me0:=by
   simp only[nS,Array.getElem?_push_lt (show i<entries.size by omega),Array.getElem?_eq_getElem (show i<entries.size by omega)]
  have e2:(es++[(n,y)]).getD i mz=es.getD i mz:=by simp[dJ,List.getElem?_append_left hlt]
  rw[e1,e2];exact hv i hlt
 ·obtain rfl:i=es.length:=by omega
  have e1:(entries.push {key:=k,val:=v,born:=b}).getD es.length me0={key:=k,val:=v,born:=b}:=by
   rw[←hs];simp[nS]
  have e2:(es++[(n,y)]).getD es.length mz=(n,y):=by simp[dJ]
  rw[e1,e2];exact hy
theorem Nk(hC:C.Ok)(H:Holds C B S a w)(hs:B slot=none)(hnx:Between C S slot){t:TypeId}{x:Option Operand}(hop:o.op= .makeMap t x)
  (h:Ii P slot t (x.map (bQ S.tm))=some r) (hK:Cont C B slot (S.apply o.dst r) K):o.sZ P a w K Q:=by
 unfold Ii at h;cases hb:(nV P t&&hintA (x.map (bQ S.tm)))with
 | false=>rw[hb]at h;cases h
 | true=>
   rw[hb]at h;simp only[cond_true,fu]at h;subst h;simp only[bI]at hb;obtain⟨k,e,ht,hk⟩:=wG hb.1;have hrun:(Instr.makeMap t (x.map a.eval)).run P w= .ok (.map (some w.heap.size)) (w.alloc (.map #[] 0)):=by
    cases x with
    | none=>exact run_makeMap t w
    | some x=>
      have hx:=bG H x;have hb2:=hb.2;simp only[Option.map_some]at hb2;unfold hintA at hb2
      split at hb2
      ·rename_i hh;cases hh
      ·rename_i k' n hh
       simp only[fu]at hh;rw[hh]at hx;simp only[Option.map_some,hx.plain];simp[Instr.makeMap,Sem.run_bind,run_underlying ht,asInt,asIntOf]
      ·cases hb2
   have hent:fZ (aU C.A0 B S.mem) B w (.uG []) (some (.map #[] 0)):= .uG [] #[] 0 keys_nil λi hi=>by simp at hi
   exact jU hK (v:= .map (some w.heap.size)) (w':=w.alloc (.map #[] 0)) (B':=gT B slot w.heap.size) (by simp only[execOp,hop,Sem.run_bind,hrun,Result.andThen_ok,Sem.run_pure]) (H.alloc hC hs hnx hent)
    (.omap slot w.heap.size (by simp[gT])) (λj hj=>by simp[gT,hj])
theorem FH(n:Int): ∀(l:List MapEntry) (i:Nat),(∀e∈l, ∃k,e.key= .int .i64 k∧k≠n)→Instr.findNow (.int .i64) (.int .i64 n) l i=some none
 | [],_,_=>rfl
 | e::l,i,h=>by
   obtain⟨k,hk,hne⟩:=h e (by simp);have h1:(n==k)=false:=by
    cases hb:n==k with
    | false=>rfl
    | true=>exact absurd (by simpa using hb) (Ne.symm hne)
   have h2:Instr.sameNow (.int .i64) (.int .i64 n) e.key=some false:=by
    rw[hk];simp[Instr.sameNow,h1]
   unfold Instr.findNow;rw[h2];exact FH n l (i+1) λe he=>h e (by simp[he])
theorem Iz(H:Holds C B S a w){t:TypeId}{x k v:Operand}(hop:o.op= .mapUpdate t x k v)
  (h:pG P S.mem t (bQ S.tm x) (bQ S.tm k) (bQ S.tm v)=some r) (hc: ∀p∈r.conds,p) (hK:Cont C B slot (S.apply o.dst r) K):o.sZ P a w K Q:=by
 have hx:=bG H x;have hkk:=bG H k;have hv:=bG H v;unfold pG at h
 split at h
 ·rename_i b n y hxe hke hve
  rw[hxe]at hx;rw[hke]at hkk;rw[hve]at hv;have hkv:=hkk.plain
  split at h
  ·rename_i es hm
   cases hb:(nV P t&&gU (.c y))with
   | false=>rw[hb]at h;cases h
   | true=>
     rw[hb]at h;simp only[cond_true,fu]at h;subst h;simp only[bI]at hb;obtain⟨kt,et,ht,hkt⟩:=wG hb.1;have hall:(es.all λp=> !decide (p.1=n))=true:=hc _ (by simp);generalize oh:a.eval x=vx at hx;cases hx with
     | omap _ β hβ=>
       rcases H.mem b _ hm with⟨γ,hγ,hent⟩|⟨hno,_⟩
       ·rw[hβ]at hγ
        cases hγ;generalize xR:w.heap[β]? =ob at hent;cases hent with
        | uG _ entries clock hks hvs=>
          have hone:(a.eval v).oneCell'=true:=hv.oneCell hb.2;have hfind:Instr.findNow (.int .i64) (.int .i64 n) entries.toList 0=some none:=by
           refine FH n _ 0 λe he=> ?_
           obtain⟨i,hi,rfl⟩:=List.mem_iff_getElem.1 he;have hi':i<entries.size:=by simpa using hi
           have hie:i<es.length:=by rw[←hks.size];exact hi'
           have hk1:=hks.key i hie;have e1:entries.getD i me0=entries.toList[i]:=by simp[nS,hi']
           rw[e1]at hk1;refine⟨_,hk1,?_⟩;have h2:=List.all_eq_true.1 hall (es.getD i mz) (by
            have:es.getD i mz=es[i]:=by simp[dJ,hie]
            rw[this];exact List.getElem_mem hie)
           simpa using h2
          have hrel:jd (aU C.A0 B S.mem) w y (a.eval v):=by
           cases hv with
           | c _ _ h=>exact h
          have hrun:(Instr.mapUpdate t (.map (some β)) (.int .i64 n) (a.eval v)).run P w= .ok () (w.putObj β (.map (entries.push {key:= .int .i64 n,val:=a.eval v,born:=clock}) (clock+1))):=by
           have hg:(getObj β).run P w= .ok (.map entries clock) w:=by simp[getObj,Sem.run,xR]
           have afD: ∀m,(Instr.checkKey false (m+1) kt (.int .i64 n)).run P w= .ok () w:=by
            intro m;rw[Instr.checkKey,Sem.run_bind,run_underlying hkt,Result.andThen_ok];rfl
           have hfk:(Instr.findKey kt (.int .i64 n) entries.toList).run P w= .ok none w:=by
            simp only[Instr.findKey,Sem.run_bind,run_underlying hkt,Result.andThen_ok,hfind,Sem.run_pure]
           have hset: ∀ob',(setObj β ob').run P w= .ok () (w.putObj β ob'):=λob'=>by simp[setObj,Sem.run,xR,World.putObj]
           simp only[Instr.mapUpdate,Sem.run_bind,run_underlying ht,Result.andThen_ok,hg];rw[show(10000:Nat)=9999+1 from rfl,afD];simp only[Result.andThen_ok,hfk,hset]
          have H':=H.akJ hm hβ xR (λ_ _ _ h=>by cases h) (e':= .uG (es++[(n,y)])) (.uG _ _ _ (Y0 hks n y (a.eval v) hone) (Y1 hks hvs hrel _ _));unfold Oper.sZ;have yg:(execOp a.eval o).run P w= .ok .skip (w.putObj β (.map (entries.push {key:= .int .i64 n,val:=a.eval v,born:=clock}) (clock+1))):=by
           simp only[execOp,hop,oh,hkv,Sem.run_bind,hrun,Result.andThen_ok,Sem.run_pure]
          rw[yg];exact hK _ _ B (H'.put (x:= .c (.v undef)) (v:=undef) o.dst (aV.lit _)) (λ_ _=>rfl)
       ·rw[hβ]at hno;cases hno
  ·cases h
 ·cases h
theorem TI(hC:C.Ok)(H:Holds C B S a w)(hs:B slot=none)(hnx:Between C S slot){t:TypeId}{x:Operand}(hop:o.op= .range t x)
  (h:Tt P slot t (bQ S.tm x)=some r) (hK:Cont C B slot (S.apply o.dst r) K):o.sZ P a w K Q:=by
 have hx:=bG H x;unfold Tt at h
 split at h
 ·rename_i es hxe
  rw[hxe]at hx;cases hb:nV P t with
  | false=>rw[hb]at h;cases h
  | true=>
    rw[hb]at h;simp only[cond_true,fu]at h;subst h;obtain⟨kt,et,ht,hkt⟩:=wG hb;generalize oh:a.eval x=vx at hx;cases hx with
    | c _ _ hi=>
      cases hi with
      | mq _ b clock entries hA hbw hh hk hv=>
        have hrun:=run_range_map w t kt et b entries clock ht hh;have hcl:=hk.clock;subst hcl;have hent:fZ (aU C.A0 B S.mem) B w (.KF es []) (some (.mapIter (some b) es.length #[] es.length)):= .KF es [] b (.mq es b _ entries hA hbw hh hk hv) λi hi=>by simp at hi
        exact jU hK (v:= .pointer (some ⟨w.heap.size,0,none⟩)) (w':=w.alloc (.mapIter (some b) es.length #[] es.length)) (B':=gT B slot w.heap.size) (by simp only[execOp,hop,oh,Sem.run_bind,hrun,Result.andThen_ok,Sem.run_pure])
         (H.alloc hC hs hnx hent) (.ptr slot 0 w.heap.size (by simp[gT])) (λj hj=>by simp[gT,hj])
 ·cases h
theorem aaX(H:Holds C B S a w){b:Nat}{es:List (Int×IV)}{seen:List Nat}(hm:S.mem b=some (.KF es seen)){β:Nat}(hβ:B b=some β):
  ∃bm entries,w.heap[β]? =some (.mapIter (some bm) es.length seen.toArray es.length)∧β≠bm∧w.heap[bm]? =some (.map entries es.length)∧ ¬aU C.A0 B S.mem bm∧bm<w.heap.size∧wC es entries es.length∧
   (∀i,i<es.length→jd (aU C.A0 B S.mem) w (es.getD i mz).2 (entries.getD i me0).val)∧ ∀i∈seen,i<es.length:=by
 rcases H.mem b _ hm with⟨γ,hγ,hent⟩|⟨hno,_⟩
 ·rw[hβ]at hγ
  cases hγ;generalize xR:w.heap[β]? =ob at hent;cases hent with
  | KF _ _ bm hmq hs=>
    cases hmq with
    | mq _ _ clock entries hA hb hh hk hv=>
      have hcl:=hk.clock;subst hcl;refine⟨bm,entries,rfl,?_,hh,hA,hb,hk,hv,hs⟩;rintro rfl;exact hA (.inr ⟨b,_,hm,hβ⟩)
 ·rw[hβ]at hno;cases hno
theorem TJ(H:Holds C B S a w){x:Operand}(hop:o.op= .entry x)(h:Eb S.mem (bQ S.tm x)=some r)(hK:Cont C B slot (S.apply o.dst r) K):o.sZ P a w K Q:=by
 have hx:=bG H x;unfold Eb at h
 split at h
 ·rename_i b hxe
  rw[hxe]at hx;obtain⟨β,hβ,oh⟩:=hx.lV
  split at h
  ·rename_i es seen hm
   split at h
   ·rename_i i hl
    cases h;obtain⟨bm,entries,xR,hne,hbm,hA,hbw,hk,hv,hs⟩:=aaX H hm hβ;have hi:i<es.length:=hs i (List.mem_of_getLast? hl);have hisz:i<entries.size:=by rw[hk.size];exact hi
    have hback:seen.toArray.back? =some i:=by rw[←hl];simp
    have hfind:entries.find? (λe=>e.born==i)=some (entries.getD i me0):=by
     rw[Array.find?_eq_some_iff_getElem];have e1:entries.getD i me0=entries[i]:=by simp[nS,hisz]
     refine⟨by rw[hk.born i hi];simp,i,hisz,e1.symm,λj hj=> ?_⟩;have hj2:j<es.length:=by omega
     have e2:entries.getD j me0=entries[j]:=by simp[nS,show j<entries.size by omega]
     have:=hk.born j hj2;rw[e2]at this;simp only[this,Bool.not_eq_true',beq_eq_false_iff_ne];omega
    have hg:(getObj β).run P w= .ok (.mapIter (some bm) es.length seen.toArray es.length) w:=by simp[getObj,Sem.run,xR]
    have hg2:(getObj bm).run P w= .ok (.map entries es.length) w:=by simp[getObj,Sem.run,hbm]
    have hrun:(Instr.entry (.pointer (some ⟨β,0,none⟩))).run P w= .ok (.tuple #[(entries.getD i me0).key,(entries.getD i me0).val]) w:=by
     simp[Instr.entry,Sem.run_bind,hg,hg2,hback,hfind]
    refine dF H hK (v:= .tuple #[(entries.getD i me0).key,(entries.getD i me0).val]) (by simp only[execOp,hop,oh,Sem.run_bind,hrun,Result.andThen_ok,Sem.run_pure]) ?_ rfl;rw[hk.key i hi];exact aV.uK (.cons (aV.lit _) (.cons (.c _ _ (hv i hi)) .nil))
   ·cases h
  ·cases h
 ·cases h
theorem run_next_at{r bm since c0:Nat}{seen:Array Nat}{es:Array MapEntry}{clock:Nat}(ty:TypeId)(hr:w.heap[r]? =some (.mapIter (some bm) since seen c0))(hb:w.heap[bm]? =some (.map es clock))
  (hold: ∀x∈es.toList,x.born<since) (hsc:since≤c0):
  ((leftOf es seen).size=0∧(Instr.next (.pointer (some ⟨r,0,none⟩)) false ty).run P w= .ok (.tuple #[.bool false]) w)∨
  ∃e∈(leftOf es seen).toList, ∃w1:World,(w1=w∨w1=w.drew)∧(Instr.next (.pointer (some ⟨r,0,none⟩)) false ty).run P w= .ok (.tuple #[.bool true,e.key,e.val]) (w1.putObj r (.mapIter (some bm) since (seen.push e.born) clock)):=by
 simp only[Instr.next,getObj,Sem.run_bind,Sem.run,hr,hb,Result.andThen,next_test_false seen es since c0 hold hsc,Bool.false_eq_true,if_false];unfold leftOf;have hmem: ∀x∈(Array.filter (λe=> !seen.contains e.born) es).toList,x.born<since:=λx hx=>hold x (by simp at hx⊢;exact hx.1)
 generalize Array.filter (λe=> !seen.contains e.born) es=L at hmem⊢;have e1:L.filter (λx=>decide (x.born<since))=L:=Array.filter_eq_self.2 (λx hx=>by simpa using hmem x (by simpa using hx));have e2:L.filter (λx=>decide (x.born≥since))= #[]:=by
  rw[Array.filter_eq_empty_iff];intro x hx;have:=hmem x (by simpa using hx);simp;omega
 simp only[e1,e2,Array.append_empty];by_cases h0:L.size=0
 ·left
  have:L= #[]:=Array.eq_empty_of_size_eq_zero h0;subst this;refine⟨rfl,?_⟩;simp[choose,Sem.run,Question.forced]
 ·right
  have hne:L.isEmpty=false:=by simp[Array.isEmpty,h0]
  simp only[hne,Bool.false_eq_true,if_false,Array.empty_append,Array.size_map];have hch: ∃(j:Nat) (w1:World),j<L.size∧(w1=w∨w1=w.drew)∧(choose (Question.mapNext L.size)).run P w= .ok j w1:=by
   by_cases hf:L.size≤1
   ·exact⟨0,w,by omega,.inl rfl,by simp[choose,Sem.run,Question.forced,hf]⟩
   ·exact⟨_,w.drew,Nat.mod_lt _ (by omega),.inr rfl,by
     simp only[choose,Sem.run,Question.forced,dS,hf,if_false,Question.cut];rfl⟩
  obtain⟨j,w1,hj,hal,hrun⟩:=hch;refine⟨L[j],by simp,w1,hal,?_⟩;have hr1:w1.heap[r]? =some (.mapIter (some bm) since seen c0):=by rcases hal with rfl|rfl<;>exact hr
  have hset: ∀o',(setObj r o').run P w1= .ok () (w1.putObj r o'):=λo'=>by simp[setObj,Sem.run,hr1,World.putObj]
  simp only[hrun,Array.getElem?_map,Array.getElem?_eq_getElem hj,Option.map_some,Sem.run_bind,hset,Result.andThen];rfl
theorem aaY{es:List (Int×IV)}{entries:Array MapEntry}(hk:wC es entries es.length){seen:List Nat}{i:Nat}:
  (i<es.length∧(seen.any λj=>beq i j)=false)→entries.getD i me0∈(leftOf entries seen.toArray).toList:=by
 rintro⟨hi,hns⟩;have hisz:i<entries.size:=by rw[hk.size];exact hi
 have e1:entries.getD i me0=entries[i]:=by simp[nS,hisz]
 unfold leftOf;rw[Array.mem_toList_iff,Array.mem_filter];refine⟨by rw[e1];exact Array.getElem_mem hisz,?_⟩;rw[hk.born i hi];have:i∉seen:=by
  intro hm;have:=List.any_eq_false.1 hns i hm;simp at this
 simpa using this
theorem mem_left{es:List (Int×IV)}{entries:Array MapEntry}(hk:wC es entries es.length){seen:List Nat}{e:MapEntry}(he:e∈(leftOf entries seen.toArray).toList):
  ∃i,i<es.length∧(seen.any λj=>beq i j)=false∧e=entries.getD i me0:=by
 unfold leftOf at he;rw[Array.mem_toList_iff,Array.mem_filter]at he;obtain⟨h1,h2⟩:=he;obtain⟨i,hi,rfl⟩:=Array.mem_iff_getElem.1 h1;have hie:i<es.length:=by rw[←hk.size];exact hi
 have e1:entries.getD i me0=entries[i]:=by simp[nS,hi]
 refine⟨i,hie,?_,e1.symm⟩;have hb:=hk.born i hie;rw[e1]at hb;rw[hb]at h2;rw[List.any_eq_false];intro j hj hij;have:i=j:=by simpa using hij
 subst this;simp[hj]at h2
theorem Y3(H:Holds C B S a w){x:Operand}(hop:o.op= .next x false){rs:List Eff}(h:aaM S.mem (bQ S.tm x)=some rs)(hK: ∀r∈rs,Cont C B slot (S.apply o.dst r) K):o.sZ P a w K Q:=by
 have hx:=bG H x;unfold aaM at h
 split at h
 ·rename_i b hxe
  rw[hxe]at hx;obtain⟨β,hβ,oh⟩:=hx.lV
  split at h
  ·rename_i es seen hm
   obtain⟨bm,entries,xR,hne,hbm,hA,hbw,hk,hv,hs⟩:=aaX H hm hβ;have hold: ∀y∈entries.toList,y.born<es.length:=by
    intro y hy;obtain⟨i,hi,rfl⟩:=List.mem_iff_getElem.1 hy;have hi':i<entries.size:=by simpa using hi
    have hie:i<es.length:=by rw[←hk.size];exact hi'
    have e1:entries.getD i me0=entries.toList[i]:=by simp[nS,hi']
    rw[←e1,hk.born i hie];exact hie
   have hL: ∀i,i∈(List.range es.length).filter (λi=> !(seen.any λj=>beq i j))↔(i<es.length∧(seen.any λj=>beq i j)=false):=by
    intro i;simp only[List.mem_filter,List.mem_range,Bool.not_eq_true']
   have yg: ∀v w',(Instr.next (.pointer (some ⟨β,0,none⟩)) false o.type).run P w= .ok v w'→(execOp a.eval o).run P w= .ok (.value v) w':=λv w' hr=>by
    simp only[execOp,hop,oh,Sem.run_bind,hr,Result.andThen_ok,Sem.run_pure]
   rcases run_next_at (P:=P) o.type xR hbm hold (Nat.le_refl _)with⟨h0,hrun⟩|⟨e,he,w1,hw1,hrun⟩
   ·split at h
    ·cases h
     refine dF H (hK _ (List.mem_singleton.2 rfl)) (v:= .tuple #[.bool false]) (yg _ _ hrun) ?_ rfl;exact aV.uK (.cons (aV.lit _) .nil)
    ·rename_i i l hfl
     have hi:i∈(List.range es.length).filter (λi=> !(seen.any λj=>beq i j)):=by rw[hfl];simp
     have:=aaY hk ((hL i).1 hi);have hemp:(leftOf entries seen.toArray).toList=[]:=by
      have:(leftOf entries seen.toArray)= #[]:=Array.eq_empty_of_size_eq_zero h0;rw[this]
     rw[hemp]at this;cases this
   ·obtain⟨i,hi,hns,rfl⟩:=mem_left hk he
    have hmem:=(hL i).2 ⟨hi,hns⟩
    split at h
    ·rename_i hfl
     rw[hfl]at hmem;cases hmem
    ·rename_i i0 l hfl
     cases h;rw[hfl]at hmem;have hKi:=hK _ (List.mem_map.2 ⟨i,hmem,rfl⟩);have H1:Holds C B S a w1:=by
      rcases hw1 with rfl|rfl
      ·exact H
      ·exact H.move (Below.refl _ w).drew
     have apP:w1.heap[β]? =some (.mapIter (some bm) es.length seen.toArray es.length):=by rcases hw1 with rfl|rfl<;>exact xR
     have asg:w1.heap[bm]? =some (.map entries es.length):=by rcases hw1 with rfl|rfl<;>exact hbm
     have ash:bm<w1.heap.size:=by rcases hw1 with rfl|rfl<;>exact hbw
     have hv1: ∀i,i<es.length→jd (aU C.A0 B S.mem) w1 (es.getD i mz).2 (entries.getD i me0).val:=by
      rcases hw1 with rfl|rfl
      ·exact hv
      ·exact λi hi=>(hv i hi).trans (.of_below (Below.refl _ w).drew) (λ_ _ h=>h)
     have hent:fZ (aU C.A0 B S.mem) B w1 (.KF es (seen++[i])) (some (.mapIter (some bm) es.length (seen.toArray.push i) es.length)):=by
      have:=fZ.KF (A:=aU C.A0 B S.mem) (B:=B) (w:=w1) es (seen++[i]) bm (.mq es bm _ entries hA ash asg hk hv1) (λj hj=>by
       rcases List.mem_append.1 hj with hj|hj
       ·exact hs j hj
       ·obtain rfl:=List.mem_singleton.1 hj
        exact hi)
      simpa using this
     have H2:=H1.akJ hm hβ apP (λ_ _ _ h=>by cases h) hent;have hb:=hk.born i hi;rw[hb]at hrun;refine jU hKi (w':=w1.putObj β (.mapIter (some bm) es.length (seen.toArray.push i) es.length)) (B':=B) (v:= .tuple #[.bool true,(entries.getD i me0).key,(entries.getD i me0).val]) (yg _ _ hrun) H2 ?_ (λ_ _=>rfl);rw[hk.key i hi];have hvr:=hv1 i hi;have ht:Trans (aU C.A0 B S.mem) w1 (w1.putObj β (.mapIter (some bm) es.length (seen.toArray.push i) es.length)):=by
      refine⟨by simp,λb' hb' hn=>World.putObj_heap_other (by rintro rfl;exact hn (.inr ⟨b,_,hm,hβ⟩)),λb' _ D t2 fz2 hD=> ?_⟩;by_cases hbb:b'=β
      ·subst hbb
       rw[apP]at hD;cases hD
      ·exact⟨D,t2,fz2,by rw[World.putObj_heap_other hbb];exact hD,rfl⟩
     have hA2: ∀b',b'<w1.heap.size→aU C.A0 B (bV S.mem [(b,some (gJ.KF es (seen++[i])))]) b'→aU C.A0 B S.mem b':=by
      intro b' _ h;rcases h with h|⟨j,e2,h1,h2⟩
      ·exact .inl h
      ·simp only[bV,bF]at h1
       by_cases hj:j=b
       ·subst hj;exact .inr ⟨j,_,hm,h2⟩
       ·simp only[hj,if_false]at h1;exact .inr ⟨j,e2,h1,h2⟩
     exact aV.uK (.cons (aV.lit _) (.cons (aV.lit _) (.cons (.c _ _ (hvr.trans ht hA2)) .nil)))
  ·cases h
 ·cases h
end
end Go.bA
namespace Go.bA
open Go.RowKit
def alr(P:Program)(f:FuncId)(vs:Array Value)(w:World)(R:Ending→World→Prop):Prop:=
 ((callFunc f vs).run P w= .ok (.enter f vs) w∧Calls P f vs w R)∨ ∃v w',(callFunc f vs).run P w= .ok (.value v) w'∧R (.returned v) w'
def afE(P:Program)(vs:Array Value)(w:World)(R:Ending→World→Prop):Prop:=
 ∃l rest,vs= #[pF l]++rest∧ ∃fn tmps assign body,(Instr.yield l rest).run P w= .ok (.round l fn tmps assign body) w∧RoundIn Fence.wide 0 P l fn tmps assign body w R
def gF(P:Program)(f:FuncId)(vs:Array Value)(w:World)(R:Ending→World→Prop):Prop:=
 ((P.funcs[f]?).isSome=true∧alr P f vs w R)∨(f=jo∧afE P vs w R)
theorem gF.enter{P:Program}{f:FuncId}{fn:Func}{vs:Array Value}{w:World}{R:Ending→World→Prop}(hf:P.funcs[f]? =some fn)(h:(callFunc f vs).run P w= .ok (.enter f vs) w∧Calls P f vs w R):gF P f vs w R:=
 .inl ⟨by rw[hf];rfl,.inl h⟩
theorem gF.value{P:Program}{f:FuncId}{fn:Func}{vs:Array Value}{w:World}{R:Ending→World→Prop}(hf:P.funcs[f]? =some fn)(h: ∃v w',(callFunc f vs).run P w= .ok (.value v) w'∧R (.returned v) w'):gF P f vs w R:=
 .inl ⟨by rw[hf];rfl,.inr h⟩
theorem gF.mono{P:Program}{f:FuncId}{vs:Array Value}{w:World}{R R':Ending→World→Prop}(h:gF P f vs w R)(hr: ∀e w',R e w'→R' e w'):gF P f vs w R':=by
 rcases h with⟨hs,⟨h1,h2⟩|⟨v,w',h1,h2⟩⟩|⟨hf,l,rest,hv,fn,tmps,asL,bo,h1,h2⟩
 ·exact .inl ⟨hs,.inl ⟨h1,h2.mono hr⟩⟩
 ·exact .inl ⟨hs,.inr ⟨v,w',h1,hr _ _ h2⟩⟩
 ·exact .inr ⟨hf,l,rest,hv,fn,tmps,asL,bo,h1,h2.mono hr⟩
def su(s:Spec):Prop:= ∀slot m m' args r,s slot m args=some r→(∀k∈r.reads,m' k=m k)→s slot m' args=some r
structure lG (C:Ctx) (P:Program) (f:FuncId) (s:Spec):Prop where
 look:su s
 sound: ∀slot args r (B:dI) (S:St) (a:Act) (w:World) (vs:List Value),s slot S.mem args=some r→C.Ok→Holds C B S a w→B slot=none→Between C S slot→(∀p∈r.conds,p)→
  dN (aU C.A0 B S.mem) B w args vs→gF P f vs.toArray w λe w'=> ∃v B',e= .returned v∧Holds C B' {S with mem:=bV S.mem r.upd} a w'∧
   aV (aU C.A0 B' (bV S.mem r.upd)) B' w' r.val v∧ ∀j,j≠slot→B' j=B j
structure aH (P:Program) (f:FuncId) (s:Spec):Prop where
 look: ∀slot m m' args r,s slot m args=some r→(∀k∈r.reads,m' k=m k)→s slot m' args=some r
 sound: ∀slot args r (C:Ctx) (B:dI) (S:St) (a:Act) (w:World) (vs:List Value),s slot S.mem args=some r→C.Ok→Holds C B S a w→B slot=none→Between C S slot→(∀p∈r.conds,p)→
  dN (aU C.A0 B S.mem) B w args vs→gF P f vs.toArray w λe w'=> ∃v B',e= .returned v∧Holds C B' {S with mem:=bV S.mem r.upd} a w'∧
   aV (aU C.A0 B' (bV S.mem r.upd)) B' w' r.val v∧ ∀j,j≠slot→B' j=B j
theorem aH.at{P:Program}{f:FuncId}{s:Spec}(h:aH P f s)(C:Ctx):lG C P f s:=⟨h.look,λslot args r B S a w vs=>h.sound slot args r C B S a w vs⟩
theorem y9{P:Program}{Γ:FuncId→Option Spec}(h: ∀f s,Γ f=some s→aH P f s)(C:Ctx): ∀f s,Γ f=some s→lG C P f s:=λf s hs=>(h f s hs).at C
structure aF (P:Program) (f:FuncId) (s:List AV→Option (AV×List Bool)):Prop where
 sound: ∀args v conds,s args=some (v,conds)→bA.dY v=true∧
  ∀(A:Nat→Prop) (w:World) (vs:List Value),(∀b,A b→b<w.heap.size)→(∀p∈conds,p)→dN A (λ_=>none) w args vs→
   gF P f vs.toArray w λe w'=> ∃u,e= .returned u∧aV A (λ_=>none) w' v u∧Below w.heap.size w w'
theorem dN.dY{A:Nat→Prop}{B B':dI}{w:World}{l:List AV}{cs:List Value}(h:dN A B w l cs)(hn:uH l=true):dN A B' w l cs:=
 ⟨h.1,λj hj=>(h.2 j hj).dY (tO hn j hj) B'⟩
theorem Y4(m:Mem)(b n sz:Nat):(∃n' el t,m b=some (.arr n' sz el t)∧fM m (.fK b n sz)=(.c (.sl n sz el),[decide (n≤n')]))∨fM m (.fK b n sz)=(.fK b n sz,[]):=by
 simp only[fM]
 split
 ·rename_i n' sz' el t hm
  cases hb:beq sz sz' with
  | true=>
    obtain rfl:sz=sz':=by simpa using hb
    exact .inl ⟨n',el,t,hm,by simp⟩
  | false=>exact .inr (by simp)
 ·exact .inr rfl
def viewed(B:dI)(m:Mem)(ids:List Nat)(b:Nat):Prop:= ∃s∈ids, ∃e,m s=some e∧B s=some b
section
variable{C:Ctx}{B:dI}{S:St}{a:Act}{w:World}
mutual
theorem pK(H:Holds C B S a w){A:Nat→Prop}(hA: ∀b,A b→aU C.A0 B S.mem b): ∀(x:AV) (v:Value),aV (aU C.A0 B S.mem) B w x v→(∀b,A b→ ¬viewed B S.mem (qB x) b)→(∀p∈(fM S.mem x).2,p)→
  aV A B w (fM S.mem x).1 v
 | .fK b n sz,v,h,hv,hc=>by
   rcases Y4 S.mem b n sz with⟨n',el,t,hm,he⟩|he
   ·rw[he]at hc⊢
    have hle:n≤n':=dec (hc _ (by simp));have hvs:qN S.mem (.fK b n sz)=some (n,sz,el,[decide (n≤n')],[b]):=by simp[qN,hm]
    obtain⟨ad,cap,rfl,hn,hsl⟩:=wF H h hvs (by intro p hp;simp only[List.mem_singleton]at hp;subst hp;exact dK hle);cases h with
    | tu=>exact .c _ _ (.nil sz el)
    | fK _ _ _ _ β hβ _ _ _=>
      rcases H.mem b _ hm with⟨γ,hγ,hent⟩|⟨hno,_⟩
      ·rw[hβ]at hγ
       cases hγ;obtain⟨_,_,_,hsl2⟩:=Gz hent;obtain⟨b',off',he',hb,hl,hh⟩:=hsl2 n hle;simp only[fu,Addr.mk.injEq,and_true]at he';obtain⟨rfl,rfl⟩:=he';refine .c _ _ (.sl n sz el β 0 cap (λhAb=>hv β hAb ⟨b,by simp[qB],_,hm,hβ⟩) hb hn hl (λk j hk hj=>⟨(hh k j hk hj).1,(hh k j hk hj).2.1⟩) λk j hk hj=> ?_);exact(hh k j hk hj).2.2.trans (Trans.refl _ _) (λb _ h=>hA b h)
      ·rw[hβ]at hno;cases hno
   ·rw[he]
    exact h.trans (Trans.refl _ _) (λb _ h=>hA b h) (λ_ _ h=>h)
 | .agg l,v,h,hv,hc=>by
   obtain⟨cs,rfl,hr⟩:=h.kD;simp only[fM]at hc⊢;exact aV.sj (vw H hA l cs hr (by simpa[qB]using hv) hc)
 | .fG l,v,h,hv,hc=>by
   obtain⟨cs,rfl,hr⟩:=h.BU;simp only[fM]at hc⊢;exact aV.uK (vw H hA l cs hr (by simpa[qB]using hv) hc)
 | .c x,v,h,hv,hc=>h.trans (Trans.refl _ _) (λb _ h=>hA b h) (λ_ _ h=>h)
 | .ptr b off,v,h,hv,hc=>h.trans (Trans.refl _ _) (λb _ h=>hA b h) (λ_ _ h=>h)
 | .jr b k j sz,v,h,hv,hc=>h.trans (Trans.refl _ _) (λb _ h=>hA b h) (λ_ _ h=>h)
 | .H9 b k n sz,v,h,hv,hc=>h.trans (Trans.refl _ _) (λb _ h=>hA b h) (λ_ _ h=>h)
 | .fB l,v,h,hv,hc=>h.trans (Trans.refl _ _) (λb _ h=>hA b h) (λ_ _ h=>h)
 | .fn f l,v,h,hv,hc=>h.trans (Trans.refl _ _) (λb _ h=>hA b h) (λ_ _ h=>h)
 | .omap b,v,h,hv,hc=>by
   have he:(∃es,S.mem b=some (.uG es)∧fM S.mem (.omap b)=(.c (.mq es),[]))∨fM S.mem (.omap b)=(.omap b,[]):=by
    unfold fM
    split
    ·rename_i es hm;exact .inl ⟨es,hm,rfl⟩
    ·exact .inr rfl
   rcases he with⟨es,hm,he⟩|he
   ·rw[he]
    cases h with
    | omap _ β hβ=>
      rcases H.mem b _ hm with⟨γ,hγ,hent⟩|⟨hno,_⟩
      ·rw[hβ]at hγ
       cases hγ;generalize xR:w.heap[β]? =ob at hent;cases hent with
       | uG _ entries clock hk hvs=>
         exact .c _ _ (.mq es β clock entries (λhAb=>hv β hAb ⟨b,by simp[qB],_,hm,hβ⟩) (lt_of_heap xR) xR hk λi hi=>(hvs i hi).trans (Trans.refl _ _) (λb _ h=>hA b h))
      ·rw[hβ]at hno;cases hno
   ·rw[he]
    exact h.trans (Trans.refl _ _) (λb _ h=>hA b h) (λ_ _ h=>h)
 | .any,v,h,hv,hc=> .any v
theorem vw(H:Holds C B S a w){A:Nat→Prop}(hA: ∀b,A b→aU C.A0 B S.mem b): ∀(l:List AV) (cs:List Value),dN (aU C.A0 B S.mem) B w l cs→(∀b,A b→ ¬viewed B S.mem (uY l) b)→(∀p∈(lq S.mem l).2,p)→
  dN A B w (lq S.mem l).1 cs
 | [],cs,h,hv,hc=>by obtain rfl:=h.nZ;exact .nil
 | x::l,cs,h,hv,hc=>by
   obtain⟨v,cs',rfl,h1,h2⟩:=h.head;simp only[lq]at hc⊢;refine .cons (pK H hA x v h1 (λb hb hw=> ?_) (λp hp=>hc p (by simp[hp]))) (vw H hA l cs' h2 (λb hb hw=> ?_) (λp hp=>hc p (by simp[hp])))
   ·obtain⟨s,hs,e,h⟩:=hw
    exact hv b hb ⟨s,by simp[uY,hs],e,h⟩
   ·obtain⟨s,hs,e,h⟩:=hw
    exact hv b hb ⟨s,by simp[uY,hs],e,h⟩
end
end
mutual
theorem IC{m m':Mem}: ∀(x:AV),(∀k∈qB x,m' k=m k)→fM m' x=fM m x
 | .fK b n sz,h=>by simp only[fM];rw[h b (by simp[qB])]
 | .agg l,h=>by simp only[fM];rw[wH l (by simpa[qB]using h)]
 | .fG l,h=>by simp only[fM];rw[wH l (by simpa[qB]using h)]
 | .c _,_=>rfl
 | .ptr _ _,_=>rfl
 | .jr _ _ _ _,_=>rfl
 | .H9 _ _ _ _,_=>rfl
 | .fB _,_=>rfl
 | .fn _ _,_=>rfl
 | .omap b,h=>by simp only[fM];rw[h b (by simp[qB])]
 | .any,_=>rfl
theorem wH{m m':Mem}: ∀(l:List AV),(∀k∈uY l,m' k=m k)→lq m' l=lq m l
 | [],_=>rfl
 | x::l,h=>by
   simp only[lq];rw[IC x (λk hk=>h k (by simp[uY,hk])),wH l (λk hk=>h k (by simp[uY,hk]))]
end
mutual
theorem Lu{A A':Nat→Prop}{B B':dI}{w w':World}: ∀(x:AV) (v:Value),nU x=true→aV A B w x v→aV A' B' w' x v
 | .c (.v x),v,_,h=>by obtain rfl:=h.plain;exact aV.lit _
 | .agg l,v,hp,h=>by
   obtain⟨cs,rfl,hr⟩:=h.kD;exact aV.sj (Bc l cs (by simpa[nU]using hp) hr)
 | .fG l,v,hp,h=>by
   obtain⟨cs,rfl,hr⟩:=h.BU;exact aV.uK (Bc l cs (by simpa[nU]using hp) hr)
 | .c (.sl _ _ _),_,h,_=>by simp[nU]at h
 | .ptr _ _,_,h,_=>by simp[nU]at h
 | .jr _ _ _ _,_,h,_=>by simp[nU]at h
 | .fK _ _ _,_,h,_=>by simp[nU]at h
 | .H9 _ _ _ _,_,h,_=>by simp[nU]at h
 | .fB _,_,h,_=>by simp[nU]at h
 | .fn _ _,_,h,_=>by simp[nU]at h
 | .any,_,h,_=>by simp[nU]at h
theorem Bc{A A':Nat→Prop}{B B':dI}{w w':World}: ∀(l:List AV) (cs:List Value),Ic l=true→dN A B w l cs→dN A' B' w' l cs
 | [],cs,_,h=>by obtain rfl:=h.nZ;exact .nil
 | x::l,cs,hp,h=>by
   obtain⟨v,cs',rfl,h1,h2⟩:=h.head;simp only[Ic,bI]at hp;exact .cons (Lu x v hp.1 h1) (Bc l cs' hp.2 h2)
end
theorem Holds.drops{C:Ctx}{B:dI}{a:Act}{w:World}: ∀(ids:List Nat) (S:St),Holds C B S a w→Holds C B {S with mem:=bV S.mem (ids.map λb=>(b,none))} a w
 | [],S,H=>H
 | b::ids,S,H=>Holds.drops ids _ (H.drop b)
theorem pO(ids:List Nat): ∀(m:Mem) (s:Nat) (e:gJ),(bV m (ids.map λb=>(b,none))) s=some e→s∉ids∧m s=some e:=by
 induction ids with
 | nil=>intro m s e h;exact⟨by simp,h⟩
 | cons b ids ih=>
   intro m s e h;simp only[List.map_cons,bV]at h;obtain⟨h1,h2⟩:=ih _ s e h;rw[bF]at h2;by_cases hs:s=b
   ·simp[hs]at h2
   ·simp only[hs,if_false]at h2
    exact⟨by simp[hs,h1],h2⟩
theorem BZ(m:Mem): ∀(l k:List (Nat×Option gJ)),bV m (l++k)=bV (bV m l) k
 | [],k=>rfl
 | (b,e)::l,k=>BZ (m.set b e) l k
theorem El{P:Program}{C:Ctx}{B:dI}{S:St}{a:Act}{w:World}{o:Oper}{r:Eff}{slot:Nat}{K:Act→World→Prop}{Q:Exit→Act→World→Prop}
  (H:Holds C B S a w) (hC:C.Ok) (hs:B slot=none) (hnx:Between C S slot) {t:TypeId} {n:Nat} {ps:Array (Nat×Operand)} (hop:o.op= .buildSlice t n ps)
  (h:nI P slot S.mem t n (ps.toList.map λ(i,x)=>(i,bQ S.tm x))=some r) (hc: ∀p∈r.conds,p) (hK:Cont C B slot (S.apply o.dst r) K):o.sZ P a w K Q:=by
 unfold nI at h;generalize hxs:(ps.toList.map λ(i,x)=>(i,bQ S.tm x))=xs at h;cases hany:(xs.any λp=> !(qB p.2).isEmpty)with
 | false=>
   rw[hany]at h;simp only[cond_false]at h;rw[←hxs]at h;exact Gj H hC hs hnx hop h hK
 | true=>
   rw[hany]at h;simp only[cond_true,Option.map_eq_some_iff]at h;obtain⟨r0,h0,rfl⟩:=h;generalize TK:(xs.map λp=>qB p.2).flatten=ids at hK;have apQ: ∀p∈xs, ∀x∈qB p.2,x∈ids:=by
    intro p hp x hx;rw[←TK];exact List.mem_flatten.2 ⟨qB p.2,List.mem_map.2 ⟨p,hp,rfl⟩,hx⟩
   have H':=Holds.drops ids S H;refine yh H' hC hs hnx hop (xs.map λp=>(p.1,(fM S.mem p.2).1)) (by rw[←hxs];simp) (λj hj=> ?_) h0 ?_
   ·have hjx:j<xs.length:=by simpa using hj
    have hj':j<ps.toList.length:=by rw[←hxs]at hjx;simpa using hjx
    have hxj:xs[j]=(ps.toList[j].1,bQ S.tm ps.toList[j].2):=by
     have:xs[j]? =(ps.toList.map λ(i,x)=>(i,bQ S.tm x))[j]? :=by rw[hxs]
     rw[List.getElem?_eq_getElem hjx,List.getElem?_map,List.getElem?_eq_getElem hj']at this;simpa using this
    simp only[dJ,List.getElem?_map,List.getElem?_eq_getElem hj',List.getElem?_eq_getElem hjx,Option.map_some,Option.getD_some];rw[hxj];refine⟨rfl,pK H (λb hb=> ?_) _ _ (bG H _) (λb hb=> ?_) (λp hp=> ?_)⟩
    ·rcases hb with hb|⟨t,e,h1,h2⟩
     ·exact .inl hb
     ·obtain⟨_,h4⟩:=pO ids S.mem t e h1
      exact .inr ⟨t,e,h4,h2⟩
    ·rintro⟨t,ht,e,h1,h2⟩
     rcases hb with hb|⟨t',e',h3,h4⟩
     ·rcases(H.old t b h2).1 with h3|h3
      ·exact absurd (hC.a0 b hb) (Nat.not_lt.2 h3)
      ·exact hC.Il b hb h3
     ·obtain⟨h5,h6⟩:=pO ids S.mem t' e' h3
      refine h5 (H.inj t' t e' e b h6 h1 h4 h2 ▸ apQ xs[j] (List.getElem_mem hjx) t ?_);rw[hxj];exact ht
    ·refine hc p ?_
     simp only[List.mem_append];refine .inl (List.mem_flatten.2 ⟨(fM S.mem xs[j].2).2,List.mem_map.2 ⟨xs[j],List.getElem_mem hjx,rfl⟩,?_⟩);rw[hxj];exact hp
   ·have:(St.apply {S with mem:=bV S.mem (ids.map λb=>(b,none))} o.dst r0)=S.apply o.dst {r0 with conds:=(xs.map λp=>(fM S.mem p.2).2).flatten++r0.conds,upd:=(ids.map λb=>(b,none))++r0.upd,reads:=ids}:=by
     simp only[St.apply,BZ]
    rw[this];exact hK
theorem Ca{P:Program}{slot:Nat}{m m':Mem}{t:TypeId}{n:Nat}{xs:List (Nat×AV)}{r:Eff}(h:nI P slot m t n xs=some r)(hm: ∀s∈r.reads,m' s=m s):nI P slot m' t n xs=some r:=by
 unfold nI at h⊢;cases hany:(xs.any λp=> !(qB p.2).isEmpty)with
 | false=>
   rw[hany]at h;exact h
 | true=>
   rw[hany]at h;simp only[cond_true]at h⊢;have hl: ∀p∈xs,fM m' p.2=fM m p.2:=by
    intro p hp;refine IC p.2 λk hk=>hm k ?_
    obtain⟨r0,_,rfl⟩:=Option.map_eq_some_iff.1 h;exact List.mem_flatten.2 ⟨qB p.2,List.mem_map.2 ⟨p,hp,rfl⟩,hk⟩
   have e1:(xs.map λp=>(p.1,(fM m' p.2).1))=xs.map λp=>(p.1,(fM m p.2).1):=List.map_congr_left λp hp=>by rw[hl p hp]
   have e2:(xs.map λp=>(fM m' p.2).2)=xs.map λp=>(fM m p.2).2:=List.map_congr_left λp hp=>by rw[hl p hp]
   rw[e1,e2];exact h
theorem aF.spec{P:Program}{f:FuncId}{s:List AV→Option (AV×List Bool)}(h:aF P f s):aH P f (au s) where
 look:=by
  intro slot m m' args r hr hk;unfold au at hr⊢;cases hn:uH (lq m args).1 with
  | false=>simp[hn]at hr
  | true=>
    have TK:r.reads=uY args:=by
     simp only[hn,cond_true]at hr;cases hsa:s (lq m args).1 with
     | none=>simp[hsa]at hr
     | some p=>simp only[hsa,fu]at hr;rw[←hr]
    rw[TK]at hk;rw[wH args hk];exact hr
 sound:=by
  intro slot args r C B S a w vs hr hC H hs hnx hc hv;unfold au at hr;cases hn:uH (lq S.mem args).1 with
  | false=>simp[hn]at hr
  | true=>
    simp only[hn,cond_true]at hr;cases hsa:s (lq S.mem args).1 with
    | none=>simp[hsa]at hr
    | some p=>
      obtain⟨v,conds⟩:=p;simp only[hsa,fu]at hr;subst hr;obtain⟨hnp,hcall⟩:=h.sound (lq S.mem args).1 v conds hsa
      let A:Nat→Prop:=λb=>aU C.A0 B S.mem b∧ ¬viewed B S.mem (uY args) b
      have hargs:dN A (λ_=>none) w (lq S.mem args).1 vs:=
       (vw H (A:=A) (λb h=>h.1) args vs hv (λb h=>h.2) (λp hp=>hc p (by simp[hp]))).dY hn
      refine(hcall A w vs (λb hb=>Tw hC H b hb.1) (λp hp=>hc p (by simp[hp])) hargs).mono ?_;rintro e w' ⟨u,rfl,hrel,hb⟩;have H':=H.move hb;cases hpl:nU v with
      | true=>exact⟨u,B,rfl,H',Lu v u hpl hrel,λ_ _=>rfl⟩
      | false=>
        refine⟨u,B,rfl,Holds.drops (uY args) S H',?_,λ_ _=>rfl⟩;refine(hrel.dY hnp B).trans (Trans.refl _ _) (λb _ hb=> ?_) (λ_ _ h=>h);rcases hb with hb|⟨t,e,h1,h2⟩
        ·refine⟨.inl hb,?_⟩
         rintro⟨t,_,e,_,h2⟩;rcases(H.old t b h2).1 with h3|h3
         ·exact absurd (hC.a0 b hb) (Nat.not_lt.2 h3)
         ·exact hC.Il b hb h3
        ·simp only[cond_false]at h1
         obtain⟨h3,h4⟩:=pO (uY args) S.mem t e h1;refine⟨.inr ⟨t,e,h4,h2⟩,?_⟩;rintro⟨t',h5,e',h6,h7⟩;exact h3 (H.inj t t' e e' b h4 h6 h2 h7 ▸ h5)
section
variable{P:Program}{Γ:FuncId→Option Spec}{C:Ctx}{B:dI}{S:St}{a:Act}{w:World}{o:Oper}{r:Eff}{slot:Nat}
 {K:Act→World→Prop} {Q:Exit→Act→World→Prop}
theorem apply_pure(S:St)(d:Option Tmp)(r:Eff)(h:r.upd=[]):S.apply d r={S with tm:=lF S.tm d r.val}:=by
 unfold St.apply;rw[h];rfl
theorem fE(H:Holds C B S a w)(hK:Cont C B slot (S.apply o.dst r) K){v:Value}(hrun:(execOp a.eval o).run P w= .ok (.value v) w)
  (hrel:aV (aU C.A0 B S.mem) B w r.val v) (hu:r.upd=[]):o.sZ P a w K Q:=by
 unfold Oper.sZ;rw[hrun];refine hK _ _ B ?_ (λ_ _=>rfl);rw[apply_pure S o.dst r hu];exact H.put o.dst hrel
theorem IE(H:Holds C B S a w)(hs:B slot=none)(hnx:Between C S slot)(hC:C.Ok)(hK:Cont C B slot (S.apply o.dst r) K){l:List AV}{t:TypeId}(hr:Ia slot t l=some r)
  {cs:List Value} (hl:dN (aU C.A0 B S.mem) B w l cs)
  (hrun:(execOp a.eval o).run P w= .ok (.value (.pointer (some ⟨w.heap.size,0,none⟩))) (w.alloc (.cells cs.toArray t))):o.sZ P a w K Q:=by
 unfold Ia at hr;cases hr;unfold Oper.sZ;rw[hrun];have h1:=H.alloc hC hs hnx (e:= .cells l t) (ob:= .cells cs.toArray t) (.cells l t cs.toArray (by simpa using hl.1) λj hj=>by simpa[nS,dJ]using hl.2 j hj);have h2:=h1.put (x:= .ptr slot 0) (v:= .pointer (some ⟨w.heap.size,0,none⟩)) o.dst (.ptr slot 0 w.heap.size (by simp[gT]));exact hK _ _ _ h2 (λj hj=>by simp[gT,hj])
theorem Em{f:FuncId}{s:Spec}(h:Ba Γ f=some s):f≠jo∧Γ f=some s:=by
 unfold Ba at h;cases hb:beq f jo with
 | true=>rw[hb]at h;cases h
 | false=>
   rw[hb]at h;exact⟨λhe=>by rw[he]at hb;simp[Nat.beq_refl]at hb,h⟩
theorem za(hΓ: ∀f s,Γ f=some s→lG C P f s)(H:Holds C B S a w)(hs:B slot=none)(hnx:Between C S slot)(hC:C.Ok)(hK:Cont C B slot (S.apply o.dst r) K)(hc: ∀p∈r.conds,p)
  {f:FuncId} {s:Spec} (hf:Ba Γ f=some s) {args:List AV} (hsp:s slot S.mem args=some r) {vs:List Value} (hv:dN (aU C.A0 B S.mem) B w args vs)
  (hrun:(execOp a.eval o).run P w=(callFunc f vs.toArray).run P w):o.sZ P a w K Q:=by
 unfold Oper.sZ;rw[hrun];obtain⟨hne,hf⟩:=Em hf;have h:=(hΓ f s hf).sound slot args r B S a w vs hsp hC H hs hnx hc hv;rcases h with⟨_,h⟩|⟨hy,_⟩
 ·rcases h with⟨h1,h2⟩|⟨v,w',h1,v',B',h2,H',hrel,hB⟩
  ·rw[h1]
   refine h2.mono ?_;rintro e w' ⟨v,B',rfl,H',hrel,hB⟩;exact hK _ _ B' (H'.put o.dst hrel) hB
  ·rw[h1]
   cases h2;exact hK _ _ B' (H'.put o.dst hrel) hB
 ·exact absurd hy hne
theorem TL(hΓ: ∀f s,Γ f=some s→lG C P f s)(H:Holds C B S a w)(hs:B slot=none)(hnx:Between C S slot)(hC:C.Ok)(hK:Cont C B slot (S.apply o.dst r) K)(hc: ∀p∈r.conds,p)
  {s:Spec} (hf:Γ jo=some s) (hno:(P.funcs[jo]?).isNone=true) {l:Nat} {args:List AV} (hsp:s slot S.mem (.c (.v (pF l))::args)=some r) {vs:List Value} (hv:dN (aU C.A0 B S.mem) B w args vs)
  (hrun:(execOp a.eval o).run P w=(Instr.yield l vs.toArray).run P w):o.sZ P a w K Q:=by
 unfold Oper.sZ;rw[hrun];have h:=(hΓ jo s hf).sound slot _ r B S a w (pF l::vs) hsp hC H hs hnx hc (hv.cons (aV.lit _));rcases h with⟨h,_⟩|⟨_,l',rest,he,fn,tmps,asL,bo,h1,h2⟩
 ·cases hq:P.funcs[jo]? with
  | none=>rw[hq]at h;cases h
  | some x=>rw[hq]at hno;cases hno
 ·have he':pF l::vs=pF l'::rest.toList:=by have:=congrArg Array.toList he;simpa using this
  injection he' with e1 e2;have hl:l=l':=by unfold pF at e1;injection e1 with e1;injection e1
  subst hl;have hr:rest=vs.toArray:=by rw[e2]
  subst hr;rw[h1];refine RoundIn.mono h2 ?_;rintro e w' ⟨v,B',rfl,H',hrel,hB⟩;exact hK _ _ B' (H'.put o.dst hrel) hB
theorem lX(f:Operand→Value)(c:Array Operand):(c.toList.map f).toArray=c.map f:=by
 apply Array.ext';simp
theorem En{l:List (Nat×Operand)}{f:Nat×Operand→Nat×AV}(j:Nat)(hj:j<l.length):(l.map f).getD j (0,.any)=f l[j]:=by
 simp[dJ,hj]
theorem IG(n:Int): ∀(es:List (Int×Value)) (entries:List MapEntry) (i:Nat),entries.map (λe=>(e.key,e.val))=es.map (λp=>(Value.int .i64 p.1,p.2))→
  ∃r,Instr.findNow (.int .i64) (.int .i64 n) entries i=some r∧r.map (·.2)=uI n es
 | [],entries,i,h=>by
   obtain rfl:entries=[]:=by simpa using h
   exact⟨none,rfl,rfl⟩
 | p::es,[],i,h=>by simp at h
 | p::es,e::entries,i,h=>by
   simp only[List.map_cons,List.cons.injEq,Prod.mk.injEq]at h;obtain⟨⟨hk,hv⟩,h⟩:=h;simp only[Instr.findNow,hk,Instr.sameNow,if_true,uI];by_cases hn:n=p.1
   ·subst hn
    exact⟨some (i,e.val),by simp,by simp[hv]⟩
   ·have hb:(n==p.1)=false:=by simpa using hn
    obtain⟨r,h1,h2⟩:=IG n es entries (i+1) h;exact⟨r,by simp[hb,h1],by simp[hn,h2]⟩
theorem Qi(H:Holds C B S a w){t:TypeId}{x y:Operand}{ok:Bool}(hop:o.op= .lookup t x y ok)
  (h:M9 P t (bQ S.tm x) (bQ S.tm y) ok=some r) (hK:Cont C B slot (S.apply o.dst r) K):o.sZ P a w K Q:=by
 have hx:=bG H x;have hy:=bG H y;unfold M9 at h
 split at h
 ·rename_i k e es n hu hxe hye
  rw[hxe]at hx;rw[hye]at hy;have hyv:=hy.plain
  split at h
  ·rename_i z hk hz
   simp only[fu]at h;subst h;generalize oh:a.eval x=vx at hx;cases hx with
   | c _ _ hi=>
     cases hi with
     | mp _ b clock entries hA hb hh he=>
       obtain⟨q,h1,h2⟩:=IG n es entries.toList 0 he;have hg:(getObj b).run P w= .ok (.map entries clock) w:=by simp[getObj,Sem.run,hh]
       have afD: ∀em,(Instr.checkKey em 10000 k (.int .i64 n)).run P w= .ok () w:=by
        intro em;have hc: ∀m,(Instr.checkKey em (m+1) k (.int .i64 n)).run P w= .ok () w:=by
         intro m;rw[Instr.checkKey,Sem.run_bind,run_underlying hk,Result.andThen_ok];rfl
        exact hc 9999
       have hfind:(Instr.findKey k (.int .i64 n) entries.toList).run P w= .ok q w:=by
        simp only[Instr.findKey,Sem.run_bind,run_underlying hk,Result.andThen_ok,h1,Sem.run_pure]
       refine fE H hK (v:=if ok then .tuple #[(match uI n es with|some v=>v|none=>z),.bool (uI n es).isSome]else(match uI n es with|some v=>v|none=>z)) ?_ ?_ rfl
       ·cases q with
        | none=>
          simp only[Option.map_none]at h2;simp only[execOp,hop,Instr.lookup,hyv,oh,Sem.run_bind,run_underlying hu,Result.andThen_ok,hg,Sem.run_pure,afD,hfind,vk hz, ←h2];cases ok<;>rfl
        | some q=>
          simp only[Option.map_some]at h2;simp only[execOp,hop,Instr.lookup,hyv,oh,Sem.run_bind,run_underlying hu,Result.andThen_ok,hg,Sem.run_pure,afD,hfind, ←h2];cases ok<;>rfl
       ·cases ok with
        | true=>exact aV.uK (cs:=[(match uI n es with|some v=>v|none=>z),.bool (uI n es).isSome]) (.cons (tQ _) (.cons (aV.lit _) .nil))
        | false=>exact tQ _
  ·cases h
 ·cases h
theorem FI{t:TypeId}{name:String}{f:FuncId}(h:tN P t name=some f): ∃i fs m,P.info? t=some i∧P.underlying t=some (.struct fs)∧i.methods.find? (·.name==name)=some m∧m.func=some (f,false)∧m.path= #[]:=by
 unfold tN at h
 split at h
 ·rename_i i fs hi hu
  split at h
  ·rename_i m hm
   split at h
   ·rename_i g hg
    cases hp:m.path.isEmpty with
    | false=>simp[hp]at h
    | true=>
      simp only[hp,cond_true,fu]at h;subst h;exact⟨i,fs,m,hi,hu,hm,hg,by simpa using hp⟩
   ·cases h
  ·cases h
 ·cases h
theorem Qj{t:TypeId}{name:String}{f:FuncId}(h:tN P t name=some f)(w:World)(n:Nat)(u:Value):(method (n+1) t u name).run P w= .ok (f,u) w:=by
 obtain⟨i,fs,m,hi,hu,hm,hf,hp⟩:=FI h;simp[method,Sem.run_bind,typeInfo,hi,hm,hp,follow,hf,receiverAt,run_underlying hu,Place.get]
theorem Nl{t:TypeId}{name:String}{f:FuncId}(h:tN P t name=some f)(w:World)(n:Nat)(u:Value):(nilAhead (n+1) t u name).run P w= .ok (some false) w:=by
 obtain⟨i,fs,m,hi,hu,hm,hf,hp⟩:=FI h;simp[nilAhead,Sem.run_bind,typeInfo,hi,hm,hp,followBlind,hf,run_underlying hu]
theorem TM{K:Act→World→Prop}{Q:Exit→Act→World→Prop}(hC:C.Ok)(H:Holds C B S a w){t:TypeId}{x y:Operand}(hop:o.op= .store t x y)
  (h:D5 P S.mem t (bQ S.tm x) (bQ S.tm y)=some r) (hc: ∀p∈r.conds,p) (hK:Cont C B slot (S.apply o.dst r) K):o.sZ P a w K Q:=by
 unfold D5 at h
 split at h
 ·rename_i b k j sz c n s hx hy
  split at h
  ·rename_i n' s' el ty hm
   cases hb:(beq s s'&& !beq b c)with
   | false=>rw[hb]at h;cases h
   | true=>
     rw[hb,cond_true]at h;obtain⟨r0,h0,rfl⟩:=Option.map_eq_some_iff.1 h;simp only[bI]at hb;obtain rfl:s=s':=by simpa using hb.1
     have hv:=bG H y;rw[hy]at hv;have e1:fM S.mem (.fK c n s)=(.c (.sl n s el),[decide (n≤n')]):=by simp[fM,hm]
     have hA: ∀i,aU C.A0 B (S.mem.set c none) i→aU C.A0 B S.mem i:=by
      intro i h;rcases h with h|⟨j,e2,h1,h2⟩
      ·exact .inl h
      ·rw[bF]at h1
       by_cases hj:j=c
       ·simp[hj]at h1
       ·simp only[hj,if_false]at h1;exact .inr ⟨j,e2,h1,h2⟩
     have hy':=pK H hA (.fK c n s) (a.eval y) hv (λi hi=>by
      rintro⟨t',ht,e,h1,h2⟩;simp only[qB,List.mem_singleton]at ht;subst ht;rcases hi with hi|⟨q,e',h3,h4⟩
      ·rcases(H.old t' i h2).1 with h3|h3
       ·exact absurd (hC.a0 i hi) (Nat.not_lt.2 h3)
       ·exact hC.Il i hi h3
      ·rw[bF]at h3
       by_cases hq:q=t'
       ·simp[hq]at h3
       ·simp only[hq,if_false]at h3
        exact hq (H.inj q t' e' e i h3 h1 h4 h2)) (by
      rw[e1];intro p hp;simp only[List.mem_singleton]at hp;subst hp;exact hc _ (by simp))
     rw[e1]at hy';exact Lr (S:={S with mem:=S.mem.set c none}) (r:=r0) (H.drop c) hop hy' (by rw[hx];exact h0) (λp hp=>hc p (by simp[hp])) hK
  ·cases h
 ·exact Lr H hop (bG H y) h hc hK
theorem Qk(hΓ: ∀f s,Γ f=some s→lG C P f s)(h:Ah P Γ slot o S.tm S.mem=some r)(hc: ∀p∈r.conds,p)(H:Holds C B S a w)
  (hs:B slot=none) (hnx:Between C S slot) (hC:C.Ok) (hK:Cont C B slot (S.apply o.dst r) K):o.sZ P a w K Q:=by
 unfold Ah at h;cases hop:o.op<;>simp only[hop]at h<;>try (cases h;done)
 case move x=>
  cases h;exact fE H hK (v:=a.eval x) (by simp[execOp,hop]) (bG H x) rfl
 case assign x=>
  cases h;exact fE H hK (v:=a.eval x) (by simp[execOp,hop]) (bG H x) rfl
 case pick c x y=>
  have hcr:=bG H c;have hx:=bG H x;have hy:=bG H y
  split at h
  ·rename_i t hct
   rw[hct]at hcr;have hcv:=hcr.plain;have hrun:(execOp a.eval o).run P w= .ok (.value (if t then a.eval x else a.eval y)) w:=by
    simp[execOp,hop,hcv,asBool]
   split at h
   ·rename_i bx by' hbx hby
    cases h;rw[hbx]at hx;rw[hby]at hy;refine fE H hK hrun ?_ rfl;rw[hx.plain,hy.plain];cases t<;>exact aV.lit _
   ·cases h
    refine fE H hK hrun ?_ rfl;cases t
    ·exact hy
    ·exact hx
  ·cases h
 case alloc t=>
  split at h
  ·rename_i z hz
   split at h
   ·rename_i n e hu
    split at h
    ·rename_i p ze hp hze
     cases hsm:(Nat.ble z.cells.size 16&& !akH P e)with
     | true=>
       rw[hsm]at h;refine IE H hs hnx hC hK h (lW z.cells.toList) ?_;simp[execOp,hop,Instr.alloc,vk hz,newVar,newRow]
     | false=>
     rw[hsm]at h;simp only[cond_false]at h;cases hzc:beq ze.cells.size (p+1)with
     | false=>rw[hzc]at h;cases h
     | true=>
       rw[hzc]at h;exact KL H hC hs hnx hop hz (by simpa using hzc) h hK
    ·cases h
   ·refine IE H hs hnx hC hK h (lW z.cells.toList) ?_
    simp[execOp,hop,Instr.alloc,vk hz,newVar,newRow]
  ·cases h
 case box t x=>
  cases hok:(iP (bQ S.tm x)).all gU with
  | false=>simp[hok]at h
  | true=>
    simp only[hok,cond_true]at h;refine IE H hs hnx hC hK h (y8 (bG H x) (.inl hok)) ?_;simp[execOp,hop,Instr.box,newVar,newRow]
 case build t ps=>
  obtain⟨hu,v,hrun,hrel⟩:=Ng (A:=aU C.A0 B S.mem) (B:=B) (w:=w) h (jT:=ps.map λ(i,x)=>(i,a.eval x)) (by simp) (λj hj=>by
   have hj':j<ps.toList.length:=by simpa using hj
   rw[En j hj'];have:(ps.map λ(i,x)=>(i,a.eval x)).toList.getD j (0,undef)=(ps.toList[j].1,a.eval ps.toList[j].2):=by
    simp[dJ,show j<ps.size by simpa using hj']
   rw[this];exact⟨rfl,bG H _⟩)
  exact fE H hK (v:=v) (by simp[execOp,hop,hrun]) hrel hu
 case makeMap t x=>exact Nk hC H hs hnx hop h hK
 case mapUpdate t x k v=>exact Iz H hop h hc hK
 case range t x=>exact TI hC H hs hnx hop h hK
 case entry x=>exact TJ H hop h hK
 case load t x=>exact YX H hop h hc hK
 case store t x y=>exact TM hC H hop h hc hK
 case nilCheck x=>
  have hx:=bG H x
  split at h
  ·rename_i b off Bb
   cases h;rw[Bb]at hx;obtain⟨β,hβ,hxe⟩:=hx.lV;exact fE H hK (v:= .pointer (some ⟨β,off,none⟩)) (by simp[execOp,hop,hxe]) (.ptr _ _ _ hβ) rfl
  ·rename_i b k j sz Bb
   cases h;rw[Bb]at hx;generalize hv:a.eval x=v at hx;cases hx with
   | jr _ _ _ _ β hβ=>exact fE H hK (v:= .pointer (some ⟨β,k*sz+j,none⟩)) (by simp[execOp,hop,hv]) (.jr _ _ _ _ _ hβ) rfl
  ·rename_i l Bb
   cases h;rw[Bb]at hx;generalize hv:a.eval x=v at hx;cases hx with
   | fB _ b off h1 h2 h3=>exact fE H hK (v:= .pointer (some ⟨b,off,none⟩)) (by simp[execOp,hop,hv]) (.fB _ _ _ h1 h2 h3) rfl
  ·rename_i name first cap hfe
   rw[hfe]at hx;have hv:=hx.plain
   split at h
   ·rename_i t u hfl
    have hf1:first= #[.iface t u]:=Array.ext' (by simpa using hfl);subst hf1;cases hm:tN P t name with
    | none=>simp[hm]at h
    | some f=>
      simp only[hm,Option.isSome_some,cond_true,fu]at h;subst h;refine fE H hK (v:= .func (.method name) #[.iface t u] cap) ?_ (aV.lit _) rfl;have hna:=Nl hm w (P.types.size+99) u;rw[show P.types.size+99+1=P.types.size+Made.depth from rfl]at hna;simp[execOp,hop,hv,Sem.run_bind,hna]
   ·cases h
  ·cases h
 case binOp op t x y yt=>
  obtain⟨hu,v,hrun,hrel⟩:=Tx h hc (bG H x) (bG H y) x y;exact fE H hK (v:=v) (by
   simp only[execOp,hop,Sem.run_bind]at hrun⊢;rw[hrun];rfl) hrel hu
 case unOp op t x=>
  obtain⟨hu,v,hrun,hrel⟩:=YW (P:=P) h (bG H x);exact fE H hK (v:=v) (by simp[execOp,hop,hrun]) hrel hu
 case convert s d x=>exact Qg H hop h hc hK
 case makeSlice t x y=>exact Ip hC H hs hnx hop h hc hK
 case buildSlice t n ps=>exact El H hC hs hnx hop h hc hK
 case indexAddr t x y=>exact Iq H hop h hc hK
 case slice t x lo hi mx=>
  cases hmx:mx with
  | some m=>rw[hmx]at h;simp at h
  | none=>
    rw[hmx]at h;exact TB H hC hop hmx (by simpa using h) hc hK
 case makeFunc fn first cap=>
  split at h
  ·rename_i f
   cases hf:first.isEmpty with
   | false=>
     simp only[hf,cond_false]at h
     split at h
     ·rename_i hfm hcm
      cases h;have hc0:cap= #[]:=by simpa using hcm
      subst hc0;have hl1:first.toList.length=1:=by have:=congrArg List.length hfm;simpa using this
      obtain⟨z,hz⟩: ∃z,first= #[z]:=by
       match first,hl1 with
       | ⟨[z]⟩,_=>exact⟨z,rfl⟩
      subst hz;have hze:bQ S.tm z= .agg []:=by simpa using hfm
      have hzr:=bG H z;rw[hze]at hzr;obtain⟨cs,hzv,hcs⟩:=hzr.kD;have als:cs=[]:=hcs.nZ;subst als;exact fE H hK (v:= .func (.func f) #[.agg #[]] #[]) (by simp[execOp,hop,Instr.makeFunc,hzv]) (aV.lit _) rfl
     ·cases h
   | true=>
     simp only[hf,cond_true]at h;cases h;have hfe:first= #[]:=by simpa using hf
     subst hfe;have hcap:=Li H cap.toList;exact fE H hK (v:= .func (.func f) #[] (cap.toList.map a.eval).toArray) (by simp[execOp,hop,Instr.makeFunc,lX]) (aV.akI hcap) rfl
  ·rename_i name
   split at h
   ·rename_i t u hfm hcm
    cases h;have hc0:cap= #[]:=by simpa using hcm
    subst hc0;have hl1:first.toList.length=1:=by have:=congrArg List.length hfm;simpa using this
    obtain⟨z,hz⟩: ∃z,first= #[z]:=by
     match first,hl1 with
     | ⟨[z]⟩,_=>exact⟨z,rfl⟩
    subst hz;have hze:bQ S.tm z= .c (.v (.iface t u)):=by simpa using hfm
    have hzr:=bG H z;rw[hze]at hzr;have hzv:=hzr.plain;exact fE H hK (v:= .func (.method name) #[.iface t u] #[]) (by simp[execOp,hop,Instr.makeFunc,hzv]) (aV.lit _) rfl
   ·cases h
  ·cases h
 case makeInterface t x=>
  have hx:=bG H x
  split at h
  ·rename_i fs hu hxe
   cases h;rw[hxe]at hx;obtain⟨cs,hxv,hcs⟩:=hx.kD;have als:cs=[]:=hcs.nZ;subst als;exact fE H hK (v:= .iface t (.agg #[])) (by simp[execOp,hop,Instr.makeInterface,Sem.run_bind,run_underlying hu,hxv]) (aV.lit _) rfl
  ·cases h
 case fieldAddr t x f=>exact Ir H hop h hK
 case field t x f=>
  have hx:=bG H x;unfold aaK at h
  split at h
  ·rename_i fs l hu hagg
   rw[hagg]at hx;obtain⟨cs,hxe,o9⟩:=hx.kD
   split at h
   ·rename_i fl hfl
    simp only[Option.map_eq_some_iff]at h;obtain⟨y,hpart,rfl⟩:=h;obtain⟨v,hrun,hrel⟩:=vv (P:=P) o9 hpart;exact fE H hK (v:=v) (by simp[execOp,hop,Instr.field,run_underlying hu,hfl,hxe,asAgg,hrun]) hrel rfl
   ·cases h
  ·cases h
 case index t x i=>
  have hx:=bG H x;have hi:=bG H i;unfold aaL at h
  split at h
  ·rename_i s k n hu hxa hia
   rw[hxa]at hx;rw[hia]at hi;cases h;have hxe:=hx.plain;have hie:=hi.plain;have hlt:=dec (hc (decide (0≤n∧n<(s.data.toList.length:Int))) (by simp));refine fE H hK (v:= .int .u8 (s.data.toList.getD n.toNat 0).toNat) ?_ (aV.lit _) rfl;have hn:n.toNat<s.size:=by have h1:=hlt.2;simp only[Array.length_toList]at h1;show n.toNat<s.data.size;omega
   have hget:s[n.toNat]? =some (s.data.toList.getD n.toNat 0):=by
    rw[getElem?_pos s n.toNat hn]
    congr 1
    have hn':n.toNat<s.data.size:=hn;rw[dJ,Array.getElem?_toList,getElem?_pos s.data _ hn'];rfl
   simp[execOp,hop,Instr.index,hie,asIntOf,run_underlying hu,hxe,hlt.1,hget]
  ·rename_i n e l k i' hu hxa hia
   rw[hxa]at hx;rw[hia]at hi;obtain⟨cs,hxe,o9⟩:=hx.kD;have hie:=hi.plain
   split at h
   ·rename_i sz hsz
    simp only[Option.map_eq_some_iff]at h;obtain⟨y,hpart,rfl⟩:=h;obtain⟨v,hrun,hrel⟩:=vv (P:=P) o9 hpart;have hlt:=dec (hc (decide (0≤i'∧i'<(n:Int))) (by simp));refine fE H hK (v:=v) ?_ hrel rfl;simp[execOp,hop,Instr.index,hie,asIntOf,run_underlying hu,hxe,hlt.1,hlt.2,fC hsz,hrun]
   ·cases h
  ·cases h
 case lookup t x i ok=>exact Qi H hop h hK
 case extract x i=>
  have hx:=bG H x
  split at h
  ·rename_i l asi
   rw[asi]at hx;obtain⟨cs,hxe,o9⟩:=hx.BU;simp only[Option.map_eq_some_iff]at h;obtain⟨y,hy,rfl⟩:=h;obtain⟨v,hv,hrel⟩:=o9.get hy;exact fE H hK (v:=v) (by simp[execOp,hop,Instr.extract,hxe,hv]) hrel rfl
  ·cases h
 case call c=>
  have hargs:=Li H c.args.toList;unfold PW at h
  split at h
  ·rename_i b hb
   have one: ∀{x:AV},c.args.toList.map (bQ S.tm)=[x]→ ∃z,c.args= #[z]∧bQ S.tm z=x:=by
    intro x hx;have:c.args.toList.length=1:=by have:=congrArg List.length hx;simpa using this
    match hca:c.args,this with
    | ⟨[z]⟩,_=>exact⟨z,rfl,by rw[hca]at hx;simpa using hx⟩
   have two: ∀{x y:AV},c.args.toList.map (bQ S.tm)=[x,y]→ ∃z z',c.args= #[z,z']∧bQ S.tm z=x∧bQ S.tm z'=y:=by
    intro x y hx;have:c.args.toList.length=2:=by have:=congrArg List.length hx;simpa using this
    match hca:c.args,this with
    | ⟨[z,z']⟩,_=>exact⟨z,z',rfl,by rw[hca]at hx;simpa using hx⟩
   unfold xU at h
   split at h
   ·rename_i t x hts hxs
    obtain⟨z,hz,rfl⟩:=one hxs;exact aaU H hop hb hts hz h hK
   ·rename_i x y hxs
    obtain⟨z,z',hz,rfl,rfl⟩:=two hxs;exact Qe H hC hs hnx hop hb rfl hz h hc hK
   ·rename_i x y hxs
    obtain⟨z,z',hz,rfl,rfl⟩:=two hxs;exact YZ H hop hb rfl hz h hc hK
   ·rename_i x y hxs
    obtain⟨z,z',hz,rfl,rfl⟩:=two hxs;exact aaV H hop hb hz h hK
   ·rename_i x y hxs
    obtain⟨z,z',hz,rfl,rfl⟩:=two hxs;exact aaW H hop hb hz h hK
   ·rename_i t x hts hxs
    obtain⟨z,hz,rfl⟩:=one hxs;exact aaT H hop hb hts hz h hK
   ·rename_i t x hts hxs
    obtain⟨z,hz,rfl⟩:=one hxs;exact TH H hop hb hts hz h hK
   ·cases h
  ·rename_i f hf
   have hfr:=bG H f
   split at h
   ·rename_i g first cap hfe
    rw[hfe]at hfr;have hfv:=hfr.plain;cases hfc:(first.isEmpty&&cap.isEmpty)with
    | false=>
      simp only[hfc,cond_false]at h;cases TN:(y7 first.toList&&cap.isEmpty)with
      | false=>simp[TN]at h
      | true=>
      simp only[TN,cond_true]at h;simp only[bI,Array.isEmpty_iff]at TN;obtain⟨hu1,rfl⟩:=TN;have hf1:first= #[.agg #[]]:=by
       unfold y7 at hu1
       split at hu1
       ·rename_i cs hcs
        have:cs= #[]:=by simpa using hu1
        subst this;exact Array.ext' (by simpa using hcs)
       ·cases hu1
      subst hf1;cases hg:Ba Γ g with
      | none=>simp[hg]at h
      | some s=>
        simp only[hg,Option.bind_some]at h;refine za hΓ H hs hnx hC hK hc hg h (hargs.cons (x:= .agg []) (v:= .agg #[]) (.agg [] #[] rfl (λj hj=>absurd hj (Nat.not_lt_zero j)))) ?_;rw[show(Value.agg #[]::List.map a.eval c.args.toList).toArray= #[Value.agg #[]]++c.args.map a.eval by rw[←lX];simp];simp[execOp,hop,resolve,hf,hfv,Deferred.ofValue,invoke]
    | true=>
    simp only[hfc,cond_true]at h;simp only[bI,Array.isEmpty_iff]at hfc;obtain⟨rfl,rfl⟩:=hfc;cases hg:Ba Γ g with
    | none=>simp[hg]at h
    | some s=>
      simp only[hg,Option.bind_some]at h;refine za hΓ H hs hnx hC hK hc hg h hargs ?_;rw[lX];simp[execOp,hop,resolve,hf,hfv,Deferred.ofValue,invoke]
   ·rename_i l first cap hfe
    rw[hfe]at hfr;have hfv:=hfr.plain;cases hfc:(first.isEmpty&&(cap.isEmpty&&(P.funcs[jo]?).isNone))with
    | false=>simp[hfc]at h
    | true=>
      simp only[hfc,cond_true]at h;simp only[bI,Array.isEmpty_iff]at hfc;obtain⟨rfl,rfl,hno⟩:=hfc;cases hg:Γ jo with
      | none=>simp[hg]at h
      | some s=>
        simp only[hg,Option.bind_some]at h;refine TL hΓ H hs hnx hC hK hc hg hno h hargs ?_;rw[lX];simp[execOp,hop,resolve,hf,hfv,Deferred.ofValue,invoke]
   ·rename_i g cap hfe
    rw[hfe]at hfr;obtain⟨cs,hfv,hcap⟩:=hfr.Im;cases hg:Ba Γ g with
    | none=>simp[hg]at h
    | some s=>
      simp only[hg,Option.bind_some]at h;refine za hΓ H hs hnx hC hK hc hg h (hargs.append hcap) ?_;rw[show(c.args.toList.map a.eval++cs).toArray=c.args.map a.eval++cs.toArray by rw[←lX];simp];simp[execOp,hop,resolve,hf,hfv,Deferred.ofValue,invoke]
   ·cases h
  ·rename_i recv name hrc
   split at h
   ·rename_i t u hre
    have hrr:=bG H recv;rw[hre]at hrr;have hrv:=hrr.plain;cases hm:tN P t name with
    | none=>simp[hm]at h
    | some g=>
      simp only[hm]at h;cases hg:Ba Γ g with
      | none=>simp[hg]at h
      | some s=>
        simp only[hg,Option.bind_some]at h;refine za hΓ H hs hnx hC hK hc hg h (hargs.cons (tQ u)) ?_;have hrm:=Qj hm w (P.types.size+99) u;rw[show P.types.size+99+1=P.types.size+Made.depth from rfl]at hrm;rw[show(u::List.map a.eval c.args.toList).toArray= #[u]++c.args.map a.eval by rw[←lX];simp];have h0:(#[Value.iface t u]++c.args.map a.eval)[0]? =some (Value.iface t u):=by simp[Array.getElem?_append]
        have h1:(#[Value.iface t u]++c.args.map a.eval).extract 1 (#[Value.iface t u]++c.args.map a.eval).size=c.args.map a.eval:=by
         apply Array.ext'
         simp;exact List.take_of_length_le (by simp)
        simp only[execOp,hop,resolve,hrc,hrv,invoke,Sem.run_bind,Sem.run_pure,Result.andThen_ok,h0,h1,callMethod,run_program,hrm]
   ·cases h
end
end Go.bA
