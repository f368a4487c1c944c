/- Helpers for the proof: no statement of its own. -/
import Derived.Test.YtclnfoepcemloaaGreatDoorT00
import Derived.Test.YtclnfoepcemloaaGreatDoorT01
set_option linter.unusedVariables false
set_option linter.unusedSimpArgs false
set_option linter.unnecessarySimpa false
set_option linter.deprecated false
set_option maxRecDepth 1000000
open Go.IntKind(i64 u64 u32)
open Nat(beq)
open Go.Proofs.Tryz(prog)
open Go.bA.Tr(need ret)
namespace Go.bA
open Go.Proofs
def zo(x:List Nat)(b:List UInt8)(n:Int)(i:Int):Tr (vH ⊕ vH):=
 let x1:Int:= ↑x.length
 let x2:Int:= ↑b.length
 let x3:Int:=i64.wrap (i64.wrap (x2-1)-i64.wrap (4*i))
 let x4:Int:=i64.wrap (x3-0)
 let x5:Nat:=x4.toNat
 let x6:Int:=i64.wrap (0+1)
 let x7:Int:=i64.wrap (x3-x6)
 let x8:Nat:=x7.toNat
 let x9:Int:=i64.wrap (x6+1)
 let x10:Int:=i64.wrap (x3-x9)
 let iW:Nat:=x10.toNat
 let kL:Int:=i64.wrap (x9+1)
 let jA:Int:=i64.wrap (x3-kL)
 let kM:Nat:=jA.toNat
 let mO:Int:=i64.wrap (x3-i64.wrap (kL+1))
 let nu:Nat:=mO.toNat
 let jR:Int:= ↑(x.getD i.toNat 0)
 let x18:List Nat:=aL x.length (aB x)
 let rO:Int:=i64.wrap (i+1)
 let x20:List UInt8:=bytesOf b.length (eD b)
 .ite (decide (i<n)) (.need (decide (0≤i∧i<x1)) (.ite true (.need true (.need (decide (0≤x4∧x4<x2)) (.need (decide (x5<b.length)) (.ite true (.need true (.need (decide (0≤x7∧x7<x2)) (.need (decide (x8<b.length)) (.ite true (.need true (.need (decide (0≤x10∧x10<x2)) (.need (decide (iW<b.length)) (.ite true (.need true (.need (decide (0≤jA∧jA<x2)) (.need (decide (kM<b.length)) (.ite false (.need true (.need (decide (0≤mO∧mO<x2)) (.need (decide (nu<b.length)) (.fail "rounds")))) (.need (decide (b.length=b.length)) (.need (aJ x.length (aB x)) (.need (isBytes b.length (aT (aT (aT (aT (eD b) x5 0 [IV.v (.int IntKind.u8 (IntKind.u8.wrap (jR.fdiv (2^min (i64.wrap (8*0)).toNat u32.bits))))].reverse) x8 0 [IV.v (.int IntKind.u8 (IntKind.u8.wrap (jR.fdiv (2^min (i64.wrap (8*x6)).toNat u32.bits))))].reverse) iW 0 [IV.v (.int IntKind.u8 (IntKind.u8.wrap (jR.fdiv (2^min (i64.wrap (8*x9)).toNat u32.bits))))].reverse) kM 0 [IV.v (.int IntKind.u8 (IntKind.u8.wrap (jR.fdiv (2^min (i64.wrap (8*kL)).toNat u32.bits))))].reverse)) (.ret (Sum.inl {x:=x18,b:=bytesOf b.length (aT (aT (aT (aT (eD b) x5 0 [IV.v (.int IntKind.u8 (IntKind.u8.wrap (jR.fdiv (2^min (i64.wrap (8*0)).toNat u32.bits))))].reverse) x8 0 [IV.v (.int IntKind.u8 (IntKind.u8.wrap (jR.fdiv (2^min (i64.wrap (8*x6)).toNat u32.bits))))].reverse) iW 0 [IV.v (.int IntKind.u8 (IntKind.u8.wrap (jR.fdiv (2^min (i64.wrap (8*x9)).toNat u32.bits))))].reverse) kM 0 [IV.v (.int IntKind.u8 (IntKind.u8.wrap (jR.fdiv (2^min (i64.wrap (8*kL)).toNat u32.bits))))].reverse),n:=n,i:=rO}))))))))) (.need (decide (b.length=b.length)) (.need (aJ x.length (aB x)) (.need (isBytes b.length (aT (aT (aT (eD b) x5 0 [IV.v (.int IntKind.u8 (IntKind.u8.wrap (jR.fdiv (2^min (i64.wrap (8*0)).toNat u32.bits))))].reverse) x8 0 [IV.v (.int IntKind.u8 (IntKind.u8.wrap (jR.fdiv (2^min (i64.wrap (8*x6)).toNat u32.bits))))].reverse) iW 0 [IV.v (.int IntKind.u8 (IntKind.u8.wrap (jR.fdiv (2^min (i64.wrap (8*x9)).toNat u32.bits))))].reverse)) (.ret (Sum.inl {x:=x18,b:=bytesOf b.length (aT (aT (aT (eD b) x5 0 [IV.v (.int IntKind.u8 (IntKind.u8.wrap (jR.fdiv (2^min (i64.wrap (8*0)).toNat u32.bits))))].reverse) x8 0 [IV.v (.int IntKind.u8 (IntKind.u8.wrap (jR.fdiv (2^min (i64.wrap (8*x6)).toNat u32.bits))))].reverse) iW 0 [IV.v (.int IntKind.u8 (IntKind.u8.wrap (jR.fdiv (2^min (i64.wrap (8*x9)).toNat u32.bits))))].reverse),n:=n,i:=rO}))))))))) (.need (decide (b.length=b.length)) (.need (aJ x.length (aB x)) (.need (isBytes b.length (aT (aT (eD b) x5 0 [IV.v (.int IntKind.u8 (IntKind.u8.wrap (jR.fdiv (2^min (i64.wrap (8*0)).toNat u32.bits))))].reverse) x8 0 [IV.v (.int IntKind.u8 (IntKind.u8.wrap (jR.fdiv (2^min (i64.wrap (8*x6)).toNat u32.bits))))].reverse)) (.ret (Sum.inl {x:=x18,b:=bytesOf b.length (aT (aT (eD b) x5 0 [IV.v (.int IntKind.u8 (IntKind.u8.wrap (jR.fdiv (2^min (i64.wrap (8*0)).toNat u32.bits))))].reverse) x8 0 [IV.v (.int IntKind.u8 (IntKind.u8.wrap (jR.fdiv (2^min (i64.wrap (8*x6)).toNat u32.bits))))].reverse),n:=n,i:=rO}))))))))) (.need (decide (b.length=b.length)) (.need (aJ x.length (aB x)) (.need (isBytes b.length (aT (eD b) x5 0 [IV.v (.int IntKind.u8 (IntKind.u8.wrap (jR.fdiv (2^min (i64.wrap (8*0)).toNat u32.bits))))].reverse)) (.ret (Sum.inl {x:=x18,b:=bytesOf b.length (aT (eD b) x5 0 [IV.v (.int IntKind.u8 (IntKind.u8.wrap (jR.fdiv (2^min (i64.wrap (8*0)).toNat u32.bits))))].reverse),n:=n,i:=rO}))))))))) (.need (decide (b.length=b.length)) (.need (aJ x.length (aB x)) (.need (isBytes b.length (eD b)) (.ret (Sum.inl {x:=x18,b:=x20,n:=n,i:=rO}))))))) (.need (decide (b.length=b.length)) (.need (aJ x.length (aB x)) (.need (isBytes b.length (eD b)) (.ret (Sum.inr {x:=x18,b:=x20,n:=n,i:=i})))))
def al0(x:List Nat):Tr AV:=
 let x1:List Nat:=qG (aL x.length (aB x))
 let x2:Nat:=x1.length
 let x3:Int:= ↑x2
 let x4:Int:=i64.wrap (4*x3)
 let x5:Int:= ↑1*x4
 let x6:Nat:=x4.toNat
 let x7:List Nat:=aL x2 (aB x1)
 let x8:Nat:=x7.length
 let x9:Int:= ↑x8
 let x10:Nat:=(bytesOf x6 λx=>List.map IV.v [Value.int IntKind.u8 0]).length
 let iW:Nat:=4*x8
 let kL:List UInt8:=NW x7
 let jA:Nat:=kL.length
 .need (aJ x.length (aB x)) (.need (decide (x.length≤1000000000)) (.ite (x3==0) (.ret (.c (.v (.string {data:= #[]})))) (.need (decide (x4=x4)) (.need (decide (0≤x4)) (.need (decide (x4≤9223372036854775807)) (.need (decide (x5≤140737488355328)) (.need (decide (x6=x6)) (.need (aJ x2 (aB x1)) (.need (isBytes x6 λx=>List.map IV.v [Value.int IntKind.u8 0]) (.need (decide (x3=x9)&&decide (0=0)&&decide (x10=iW)&&okD x7&&decide (x8≤1000000000)) (.need (decide (jA≤jA)) (.need (isBytes jA (eD kL)) (.need true (.ret (.c (.v (.string ⟨⟨List.dropWhile (λx=>x==0) (bytesOf jA (eD kL))⟩⟩)))))))))))))))))
theorem UO(w:Way vH)(y:vH):(exec prog (λ_=>none) dn 1005 (aR 0 (codeOf Tryz.f260)) (eY (QT w).nIn ((QT w).head y))).bind ((QT w).fin 0 0)=zo y.x y.b y.n y.i:=by
 obtain⟨x,b,n,i⟩:=y
 kernel_rfl
theorem agy(x:List Nat):aN prog alZ agx 1005 Tryz.f260 [.c (.sl x.length 1 (aB x))]=al0 x:=by kernel_rfl
theorem zq(l:List UInt8)(k b:Nat)(hk:k<l.length)(hb:b<256):aT (eD l) k 0 [IV.v (.int .u8 (b:Int))].reverse=eD (l.set k (UInt8.ofNat b)):=by
 funext i
 unfold aT;by_cases h:i=k
 ·subst h
  rw[if_pos rfl];simp[eD,dJ,List.getElem?_set_self hk];omega
 ·rw[if_neg h]
  simp[eD,dJ,List.getElem?_set_ne (Ne.symm h)]
theorem Xm(d k:Nat)(hk:k<4):IntKind.u8.wrap ((d:Int).fdiv (2^min (8*k) u32.bits))=((d/256^k%256:Nat):Int):=by
 have e1:min (8*k) u32.bits=8*k:=by
  change min (8*k) 32=8*k
  omega
 rw[e1];have e2:((2:Int)^(8*k))=((256^k:Nat):Int):=by
  rw[show(256:Nat)=2^8 from rfl, ←Nat.pow_mul];simp
 rw[e2,kN,wrap_u8];simp
theorem asr(A B:List UInt8)(y0 y1 y2 y3 c0 c1 c2 c3:UInt8):((((A++y3::y2::y1::y0::B).set (A.length+3) c0).set (A.length+2) c1).set (A.length+1) c2).set A.length c3=A++c3::c2::c1::c0::B:=by
 simp[List.set_append]
theorem QW(d:Nat): ∀(l:List Nat),NW (l++[d])=be4 d++NW l
 | []=>by simp[NW]
 | e::l=>by simp only[List.cons_append,NW,QW d l,List.append_assoc]
theorem Xn: ∀(l:List Nat),(NW l).length=4*l.length
 | []=>rfl
 | d::l=>by simp only[NW,List.length_append,Xn l,be4,List.length_cons,List.length_nil];omega
theorem UQ(x:List Nat)(hok:okD x=true)(hx:x.length≤1000000000)(i:Nat)(hi:i<x.length)(A B:List UInt8)(y0 y1 y2 y3:UInt8)(hA:A.length+4+4*i=4*x.length)(hB:B.length=4*i){R:vH ⊕ vH→Prop}
  (hin:R (.inl ⟨x,A++be4 (x.getD i 0)++B,(x.length:Nat),((i+1:Nat):Int)⟩)):(zo x (A++y3::y2::y1::y0::B) (x.length:Nat) (i:Nat)).sat R:=by
 have hlen:(A++y3::y2::y1::y0::B).length=4*x.length:=by simp only[List.length_append,List.length_cons];omega
 have w1:i64.wrap (((4*x.length:Nat):Int)-1)=((4*x.length-1:Nat):Int):=kU;have w2:i64.wrap (4*(i:Int))=((4*i:Nat):Int):=kU;have w3:i64.wrap (((4*x.length-1:Nat):Int)-((4*i:Nat):Int))=((A.length+3:Nat):Int):=kU;have v1:i64.wrap (0+1)=1:=rfl;have v2:i64.wrap (1+1)=2:=rfl;have v3:i64.wrap (2+1)=3:=rfl;have v4:i64.wrap (3+1)=4:=rfl;have p0:i64.wrap (((A.length+3:Nat):Int)-0)=((A.length+3:Nat):Int):=kU;have p1:i64.wrap (((A.length+3:Nat):Int)-1)=((A.length+2:Nat):Int):=kU;have p2:i64.wrap (((A.length+3:Nat):Int)-2)=((A.length+1:Nat):Int):=kU;have p3:i64.wrap (((A.length+3:Nat):Int)-3)=((A.length:Nat):Int):=kU;have w5:i64.wrap ((i:Int)+1)=((i+1:Nat):Int):=kU;generalize hd:x.getD i 0=d at hin;have b0:IntKind.u8.wrap ((d:Int).fdiv (2^min (i64.wrap (8*0)).toNat u32.bits))=((d%256:Nat):Int):=by
  have:=Xm d 0 (by omega);rw[Nat.pow_zero,Nat.div_one]at this;exact this
 have b1:IntKind.u8.wrap ((d:Int).fdiv (2^min (i64.wrap (8*1)).toNat u32.bits))=((d/256%256:Nat):Int):=by
  have:=Xm d 1 (by omega);rw[Nat.pow_one]at this;exact this
 have b2:IntKind.u8.wrap ((d:Int).fdiv (2^min (i64.wrap (8*2)).toNat u32.bits))=((d/65536%256:Nat):Int):=Xm d 2 (by omega);have b3:IntKind.u8.wrap ((d:Int).fdiv (2^min (i64.wrap (8*3)).toNat u32.bits))=((d/16777216%256:Nat):Int):=Xm d 3 (by omega);have m (z:Nat):z%256<256:=Nat.mod_lt _ (by decide);unfold zo;simp only[hlen,w1,w2,w3,v1,v2,v3,v4,p0,p1,p2,p3,w5,Int.toNat_natCast,hd,b0,b1,b2,b3];rw[zq _ _ _ (by omega) (m _),zq _ _ _ (by rw[List.length_set];omega) (m _),zq _ _ _ (by rw[List.length_set,List.length_set];omega) (m _),zq _ _ _ (by rw[List.length_set,List.length_set,List.length_set];omega) (m _),asr];have hl2:(A++UInt8.ofNat (d/16777216%256)::UInt8.ofNat (d/65536%256)::UInt8.ofNat (d/256%256)::UInt8.ofNat (d%256)::B).length=4*x.length:=by simp only[List.length_append,List.length_cons];omega
 have e:=oG (A++UInt8.ofNat (d/16777216%256)::UInt8.ofNat (d/65536%256)::UInt8.ofNat (d/256%256)::UInt8.ofNat (d%256)::B);rw[hl2]at e;rw[e,aW];have hin2:R (.inl ⟨x,A++UInt8.ofNat (d/16777216%256)::UInt8.ofNat (d/65536%256)::UInt8.ofNat (d/256%256)::UInt8.ofNat (d%256)::B,(x.length:Nat),((i+1:Nat):Int)⟩):=by
  have:A++be4 d++B=A++UInt8.ofNat (d/16777216%256)::UInt8.ofNat (d/65536%256)::UInt8.ofNat (d/256%256)::UInt8.ofNat (d%256)::B:=by simp[be4]
  rw[←this];exact hin
 clear e hl2 b0 b1 b2 b3 hin;refine aj (λ_=>ah (dA) ?_) (λh=>absurd (show(i:Int)<(x.length:Nat)by omega) (of_decide_eq_false h));have lv: ∀{t:Tr (vH ⊕ vH)} {e:Tr (vH ⊕ vH)} (k:Nat) (hk:k<4),t.sat R→(Tr.ite true (need true (need (decide ((0:Int)≤((A.length+k:Nat):Int)∧((A.length+k:Nat):Int)<((4*x.length:Nat):Int))) (need (decide (A.length+k<4*x.length)) t))) e).sat R:=λk hk ht=>
  aj (λ_=>ah rfl (ah (dA) (ah (dA) ht))) (λh=>Bool.noConfusion h)
 exact lv 3 (by omega) (lv 2 (by omega) (lv 1 (by omega) (lv 0 (by omega) (aj (λh=>Bool.noConfusion h) (λ_=>ah (by simp) (ah (aO hok _) (ah (jV _ _) (ak hin2))))))))
theorem al1(l:List UInt8)(k:Nat)(h:l.length=4*(k+1)): ∃A y3 y2 y1 y0,l=A++[y3,y2,y1,y0]∧A.length=4*k:=by
 have h1:(l.drop (4*k)).length=4:=by rw[List.length_drop];omega
 match hd:l.drop (4*k),h1 with
 | [y3,y2,y1,y0],_=>
   exact⟨l.take (4*k),y3,y2,y1,y0,by rw[←hd,List.take_append_drop],by rw[List.length_take];omega⟩
theorem Xo(x:List Nat)(hok:okD x=true)(hx:x.length≤1000000000)(Q:vH→Prop)(hq:Q ⟨x,NW x,(x.length:Nat),(x.length:Nat)⟩): ∀(k i:Nat) (A:List UInt8),i+k=x.length→A.length=4*k→
  aS (λy:vH=>zo y.x y.b y.n y.i) Q (k+1) ⟨x,A++NW (x.take i),(x.length:Nat),(i:Nat)⟩
 | 0,i,A,hi,hA=>by
   obtain rfl:i=x.length:=by omega
   obtain rfl:A=[]:=List.length_eq_zero_iff.1 (by omega);rw[List.take_length,List.nil_append];unfold aS
   change Tr.sat _ (zo x (NW x) (x.length:Nat) (x.length:Nat))
   unfold zo;rw[aW,oG];exact aj (λh=>absurd (iX h) (Int.lt_irrefl _)) (λ_=>ah (by simp) (ah (aO hok _) (ah (jV _ _) (ak hq))))
 | k+1,i,A,hi,hA=>by
   obtain⟨A2,y3,y2,y1,y0,rfl,hA2⟩:=al1 A k hA;have hlt:i<x.length:=by omega
   have ih:=Xo x hok hx Q hq k (i+1) A2 (by omega) hA2;have ht:x.take (i+1)=x.take i++[x[i]]:=List.take_succ_eq_append_getElem hlt;have hg:x.getD i 0=x[i]:=by simp[dJ,hlt]
   rw[ht,QW, ←List.append_assoc, ←hg]at ih;have e:A2++[y3,y2,y1,y0]++NW (x.take i)=A2++y3::y2::y1::y0::NW (x.take i):=by simp
   rw[e];exact UQ x hok hx i hlt A2 (NW (x.take i)) y0 y1 y2 y3 (by omega) (by rw[Xn,List.length_take];omega) ih
end Go.bA
namespace Go.bA
open Go.Proofs
theorem UR:bB prog 0 agx (codeOf Tryz.f260):=by
 refine gu (N:=1005) (L':=dn) eH (aA 0 _) (UN _) (UO Jj) ?_;rintro⟨x,b,n,i⟩ hx;have hx:Jj.pre ⟨x,b,n,i⟩=true:=hx;simp only[Jj,bI,dS]at hx;obtain⟨⟨⟨⟨rfl,rfl⟩,h3⟩,h4⟩,h5⟩:=hx;have:=Xo x h4 h5 (· =Jj.res ⟨x,b,(x.length:Nat),0⟩) rfl x.length 0 b (by omega) h3;have e:b++NW (x.take 0)=b:=by simp[NW]
 rw[e]at this;exact⟨_,this⟩
def aC:List Nat→Nat
 | []=>0
 | d::l=>d+4294967296*aC l
theorem Bp: ∀(l:List Nat),aC (l++[0])=aC l
 | []=>rfl
 | d::l=>by simp only[List.cons_append,aC,Bp l]
theorem Za(l:List Nat):aC (qG l)=aC l:=by
 induction l using CQ with
 | h0=>rfl
 | h1 l c ih=>
   by_cases hc:c=0
   ·subst hc;rw[wQ,Bp,ih]
   ·rw[wR l c hc]
theorem d9: ∀(k v:Nat),v<4294967296^k→aC (bn v k)=v
 | 0,v,h=>by simp at h;subst h;rfl
 | k+1,v,h=>by
   simp only[bn,aC];rw[d9 k _ (by rw[Nat.pow_succ]at h;omega)];omega
theorem QY(a b:List UInt8):aM (a++b)=aM a*256^b.length+aM b:=by
 induction b using Cz with
 | h0=>simp[aM]
 | h1 b c ih=>
   rw[←List.append_assoc,l8,l8,ih,List.length_append,List.length_singleton,Nat.pow_succ,Nat.add_mul,Nat.mul_assoc];omega
theorem abE(d:Nat)(h:d<4294967296):aM (be4 d)=d:=by
 have t: ∀z:Nat,(UInt8.ofNat (z%256)).toNat=z%256:=λz=>by simp[UInt8.toNat_ofNat']
 simp only[be4,aM,List.foldl_cons,List.foldl_nil,t];omega
theorem QZ: ∀(l:List Nat),okD l=true→aM (NW l)=aC l
 | [],_=>rfl
 | d::l,h=>by
   simp only[okD,List.all_cons,bI,dS]at h;rw[NW,QY,QZ l h.2,abE d h.1,aC];have:(be4 d).length=4:=rfl;rw[this];have e:(256:Nat)^4=4294967296:=by decide
   rw[e];omega
theorem LZ: ∀(l:List UInt8),aD (aM l)=l.dropWhile (· ==0)
 | []=>by rw[QB,gB];rfl
 | c::l=>by
   by_cases hc:c=0
   ·subst hc
    have:aM (0::l)=aM l:=by rw[vG];simp
    rw[this,LZ l];simp
   ·have hcan:canon (c::l)=true:=by simpa[canon]using hc
    rw[gX _ hcan];simp[hc]
def UU:List AV→Option (AV×List Bool)
 | [.c (.sl n 1 el)]=>some (nQ (aD (aC (aL n el))),[aJ n el,decide (n≤1000000000)])
 | _=>none
theorem agz: ∀f s,alZ f=some s→aH prog f s:=step_ok ags.spec (bM agw.spec)
theorem Zb(l:List Nat):(qG l).length≤l.length:=by
 induction l using CQ with
 | h0=>exact Nat.le_refl _
 | h1 l c ih=>
   by_cases hc:c=0
   ·subst hc;rw[wQ,List.length_append];simp;omega
   ·rw[wR l c hc];exact Nat.le_refl _
theorem abF(x:List Nat)(hok:okD x=true)(hx:x.length≤1000000000):(al0 x).sat λr=>r=nQ (aD (aC x)):=by
 have hk:=abB x hok;have hl:=Zb x;have hv:=Za x;unfold al0;simp only[aW];generalize qG x=y at hk hl hv⊢;rw[←hv, ←QZ y hk,LZ];have w4:i64.wrap (4*((y.length:Nat):Int))=((4*y.length:Nat):Int):=kU;simp only[w4,aW,Int.toNat_natCast,yE,oG];refine ah (aO hok _) (ah (dK hx) (aj (λh=> ?_) (λh=> ?_)))
 ·have h:=eq_of_beq h
  obtain rfl:y=[]:=List.length_eq_zero_iff.1 (by omega);exact ak rfl
 ·refine ah (by simp) (ah (dA) (ah (dA) (ah (dA) (ah (by simp) (ah (aO hk _) (ah ?_ (ah ?_ (ah (by simp) (ah (jV _ _) (ah rfl (ak rfl)))))))))))
  ·exact List.all_eq_true.2 λ_ _=>rfl
  ·simp[hk];omega
theorem G7:aF prog 260 UU:=by
 refine mh (L:=agx) aI agz (fn:=Tryz.f260) (c:=codeOf Tryz.f260) (by kernel_rfl) (by kernel_rfl) (cO (fn:=Tryz.f260) (c:=codeOf Tryz.f260) (by kernel_rfl) (by kernel_rfl) (by kernel_rfl)) (N:=1005) UR ?_ ?_
 ·intro args v cs h
  unfold UU at h
  split at h
  ·cases h;rfl
  ·cases h
 ·intro args v cs h hc
  unfold UU at h
  split at h
  ·rename_i n el
   cases h;have h1:aJ n el=true:=hc (aJ n el) (by simp);have h2:n≤1000000000:=dec (hc (decide (n≤1000000000)) (by simp));obtain⟨e1,e2⟩:=gQ h1;have hlen:=jN n el;generalize aL n el=l at e1 e2 hlen⊢;subst hlen;refine⟨[.c (.sl l.length 1 (aB l))],.cons (bL.sl e1) .nil,?_⟩;have hs:=abF l e2 h2;rw[←agy]at hs;generalize aN prog alZ agx 1005 Tryz.f260 [.c (.sl l.length 1 (aB l))]=T at hs⊢;generalize aD (aC l)=z at hs⊢;exact Tr.aZ (λr hr=>⟨by subst hr;rfl,bL.of_eq hr⟩) hs
  ·cases h
end Go.bA
namespace Go.bA
open Go.Proofs
structure Ae where
 y:List Nat
 o:List Nat
 c:Int
 n:Int
 i:Int
def CS(x:Ae):List AV×List (Option gJ):=([.fK 0 x.y.length 1,.fK 1 x.o.length 1,bR .u64 x.c,bR .i64 x.n,bR .i64 x.i],[some (.arr x.y.length 1 (aB x.y) 335),some (.arr x.o.length 1 (aB x.o) 335)])
def G8:List AV×List (Option gJ)→Option (Ae×List Bool)
 | ([.fK 0 m 1,.fK 1 k 1,.c (.v (.int .u64 c)),.c (.v (.int .i64 n)),.c (.v (.int .i64 i))],[some (.arr m' 1 el 335),some (.arr k' 1 ol 335)])=>some (⟨aL m el,aL k ol,c,n,i⟩,[decide (m=m'),decide (k=k'),aJ m el,aJ k ol])
 | _=>none
def Q0(w:Way Ae):bC Ae Ae where
 nIn:={nt:=84,live:=[11,12,13,52,53]}
 qF:={nt:=84,live:=[11,12,13,52,53]}
 head:=CS
 take:=G8
 out:=λr=>(.normal,CS r)
 iC:=λq=>match q with|(.normal,q)=>G8 q | _=>none
 res:=w.res
 pre:=w.pre
theorem Jk(q:List AV×List (Option gJ))(x:Ae)(cs:List Bool)(h:G8 q=some (x,cs))(hc: ∀p∈cs,p):dW q.1 (CS x).1∧bX q.2 (CS x).2:=by
 unfold G8 at h
 split at h
 ·rename_i m k c n i m' el k' ol
  simp only[fu,Prod.mk.injEq]at h;obtain⟨rfl,rfl⟩:=h;have h1:m=m':=dec (hc (decide (m=m')) (by simp));have h2:k=k':=dec (hc (decide (k=k')) (by simp));have h3:aJ m el=true:=hc (aJ m el) (by simp);have h4:aJ k ol=true:=hc (aJ k ol) (by simp);subst h1;subst h2;simp only[CS,jN];exact⟨dW.refl _,.cons (.arr _ _ _ _ _ (gQ h3).1) (.cons (.arr _ _ _ _ _ (gQ h4).1) .nil)⟩
 ·cases h
theorem UW(w:Way Ae):(Q0 w).gH where
 take:=Jk
 iC:=by
  intro e q r cs h hc;cases e with
  | normal=>obtain⟨h1,h2⟩:=Jk q r cs h hc;exact⟨rfl,h1,h2⟩
  | exit j=>cases h
  | ret=>cases h
 split:=λr Q h=>h
abbrev BB:Nat:=4294967296
def carry(X Y i:Nat):Nat:=(X%BB^i+Y%BB^i)/BB^i
def Jl:Way Ae:=⟨λx=>⟨x.y,bn (aC x.o+aC x.y) x.o.length,(carry (aC x.o) (aC x.y) x.o.length:Nat),x.n,x.n⟩,
 λx=>decide (x.n=(x.o.length:Nat))&&decide (x.i=0)&&decide (x.c=0)&&okD x.y&&okD x.o&&decide (x.o.length≤1000000000)⟩
def al2:Nat→Option (St→Tr (Ex×St)):=λid=>bif beq id 0 then some ((Q0 Jl).g 0)else none
def al3:FuncId→Option Spec:=λf=>bif beq f 256 then some (au QJ)else bif beq f 261 then some (au GD)else bif beq f 126 then some (au NQ)else
 bif beq f 259 then some (eB UD)else bif beq f 260 then some (au UU)else none
end Go.bA
namespace Go.bA
open Go.Proofs
def zu(y:List Nat)(o:List Nat)(c:Int)(n:Int)(i:Int):Tr (Ae ⊕ Ae):=
 let x1:Int:= ↑o.length
 let x2:Int:= ↑y.length
 let x3:Int:=u64.wrap (c+u64.wrap ↑(o.getD i.toNat 0))
 let x4:Int:=u64.wrap (x3+u64.wrap ↑(y.getD i.toNat 0))
 let x5:List Nat:=aL y.length (aB y)
 let x6:Int:=2^min (Int.toNat 32) u64.bits
 let x7:Int:=i64.wrap (i+1)
 .ite (decide (i<n)) (.need (decide (0≤i∧i<x1)) (.need (decide (i.toNat<o.length)) (.ite (decide (i<x2)) (.need (decide (0≤i∧i<x2)) (.need (decide (i.toNat<y.length)) (.need true (.need (decide (0≤i∧i<x1)) (.need (decide (i.toNat<o.length)) (.need (decide (y.length=y.length)) (.need (decide (o.length=o.length)) (.need (aJ y.length (aB y)) (.need (aJ o.length (aT (aB o) i.toNat 0 [IV.v (.int u32 (u32.wrap x4))].reverse)) (.ret (Sum.inl {y:=x5,o:=aL o.length (aT (aB o) i.toNat 0 [IV.v (.int u32 (u32.wrap x4))].reverse),c:=x4.fdiv x6,n:=n,i:=x7}))))))))))) (.need true (.need (decide (0≤i∧i<x1)) (.need (decide (i.toNat<o.length)) (.need (decide (y.length=y.length)) (.need (decide (o.length=o.length)) (.need (aJ y.length (aB y)) (.need (aJ o.length (aT (aB o) i.toNat 0 [IV.v (.int u32 (u32.wrap x3))].reverse)) (.ret (Sum.inl {y:=x5,o:=aL o.length (aT (aB o) i.toNat 0 [IV.v (.int u32 (u32.wrap x3))].reverse),c:=x3.fdiv x6,n:=n,i:=x7})))))))))))) (.need (decide (y.length=y.length)) (.need (decide (o.length=o.length)) (.need (aJ y.length (aB y)) (.need (aJ o.length (aB o)) (.ret (Sum.inr {y:=x5,o:=aL o.length (aB o),c:=c,n:=n,i:=i}))))))
theorem UY(w:Way Ae)(x:Ae):(exec prog (λ_=>none) dn 1005 (aR 0 (codeOf Tryz.f225)) (eY (Q0 w).nIn ((Q0 w).head x))).bind ((Q0 w).fin 0 0)=zu x.y x.o x.c x.n x.i:=by
 obtain⟨y,o,c,n,i⟩:=x
 kernel_rfl
theorem fA(l:List Nat)(k b:Nat)(hk:k<l.length):aT (aB l) k 0 [IV.v (.int .u32 (b:Int))].reverse=aB (l.set k b):=by
 funext i
 unfold aT;by_cases h:i=k
 ·subst h
  rw[if_pos rfl];simp[aB,dJ,List.getElem?_set_self hk]
 ·rw[if_neg h]
  simp[aB,dJ,List.getElem?_set_ne (Ne.symm h)]
theorem wS: ∀(l:List Nat),okD l=true→aC l<BB^l.length
 | [],_=>by simp[aC]
 | d::l,h=>by
   simp only[okD,List.all_cons,bI,dS]at h;have:=wS l h.2;rw[aC,List.length_cons,Nat.pow_succ];unfold BB at this⊢;omega
theorem ig: ∀(l:List Nat),okD l=true→bn (aC l) l.length=l
 | [],_=>rfl
 | d::l,h=>by
   simp only[okD,List.all_cons,bI,dS]at h;have ih:=ig l h.2;have e1:(d+4294967296*aC l)%4294967296=d:=by omega
   have e2:(d+4294967296*aC l)/4294967296=aC l:=by omega
   simp only[aC,List.length_cons,bn,e1,e2,ih]
def dX(X Z n i:Nat):List Nat:=(List.range n).map λj=>if j<i then Z/BB^j%BB else X/BB^j%BB
theorem dL(X Z n i:Nat):(dX X Z n i).length=n:=by simp[dX]
theorem kP(X Z n i j:Nat)(h:j<n):(dX X Z n i).getD j 0=if j<i then Z/BB^j%BB else X/BB^j%BB:=by
 simp[dX,dJ,h]
theorem vI(X Z n:Nat):dX X Z n 0=bn X n:=by
 have:=sH (l:=dX X Z n 0) (v:=X) λj hj=>by rw[dL]at hj;rw[kP X Z n 0 j hj];simp
 rw[dL]at this;exact this
theorem yF(X Z n:Nat):dX X Z n n=bn Z n:=by
 have:=sH (l:=dX X Z n n) (v:=Z) λj hj=>by rw[dL]at hj;rw[kP X Z n n j hj,if_pos hj]
 rw[dL]at this;exact this
theorem oH(X Z n i:Nat)(h:i<n):(dX X Z n i).set i (Z/BB^i%BB)=dX X Z n (i+1):=by
 apply List.ext_getElem
 ·simp[dX]
 ·intro j h1 h2
  have hj:j<n:=by simpa[dX]using h2
  by_cases hji:j=i
  ·subst hji
   simp[dX]
  ·rw[List.getElem_set_ne (by omega)]
   simp only[dX,List.getElem_map,List.getElem_range];by_cases hlt:j<i
   ·rw[if_pos hlt,if_pos (by omega)]
   ·rw[if_neg hlt,if_neg (by omega)]
theorem kQ(X Z n i:Nat):okD (dX X Z n i)=true:=by
 refine List.all_eq_true.2 λd hd=> ?_
 obtain⟨j,_,rfl⟩:=List.mem_map.1 hd;refine dK ?_
 split<;>exact Nat.mod_lt _ (by decide)
theorem Jm(X Y i:Nat):carry X Y i≤1:=by
 have hp:0<BB^i:=Nat.pow_pos (by decide);have h1:=Nat.mod_lt X hp;have h2:=Nat.mod_lt Y hp;unfold carry;have:(X%BB^i+Y%BB^i)/BB^i<2:=by
  rw[Nat.div_lt_iff_lt_mul hp];omega
 omega
theorem Ez(X Y i:Nat):(X+Y)/BB^i%BB=(carry X Y i+X/BB^i%BB+Y/BB^i%BB)%BB:=by
 have hp:0<BB^i:=Nat.pow_pos (by decide);have e:(X+Y)/BB^i=X/BB^i+Y/BB^i+carry X Y i:=by
  unfold carry;have h1:=Nat.div_add_mod X (BB^i);have h2:=Nat.div_add_mod Y (BB^i);have:X+Y=(X%BB^i+Y%BB^i)+BB^i*(X/BB^i+Y/BB^i):=by rw[Nat.mul_add];omega
  rw[this,Nat.add_mul_div_left _ _ hp];omega
 rw[e];unfold BB;omega
theorem carry_succ(X Y i:Nat):carry X Y (i+1)=(carry X Y i+X/BB^i%BB+Y/BB^i%BB)/BB:=by
 have hp:0<BB^i:=Nat.pow_pos (by decide);unfold carry;rw[Nat.mod_pow_succ,Nat.mod_pow_succ,Nat.pow_succ, ←Nat.div_div_eq_div_mul];have e:X%BB^i+BB^i*(X/BB^i%BB)+(Y%BB^i+BB^i*(Y/BB^i%BB))=(X%BB^i+Y%BB^i)+BB^i*(X/BB^i%BB+Y/BB^i%BB):=by rw[Nat.mul_add];omega
 rw[e,Nat.add_mul_div_left _ _ hp,Nat.add_assoc]
theorem CW{Y m i:Nat}(h:Y<BB^m)(hi:m≤i):Y/BB^i=0:=by
 have:BB^m≤BB^i:=Nat.pow_le_pow_right (by decide) hi;exact Nat.div_eq_of_lt (by omega)
theorem UZ(y:List Nat)(hy:okD y=true)(X n i:Nat)(hn:n≤1000000000)(hi:i<n){R:Ae ⊕ Ae→Prop}
  (hin:R (.inl ⟨y,dX X (X+aC y) n (i+1),(carry X (aC y) (i+1):Nat),(n:Nat),((i+1:Nat):Int)⟩)):
  (zu y (dX X (X+aC y) n i) (carry X (aC y) i:Nat) (n:Nat) (i:Nat)).sat R:=by
 have hc:=Jm X (aC y) i;have hYl:=wS y hy;have ho:=kP X (X+aC y) n i i hi;rw[if_neg (Nat.lt_irrefl _)]at ho;have hox:X/BB^i%BB<4294967296:=Nat.mod_lt _ (by decide);have hyx:aC y/BB^i%BB<4294967296:=Nat.mod_lt _ (by decide);have hs:=oH X (X+aC y) n i hi;have had:=Ez X (aC y) i;have hcs:=carry_succ X (aC y) i;have w5:i64.wrap ((i:Int)+1)=((i+1:Nat):Int):=kU;have hyg:y.getD i 0=aC y/BB^i%BB:=by
  by_cases hl:i<y.length
  ·have:=ig y hy
   rw[←this,lI _ _ _ hl,this]
  ·rw[CW hYl (by omega)]
   simp[dJ,List.getElem?_eq_none (Nat.le_of_not_lt hl)]
 have hyz: ¬i<y.length→aC y/BB^i%BB=0:=λh=>by rw[CW hYl (by omega)];rfl
 generalize carry X (aC y) i=c at hc had hcs;generalize carry X (aC y) (i+1)=c' at hcs hin;generalize hO:X/BB^i%BB=ox at hox ho had hcs;generalize aC y/BB^i%BB=yx at hyx had hcs hyg hyz;have a1:u64.wrap ((ox:Nat):Int)=((ox:Nat):Int):=by rw[wrap_u64];omega
 have a2:u64.wrap (((c:Nat):Int)+((ox:Nat):Int))=((c+ox:Nat):Int):=by rw[wrap_u64];omega
 have a3:u64.wrap ((yx:Nat):Int)=((yx:Nat):Int):=by rw[wrap_u64];omega
 have a4:u64.wrap (((c+ox:Nat):Int)+((yx:Nat):Int))=((c+ox+yx:Nat):Int):=by rw[wrap_u64];omega
 have a5: ∀z:Nat,u32.wrap ((z:Nat):Int)=((z%4294967296:Nat):Int):=λz=>by rw[wrap_u32];omega
 have a6: ∀z:Nat,((z:Nat):Int).fdiv (2^min (Int.toNat 32) u64.bits)=((z/4294967296:Nat):Int):=λz=>kN z 4294967296
 unfold zu;simp only[Int.toNat_natCast,ho,hyg,w5,a1,a2,a3,a4,a5,a6,dL,aW];rw[fA _ _ _ (by rw[dL];exact hi),fA _ _ _ (by rw[dL];exact hi)];have key: ∀z:Nat,z=c+ox+yx→aL n (aB ((dX X (X+aC y) n i).set i (z%4294967296)))=dX X (X+aC y) n (i+1)∧aJ n (aB ((dX X (X+aC y) n i).set i (z%4294967296)))=true∧((z/4294967296:Nat):Int)=((c':Nat):Int):=by
  intro z hz;have e1:z%4294967296=(X+aC y)/BB^i%BB:=by rw[had,hz]
  rw[e1,hs];have e2:=aW (dX X (X+aC y) n (i+1));rw[dL]at e2;refine⟨e2,aO (kQ _ _ _ _) _,?_⟩;rw[hcs,hz]
 refine aj (λ_=>ah (dA) (ah (dK hi) (aj (λh=> ?_) (λh=> ?_)))) (λh=>absurd (show(i:Int)<(n:Nat)by omega) (of_decide_eq_false h))
 ·have h:=iX h
  obtain⟨k1,k2,k3⟩:=key (c+ox+yx) rfl;rw[k1,k3];exact ah (dA) (ah (dA) (ah rfl (ah (dA) (ah (dK hi) (ah (by simp) (ah (by simp) (ah (aO hy _) (ah k2 (ak hin)))))))))
 ·have h:=of_decide_eq_false h
  have hz:=hyz (by omega);obtain⟨k1,k2,k3⟩:=key (c+ox) (by omega);rw[k1,k3];exact ah rfl (ah (dA) (ah (dK hi) (ah (by simp) (ah (by simp) (ah (aO hy _) (ah k2 (ak hin)))))))
theorem Xp(y:List Nat)(hy:okD y=true)(X n:Nat)(hn:n≤1000000000)(Q:Ae→Prop)(hq:Q ⟨y,bn (X+aC y) n,(carry X (aC y) n:Nat),(n:Nat),(n:Nat)⟩): ∀(k i:Nat),i+k=n→
  aS (λx:Ae=>zu x.y x.o x.c x.n x.i) Q (k+1) ⟨y,dX X (X+aC y) n i,(carry X (aC y) i:Nat),(n:Nat),(i:Nat)⟩
 | 0,i,hi=>by
   obtain rfl:i=n:=by omega
   rw[yF];unfold aS
   change Tr.sat _ (zu y (bn (X+aC y) i) (carry X (aC y) i:Nat) (i:Nat) (i:Nat))
   have e:=aW (bn (X+aC y) i);unfold zu;rw[e,aW];exact aj (λh=>absurd (iX h) (Int.lt_irrefl _)) (λ_=>ah (by simp) (ah (by simp) (ah (aO hy _) (ah (aO (bZ _ _) _) (ak hq)))))
 | k+1,i,hi=>UZ y hy X n i hn (by omega) (Xp y hy X n hn Q hq k (i+1) (by omega))
theorem U0:bB prog 0 al2 (codeOf Tryz.f225):=by
 refine gu (N:=1005) (L':=dn) eH (aA 0 _) (UW _) (UY Jl) ?_;rintro⟨y,o,c,n,i⟩ hx;have hx:Jl.pre ⟨y,o,c,n,i⟩=true:=hx;simp only[Jl,bI,dS]at hx;obtain⟨⟨⟨⟨⟨rfl,rfl⟩,rfl⟩,h4⟩,h5⟩,h6⟩:=hx;have:=Xp y h4 (aC o) o.length h6 (· =Jl.res ⟨y,o,0,(o.length:Nat),0⟩) rfl o.length 0 (by omega);rw[vI,ig o h5]at this;have c0:carry (aC o) (aC y) 0=0:=by simp[carry,Nat.mod_one]
 rw[c0]at this;exact⟨_,this⟩
end Go.bA
namespace Go.bA
open Go.Proofs
def al4(a:ByteArray)(b:ByteArray):Tr AV:=
 let x1:Nat:=(gI a).toNat+(gI b).toNat+Int.toNat 0
 let x2:Int:= ↑(x1%Extern.MathBitsCarry.m64)
 let x3:List UInt8:=a.data.toList
 let x4:List UInt8:=b.data.toList
 let x5:Int:= ↑(bE x3.length)
 let x6:Int:= ↑(bE x4.length)
 let x7:Int:=i64.wrap (x6+1)
 let x8:Int:=((4:Nat):Int)
 let x9:Int:=x8*x7
 let x10:Nat:=x7.toNat
 let iW:List Nat:=bn (aM x3) (bE x3.length)
 let kL:Nat:=min (bE x4.length) x10
 let jA:List Nat:=bn (aM x4) (bE x4.length)
 let kM:List IV:=List.map IV.v [Value.int u32 0]
 let mO:Int:= ↑x10
 let nu:List Nat:=aL x10 λi=>if i<kL then aB jA i else kM
 let jR:Nat:=nu.length
 let x18:Int:= ↑jR
 let rO:List Nat:=aL (bE x3.length) (aB iW)
 let x20:List Nat:=bn (aC nu+aC rO) jR
 let x21:Nat:=x20.length
 let xH:Int:=i64.wrap (x5+1)
 let x23:Int:=x8*xH
 let x24:Nat:=xH.toNat
 let x25:Nat:=min (bE x3.length) x24
 let xL:Int:= ↑x24
 let x27:List Nat:=aL x24 λi=>if i<x25 then aB iW i else kM
 let x28:Nat:=x27.length
 let x29:Int:= ↑x28
 let x30:List Nat:=aL (bE x4.length) (aB jA)
 let x31:List Nat:=bn (aC x27+aC x30) x28
 let x32:Nat:=x31.length
 .ite (fH a&&fH b) (.need true (.ite (((x1/Extern.MathBitsCarry.m64:Nat):Int)==0) (.need (iK x2) (.ret (.c (.v (.string ⟨⟨aD x2.toNat⟩⟩))))) (.need (decide (x3.length≤1000000000)) (.need (decide (x4.length≤1000000000)) (.ite (decide (x5<x6)) (.need (decide (x7=x7)) (.need (decide (0≤x7)) (.need (decide (x7≤9223372036854775807)) (.need (decide (x9≤140737488355328)) (.need (decide (x10≤x10)) (.need (decide (bE x4.length≤bE x4.length)) (.need (decide (bE x3.length=bE x3.length)) (.need (decide (x10=x10)) (.need (aJ (bE x3.length) (aB iW)) (.need (aJ x10 λi=>if i<kL then aB jA i else kM) (.need (decide (mO=x18)&&decide ((0:Int)=0)&&decide ((0:Int)=0)&&okD rO&&okD nu&&decide (jR≤1000000000)) (.need (decide (x21≤x21)) (.need (aJ x21 (aB x20)) (.need (decide (x21≤1000000000)) (.ret (.c (.v (.string ⟨⟨aD (aC (aL x21 (aB x20)))⟩⟩)))))))))))))))))) (.need (decide (xH=xH)) (.need (decide (0≤xH)) (.need (decide (xH≤9223372036854775807)) (.need (decide (x23≤140737488355328)) (.need (decide (x24≤x24)) (.need (decide (bE x3.length≤bE x3.length)) (.need (decide (bE x4.length=bE x4.length)) (.need (decide (x24=x24)) (.need (aJ (bE x4.length) (aB jA)) (.need (aJ x24 λi=>if i<x25 then aB iW i else kM) (.need (decide (xL=x29)&&decide ((0:Int)=0)&&decide ((0:Int)=0)&&okD x30&&okD x27&&decide (x28≤1000000000)) (.need (decide (x32≤x32)) (.need (aJ x32 (aB x31)) (.need (decide (x32≤1000000000)) (.ret (.c (.v (.string ⟨⟨aD (aC (aL x32 (aB x31)))⟩⟩))))))))))))))))))))))) (.need (decide (x3.length≤1000000000)) (.need (decide (x4.length≤1000000000)) (.ite (decide (x5<x6)) (.need (decide (x7=x7)) (.need (decide (0≤x7)) (.need (decide (x7≤9223372036854775807)) (.need (decide (x9≤140737488355328)) (.need (decide (x10≤x10)) (.need (decide (bE x4.length≤bE x4.length)) (.need (decide (bE x3.length=bE x3.length)) (.need (decide (x10=x10)) (.need (aJ (bE x3.length) (aB iW)) (.need (aJ x10 λi=>if i<kL then aB jA i else kM) (.need (decide (mO=x18)&&decide ((0:Int)=0)&&decide ((0:Int)=0)&&okD rO&&okD nu&&decide (jR≤1000000000)) (.need (decide (x21≤x21)) (.need (aJ x21 (aB x20)) (.need (decide (x21≤1000000000)) (.ret (.c (.v (.string ⟨⟨aD (aC (aL x21 (aB x20)))⟩⟩)))))))))))))))))) (.need (decide (xH=xH)) (.need (decide (0≤xH)) (.need (decide (xH≤9223372036854775807)) (.need (decide (x23≤140737488355328)) (.need (decide (x24≤x24)) (.need (decide (bE x3.length≤bE x3.length)) (.need (decide (bE x4.length=bE x4.length)) (.need (decide (x24=x24)) (.need (aJ (bE x4.length) (aB jA)) (.need (aJ x24 λi=>if i<x25 then aB iW i else kM) (.need (decide (xL=x29)&&decide ((0:Int)=0)&&decide ((0:Int)=0)&&okD x30&&okD x27&&decide (x28≤1000000000)) (.need (decide (x32≤x32)) (.need (aJ x32 (aB x31)) (.need (decide (x32≤1000000000)) (.ret (.c (.v (.string ⟨⟨aD (aC (aL x32 (aB x31)))⟩⟩)))))))))))))))))))))
theorem agA(a b:ByteArray):aN prog al3 al2 1005 Tryz.f225 [.c (.v (.string a)),.c (.v (.string b))]=al4 a b:=by kernel_rfl
end Go.bA
namespace Go.bA
open Go.Proofs
theorem al5(v k:Nat):aL (k+1) (λi=>if i<k then aB (bn v k) i else List.map IV.v [Value.int u32 0])=bn v k++[0]:=by
 apply List.ext_getElem
 ·simp[aL,bN]
 ·intro i h1 h2
  have hi:i<k+1:=by simpa[aL]using h1
  by_cases hk:i<k
  ·have hl:i<(bn v k).length:=by rw[bN];exact hk
   simp[aL,hk,aB,u32Of,dJ,hl,List.getElem_append_left hl]
  ·obtain rfl:i=k:=by omega
   simp[aL,u32Of,List.getElem_append_right,bN]
theorem abG(v k:Nat):aJ (k+1) (λi=>if i<k then aB (bn v k) i else List.map IV.v [Value.int u32 0])=true:=by
 refine List.all_eq_true.2 λi hi=> ?_
 dsimp only
 split
 ·rename_i h
  exact List.all_eq_true.1 (aO (bZ k v) k) i (List.mem_range.2 h)
 ·rfl
theorem Q5(v k:Nat)(h:v<BB^k):aC (bn v k++[0])=v:=by rw[Bp,d9 k v h]
theorem Xq(v k:Nat):okD (bn v k++[0])=true:=by rw[Bo,bZ];rfl
theorem qm(s:ByteArray):aM s.data.toList<BB^bE s.data.toList.length:=by
 have h1:=uj s.data.toList;have h2:256^s.data.toList.length≤256^(4*bE s.data.toList.length):=Nat.pow_le_pow_right (by decide) (by unfold bE;omega);have h3:(256:Nat)^(4*bE s.data.toList.length)=BB^bE s.data.toList.length:=by
  rw[Nat.pow_mul]
 omega
theorem sum_lt{u v k l:Nat}(hu:u<BB^k)(hv:v<BB^l)(h:l≤k):u+v<BB^(k+1):=by
 have:BB^l≤BB^k:=Nat.pow_le_pow_right (by decide) h;rw[Nat.pow_succ];unfold BB at*;omega
def abH:List AV→Option (AV×List Bool)
 | [.c (.v (.string a)),.c (.v (.string b))]=>some (nQ (aD (aM a.data.toList+aM b.data.toList)),[decide (a.data.toList.length≤100000000),decide (b.data.toList.length≤100000000)])
 | _=>none
theorem abI(a b:ByteArray)(ha:a.data.toList.length≤100000000)(hb:b.data.toList.length≤100000000):(al4 a b).sat λr=>r=nQ (aD (aM a.data.toList+aM b.data.toList)):=by
 have la:=qm a;have lb:=qm b;have na:bE a.data.toList.length≤25000001:=by unfold bE;omega
 have nb:bE b.data.toList.length≤25000001:=by unfold bE;omega
 have wa:i64.wrap (((bE a.data.toList.length:Nat):Int)+1)=((bE a.data.toList.length+1:Nat):Int):=kU;have wb:i64.wrap (((bE b.data.toList.length:Nat):Int)+1)=((bE b.data.toList.length+1:Nat):Int):=kU;have ma:min (bE a.data.toList.length) (bE a.data.toList.length+1)=bE a.data.toList.length:=by omega
 have mb:min (bE b.data.toList.length) (bE b.data.toList.length+1)=bE b.data.toList.length:=by omega
 have ea:aL (bE a.data.toList.length) (aB (bn (aM a.data.toList) (bE a.data.toList.length)))=bn (aM a.data.toList) (bE a.data.toList.length):=by
  have:=aW (bn (aM a.data.toList) (bE a.data.toList.length));rw[bN]at this;exact this
 have eb:aL (bE b.data.toList.length) (aB (bn (aM b.data.toList) (bE b.data.toList.length)))=bn (aM b.data.toList) (bE b.data.toList.length):=by
  have:=aW (bn (aM b.data.toList) (bE b.data.toList.length));rw[bN]at this;exact this
 have lpa:(bn (aM a.data.toList) (bE a.data.toList.length)++[0]).length=bE a.data.toList.length+1:=by simp[bN]
 have lpb:(bn (aM b.data.toList) (bE b.data.toList.length)++[0]).length=bE b.data.toList.length+1:=by simp[bN]
 have hv: ∀s:ByteArray,fH s=true→(gI s).toNat=aM s.data.toList:=λs hs=>by
  have:s.data.toList.length≤8:=iX hs;unfold gI;rw[if_pos this,Int.toNat_natCast]
 have m64:Extern.MathBitsCarry.m64=18446744073709551616:=by rfl
 have z0:Int.toNat 0=0:=rfl;unfold al4;simp only[wa,wb,Int.toNat_natCast,ma,mb,ea,eb,al5,lpa,lpb,Q5 _ _ la,Q5 _ _ lb,d9 _ _ la,d9 _ _ lb,bN,m64,z0,Nat.add_zero];have efa:=aW (bn (aM a.data.toList+aM b.data.toList) (bE a.data.toList.length+1));have efb:=aW (bn (aM b.data.toList+aM a.data.toList) (bE b.data.toList.length+1));rw[bN]at efa efb;simp only[efa,efb];refine aj (λhw=>ah rfl (aj (λh0=> ?_) (λh0=> ?g1))) (λhw=> ?g2)
 ·rw[bI]at hw
  rw[hv a hw.1,hv b hw.2]at h0⊢;have h0:=eq_of_beq h0;have hlt:aM a.data.toList+aM b.data.toList<18446744073709551616:=by omega
  rw[Nat.mod_eq_of_lt hlt];exact ah (by simp[iK];omega) (ak rfl)
 all_goals
  refine ah (dA) (ah (dA) (aj (λhc=> ?_) (λhc=> ?_)))
  ·have hc:=iX hc
   have hs:=sum_lt lb la (by omega);rw[d9 _ _ hs,Nat.add_comm (aM b.data.toList)];refine ah (by simp) (ah (dA) (ah (dA) (ah (dA) (ah (by simp) (ah (by simp) (ah (by simp) (ah (by simp) (ah (aO (bZ _ _) _) (ah (abG _ _) (ah ?_ (ah (by simp) (ah ?_ (ah (dA) (ak rfl))))))))))))))
   ·have q1:=na;have q2:=nb;simp[Xq,bZ]at q1 q2⊢;omega
   ·exact aO (bZ _ _) _
  ·have hc:=of_decide_eq_false hc
   have hs:=sum_lt la lb (by omega);rw[d9 _ _ hs];refine ah (by simp) (ah (dA) (ah (dA) (ah (dA) (ah (by simp) (ah (by simp) (ah (by simp) (ah (by simp) (ah (aO (bZ _ _) _) (ah (abG _ _) (ah ?_ (ah (by simp) (ah ?_ (ah (dA) (ak rfl))))))))))))))
   ·have q1:=na;have q2:=nb;simp[Xq,bZ]at q1 q2⊢;omega
   ·exact aO (bZ _ _) _
theorem Xr:LP prog 261 Uf:=⟨Tryz.f261,by kernel_rfl,by kernel_rfl,by kernel_rfl,by kernel_rfl,by kernel_rfl⟩
theorem agB: ∀f s,al3 f=some s→aH prog f s:=step_ok CJ.spec (step_ok (aa6 Xr).spec (step_ok zi.spec (step_ok GU.spec (bM G7.spec))))
theorem Xt:aF prog 225 abH:=by
 refine poL (N:=1005) agB U0 (fn:=Tryz.f225) ?_ ?_
 ·intro args v cs h
  unfold abH at h
  split at h
  ·cases h;rfl
  ·cases h
 ·intro args v cs h hc
  unfold abH at h
  split at h
  ·rename_i a b
   cases h;have h1:a.data.toList.length≤100000000:=dec (hc (decide (a.data.toList.length≤100000000)) (by simp));have h2:b.data.toList.length≤100000000:=dec (hc (decide (b.data.toList.length≤100000000)) (by simp));have hs:=abI a b h1 h2;rw[←agA]at hs;generalize aN prog al3 al2 1005 Tryz.f225 [.c (.v (.string a)),.c (.v (.string b))]=T at hs⊢;generalize aD (aM a.data.toList+aM b.data.toList)=z at hs⊢;exact Tr.aZ (λr hr=>⟨by subst hr;rfl,bL.of_eq hr⟩) hs
  ·cases h
end Go.bA
namespace Go.bA
open Go.Proofs
structure Af where
 y:List Nat
 o:List Nat
 c:Int
 n:Int
 i:Int
def CX(x:Af):List AV×List (Option gJ):=([.fK 0 x.y.length 1,.fK 1 x.o.length 1,bR .i64 x.c,bR .i64 x.n,bR .i64 x.i],[some (.arr x.y.length 1 (aB x.y) 335),some (.arr x.o.length 1 (aB x.o) 335)])
def G9:List AV×List (Option gJ)→Option (Af×List Bool)
 | ([.fK 0 m 1,.fK 1 k 1,.c (.v (.int .i64 c)),.c (.v (.int .i64 n)),.c (.v (.int .i64 i))],[some (.arr m' 1 el 335),some (.arr k' 1 ol 335)])=>some (⟨aL m el,aL k ol,c,n,i⟩,[decide (m=m'),decide (k=k'),aJ m el,aJ k ol])
 | _=>none
def Q6(w:Way Af):bC Af Af where
 nIn:={nt:=71,live:=[9,10,11,37,38]}
 qF:={nt:=71,live:=[9,10,11,37,38]}
 head:=CX
 take:=G9
 out:=λr=>(.normal,CX r)
 iC:=λq=>match q with|(.normal,q)=>G9 q | _=>none
 res:=w.res
 pre:=w.pre
theorem Jo(q:List AV×List (Option gJ))(x:Af)(cs:List Bool)(h:G9 q=some (x,cs))(hc: ∀p∈cs,p):dW q.1 (CX x).1∧bX q.2 (CX x).2:=by
 unfold G9 at h
 split at h
 ·rename_i m k c n i m' el k' ol
  simp only[fu,Prod.mk.injEq]at h;obtain⟨rfl,rfl⟩:=h;have h1:m=m':=dec (hc (decide (m=m')) (by simp));have h2:k=k':=dec (hc (decide (k=k')) (by simp));have h3:aJ m el=true:=hc (aJ m el) (by simp);have h4:aJ k ol=true:=hc (aJ k ol) (by simp);subst h1;subst h2;simp only[CX,jN];exact⟨dW.refl _,.cons (.arr _ _ _ _ _ (gQ h3).1) (.cons (.arr _ _ _ _ _ (gQ h4).1) .nil)⟩
 ·cases h
theorem U3(w:Way Af):(Q6 w).gH where
 take:=Jo
 iC:=by
  intro e q r cs h hc;cases e with
  | normal=>obtain⟨h1,h2⟩:=Jo q r cs h hc;exact⟨rfl,h1,h2⟩
  | exit j=>cases h
  | ret=>cases h
 split:=λr Q h=>h
def borrow(X Y i:Nat):Nat:=if X%BB^i<Y%BB^i then 1 else 0
def Jp:Way Af:=⟨λx=>⟨x.y,bn (aC x.o-aC x.y) x.o.length,(borrow (aC x.o) (aC x.y) x.o.length:Nat),x.n,x.n⟩,
 λx=>decide (x.n=(x.o.length:Nat))&&decide (x.i=0)&&decide (x.c=0)&&okD x.y&&okD x.o&&decide (x.o.length≤1000000000)&&decide (aC x.y≤aC x.o)⟩
def al6:Nat→Option (St→Tr (Ex×St)):=λid=>bif beq id 0 then some ((Q6 Jp).g 0)else none
def al7:FuncId→Option Spec:=λf=>bif beq f 256 then some (au QJ)else bif beq f 126 then some (au NQ)else
 bif beq f 259 then some (eB UD)else bif beq f 260 then some (au UU)else none
def abJ:List AV→Option (AV×List Bool)
 | [.c (.v (.string a)),.c (.v (.string b))]=>some (nQ (aD (aM a.data.toList-aM b.data.toList)),[decide (a.data.toList.length≤100000000),decide (b.data.toList.length≤100000000),decide (aM b.data.toList≤aM a.data.toList)])
 | _=>none
end Go.bA
namespace Go.bA
open Go.Proofs
def zw(y:List Nat)(o:List Nat)(c:Int)(n:Int)(i:Int):Tr (Af ⊕ Af):=
 let x1:Int:= ↑o.length
 let x2:Int:= ↑y.length
 let x3:Int:=i64.wrap (i64.wrap ↑(o.getD i.toNat 0)-c)
 let x4:Int:=i64.wrap (x3-i64.wrap ↑(y.getD i.toNat 0))
 let x5:List Nat:=aL y.length (aB y)
 let x6:Int:=i64.wrap (i+1)
 .ite (decide (i<n)) (.need (decide (0≤i∧i<x1)) (.need (decide (i.toNat<o.length)) (.ite (decide (i<x2)) (.need (decide (0≤i∧i<x2)) (.need (decide (i.toNat<y.length)) (.ite (decide (x4<0)) (.need (decide (0≤i∧i<x1)) (.need (decide (i.toNat<o.length)) (.need (decide (y.length=y.length)) (.need (decide (o.length=o.length)) (.need (aJ y.length (aB y)) (.need (aJ o.length (aT (aB o) i.toNat 0 [IV.v (.int u32 (u32.wrap (i64.wrap (x4+4294967296))))].reverse)) (.ret (Sum.inl {y:=x5,o:=aL o.length (aT (aB o) i.toNat 0 [IV.v (.int u32 (u32.wrap (i64.wrap (x4+4294967296))))].reverse),c:=1,n:=n,i:=x6})))))))) (.need (decide (0≤i∧i<x1)) (.need (decide (i.toNat<o.length)) (.need (decide (y.length=y.length)) (.need (decide (o.length=o.length)) (.need (aJ y.length (aB y)) (.need (aJ o.length (aT (aB o) i.toNat 0 [IV.v (.int u32 (u32.wrap x4))].reverse)) (.ret (Sum.inl {y:=x5,o:=aL o.length (aT (aB o) i.toNat 0 [IV.v (.int u32 (u32.wrap x4))].reverse),c:=0,n:=n,i:=x6}))))))))))) (.ite (decide (x3<0)) (.need (decide (0≤i∧i<x1)) (.need (decide (i.toNat<o.length)) (.need (decide (y.length=y.length)) (.need (decide (o.length=o.length)) (.need (aJ y.length (aB y)) (.need (aJ o.length (aT (aB o) i.toNat 0 [IV.v (.int u32 (u32.wrap (i64.wrap (x3+4294967296))))].reverse)) (.ret (Sum.inl {y:=x5,o:=aL o.length (aT (aB o) i.toNat 0 [IV.v (.int u32 (u32.wrap (i64.wrap (x3+4294967296))))].reverse),c:=1,n:=n,i:=x6})))))))) (.need (decide (0≤i∧i<x1)) (.need (decide (i.toNat<o.length)) (.need (decide (y.length=y.length)) (.need (decide (o.length=o.length)) (.need (aJ y.length (aB y)) (.need (aJ o.length (aT (aB o) i.toNat 0 [IV.v (.int u32 (u32.wrap x3))].reverse)) (.ret (Sum.inl {y:=x5,o:=aL o.length (aT (aB o) i.toNat 0 [IV.v (.int u32 (u32.wrap x3))].reverse),c:=0,n:=n,i:=x6})))))))))))) (.need (decide (y.length=y.length)) (.need (decide (o.length=o.length)) (.need (aJ y.length (aB y)) (.need (aJ o.length (aB o)) (.ret (Sum.inr {y:=x5,o:=aL o.length (aB o),c:=c,n:=n,i:=i}))))))
theorem U4(w:Way Af)(x:Af):(exec prog (λ_=>none) dn 1005 (aR 0 (codeOf Tryz.f227)) (eY (Q6 w).nIn ((Q6 w).head x))).bind ((Q6 w).fin 0 0)=zw x.y x.o x.c x.n x.i:=by
 obtain⟨y,o,c,n,i⟩:=x
 kernel_rfl
theorem zA(X Y i:Nat):borrow X Y i≤1:=by unfold borrow;split<;>omega
theorem agC(X Y i:Nat)(h:Y≤X):(X-Y)/BB^i+Y/BB^i+borrow X Y i=X/BB^i:=by
 have hp:0<BB^i:=Nat.pow_pos (by decide);have h1:=Nat.div_add_mod X (BB^i);have h2:=Nat.div_add_mod Y (BB^i);have h3:=Nat.mod_lt X hp;have h4:=Nat.mod_lt Y hp;unfold borrow;generalize hP:BB^i=P at*;have hle:Y/P≤X/P:=Nat.div_le_div_right h;by_cases hb:X%P<Y%P
 ·rw[if_pos hb]
  have hlt:Y/P<X/P:=by
   rcases Nat.lt_or_ge (Y/P) (X/P)with h|h
   ·exact h
   ·have he:Y/P=X/P:=by omega
    rw[he]at h2;omega
  obtain⟨k,hk⟩: ∃k,X/P=Y/P+(k+1):=⟨X/P-Y/P-1,by omega⟩
  have e:X-Y=(P+X%P-Y%P)+P*k:=by
   rw[hk,Nat.mul_add,Nat.mul_add]at h1;omega
  rw[e,Nat.add_mul_div_left _ _ hp,Nat.div_eq_of_lt (show P+X%P-Y%P<P by omega)];omega
 ·rw[if_neg hb]
  obtain⟨k,hk⟩: ∃k,X/P=Y/P+k:=⟨X/P-Y/P,by omega⟩
  have e:X-Y=(X%P-Y%P)+P*k:=by
   rw[hk,Nat.mul_add]at h1;omega
  rw[e,Nat.add_mul_div_left _ _ hp,Nat.div_eq_of_lt (show X%P-Y%P<P by omega)];omega
theorem L6(X Y i:Nat)(h:Y≤X):(X-Y)/BB^i%BB=(X/BB^i%BB+BB-borrow X Y i-Y/BB^i%BB)%BB:=by
 have e:=agC X Y i h;have hb:=zA X Y i;generalize (X-Y)/BB^i=a at*;generalize X/BB^i=x at*;generalize Y/BB^i=y at*;unfold BB;omega
theorem yG(X Y i:Nat):borrow X Y (i+1)=if X/BB^i%BB<borrow X Y i+Y/BB^i%BB then 1 else 0:=by
 have hp:0<BB^i:=Nat.pow_pos (by decide);have h3:=Nat.mod_lt X hp;have h4:=Nat.mod_lt Y hp;unfold borrow;rw[Nat.mod_pow_succ,Nat.mod_pow_succ];generalize X/BB^i%BB=x;generalize Y/BB^i%BB=y;generalize X%BB^i=X' at*;generalize Y%BB^i=Y' at*;generalize BB^i=P at*;have key:X'+P*x<Y'+P*y↔x<(if X'<Y' then 1 else 0)+y:=by
  rcases Nat.lt_trichotomy x y with h|h|h
  ·obtain⟨k,rfl⟩: ∃k,y=x+(k+1):=⟨y-x-1,by omega⟩
   have:P*(x+(k+1))=P*x+P*k+P:=by rw[Nat.mul_add,Nat.mul_add];omega
   constructor
   ·intro _;split<;>omega
   ·intro _;rw[this];omega
  ·subst h
   split<;>constructor<;>omega
  ·obtain⟨k,rfl⟩: ∃k,x=y+(k+1):=⟨x-y-1,by omega⟩
   have:P*(y+(k+1))=P*y+P*k+P:=by rw[Nat.mul_add,Nat.mul_add];omega
   rw[this];constructor
   ·intro _;omega
   ·intro hh;split at hh<;>omega
 by_cases hc:X'+P*x<Y'+P*y
 ·rw[if_pos hc,if_pos (key.1 hc)]
 ·rw[if_neg hc,if_neg (λh=>hc (key.2 h))]
theorem U5(y:List Nat)(hy:okD y=true)(X n i:Nat)(hX:aC y≤X)(hn:n≤1000000000)(hi:i<n){R:Af ⊕ Af→Prop}
  (hin:R (.inl ⟨y,dX X (X-aC y) n (i+1),(borrow X (aC y) (i+1):Nat),(n:Nat),((i+1:Nat):Int)⟩)):
  (zw y (dX X (X-aC y) n i) (borrow X (aC y) i:Nat) (n:Nat) (i:Nat)).sat R:=by
 have hc:=zA X (aC y) i;have hYl:=wS y hy;have ho:=kP X (X-aC y) n i i hi;rw[if_neg (Nat.lt_irrefl _)]at ho;have hox:X/BB^i%BB<4294967296:=Nat.mod_lt _ (by decide);have hyx:aC y/BB^i%BB<4294967296:=Nat.mod_lt _ (by decide);have hs:=oH X (X-aC y) n i hi;have had:=L6 X (aC y) i hX;have hcs:=yG X (aC y) i;have w5:i64.wrap ((i:Int)+1)=((i+1:Nat):Int):=kU;have hyg:y.getD i 0=aC y/BB^i%BB:=by
  by_cases hl:i<y.length
  ·have:=ig y hy
   rw[←this,lI _ _ _ hl,this]
  ·rw[CW hYl (by omega)]
   simp[dJ,List.getElem?_eq_none (Nat.le_of_not_lt hl)]
 have hyz: ¬i<y.length→aC y/BB^i%BB=0:=λh=>by rw[CW hYl (by omega)];rfl
 generalize borrow X (aC y) i=c at hc had hcs;generalize borrow X (aC y) (i+1)=c' at hcs hin;generalize hO:X/BB^i%BB=ox at hox ho had hcs;generalize aC y/BB^i%BB=yx at hyx had hcs hyg hyz;have a1:i64.wrap ((ox:Nat):Int)=((ox:Nat):Int):=wrap_i64 (by omega);have a2:i64.wrap (((ox:Nat):Int)-((c:Nat):Int))=((ox:Nat):Int)-((c:Nat):Int):=wrap_i64 (by omega);have a3:i64.wrap ((yx:Nat):Int)=((yx:Nat):Int):=wrap_i64 (by omega);have a4:i64.wrap (((ox:Nat):Int)-((c:Nat):Int)-((yx:Nat):Int))=((ox:Nat):Int)-((c:Nat):Int)-((yx:Nat):Int):=wrap_i64 (by omega);unfold zw;simp only[Int.toNat_natCast,ho,hyg,w5,a1,a2,a3,a4,dL,aW];have e2:=aW (dX X (X-aC y) n (i+1));rw[dL]at e2
 have key: ∀(z:Int) (b:Nat),z=(((ox+BB-c-yx)%BB:Nat):Int)→b=c'→
   Tr.sat R (need (aJ n (aT (aB (dX X (X-aC y) n i)) i 0 [IV.v (.int .u32 z)].reverse)) (ret (Sum.inl ⟨y,aL n (aT (aB (dX X (X-aC y) n i)) i 0 [IV.v (.int .u32 z)].reverse),(b:Nat),(n:Nat),((i+1:Nat):Int)⟩))):=by
  intro z b hz hb;subst hz hb;rw[fA _ _ _ (by rw[dL];exact hi), ←had,hs,e2];exact ah (aO (kQ _ _ _ _) _) (ak hin)
 unfold BB at key;have k1: ∀d:Int,d=((ox:Nat):Int)-c-yx→d<0→u32.wrap (i64.wrap (d+4294967296))=(((ox+4294967296-c-yx)%4294967296:Nat):Int)∧1=c':=by
  intro d hd h0;constructor
  ·rw[wrap_i64 (by omega),wrap_u32];omega
  ·rw[hcs,if_pos (by omega)]
 have k2: ∀d:Int,d=((ox:Nat):Int)-c-yx→ ¬d<0→u32.wrap d=(((ox+4294967296-c-yx)%4294967296:Nat):Int)∧0=c':=by
  intro d hd h0;constructor
  ·rw[wrap_u32];omega
  ·rw[hcs,if_neg (by omega)]
 refine aj (λ_=>ah (dA) (ah (dK hi) (aj (λh=> ?_) (λh=> ?_)))) (λh=>absurd (show(i:Int)<(n:Nat)by omega) (of_decide_eq_false h))
 ·have h:=iX h
  refine ah (dA) (ah (dA) (aj (λh0=> ?_) (λh0=> ?_)))
  ·obtain⟨q1,q2⟩:=k1 _ rfl (iX h0)
   exact ah (dA) (ah (dK hi) (ah (by simp) (ah (by simp) (ah (aO hy _) (key _ _ q1 q2)))))
  ·obtain⟨q1,q2⟩:=k2 _ rfl (of_decide_eq_false h0)
   exact ah (dA) (ah (dK hi) (ah (by simp) (ah (by simp) (ah (aO hy _) (key _ _ q1 q2)))))
 ·have h:=of_decide_eq_false h
  have hz:=hyz (by omega);refine aj (λh0=> ?_) (λh0=> ?_)
  ·obtain⟨q1,q2⟩:=k1 (((ox:Nat):Int)-c) (by omega) (iX h0)
   exact ah (dA) (ah (dK hi) (ah (by simp) (ah (by simp) (ah (aO hy _) (key _ _ q1 q2)))))
  ·obtain⟨q1,q2⟩:=k2 (((ox:Nat):Int)-c) (by omega) (of_decide_eq_false h0)
   exact ah (dA) (ah (dK hi) (ah (by simp) (ah (by simp) (ah (aO hy _) (key _ _ q1 q2)))))
theorem Xu(y:List Nat)(hy:okD y=true)(X n:Nat)(hX:aC y≤X)(hn:n≤1000000000)(Q:Af→Prop)(hq:Q ⟨y,bn (X-aC y) n,(borrow X (aC y) n:Nat),(n:Nat),(n:Nat)⟩): ∀(k i:Nat),i+k=n→
  aS (λx:Af=>zw x.y x.o x.c x.n x.i) Q (k+1) ⟨y,dX X (X-aC y) n i,(borrow X (aC y) i:Nat),(n:Nat),(i:Nat)⟩
 | 0,i,hi=>by
   obtain rfl:i=n:=by omega
   rw[yF];unfold aS
   change Tr.sat _ (zw y (bn (X-aC y) i) (borrow X (aC y) i:Nat) (i:Nat) (i:Nat))
   have e:=aW (bn (X-aC y) i);unfold zw;rw[e,aW];exact aj (λh=>absurd (iX h) (Int.lt_irrefl _)) (λ_=>ah (by simp) (ah (by simp) (ah (aO hy _) (ah (aO (bZ _ _) _) (ak hq)))))
 | k+1,i,hi=>U5 y hy X n i hX hn (by omega) (Xu y hy X n hX hn Q hq k (i+1) (by omega))
theorem U6:bB prog 0 al6 (codeOf Tryz.f227):=by
 refine gu (N:=1005) (L':=dn) eH (aA 0 _) (U3 _) (U4 Jp) ?_;rintro⟨y,o,c,n,i⟩ hx;have hx:Jp.pre ⟨y,o,c,n,i⟩=true:=hx;simp only[Jp,bI,dS]at hx;obtain⟨⟨⟨⟨⟨⟨rfl,rfl⟩,rfl⟩,h4⟩,h5⟩,h6⟩,h7⟩:=hx;have:=Xu y h4 (aC o) o.length h7 h6 (· =Jp.res ⟨y,o,0,(o.length:Nat),0⟩) rfl o.length 0 (by omega);rw[vI,ig o h5]at this;have c0:borrow (aC o) (aC y) 0=0:=by simp[borrow,Nat.mod_one]
 rw[c0]at this;exact⟨_,this⟩
end Go.bA
namespace Go.bA
open Go.Proofs
def al8(a:ByteArray)(b:ByteArray):Tr AV:=
 let x1:Int:=u64.wrap (gI a-gI b)
 let x2:List UInt8:=a.data.toList
 let x3:List UInt8:=b.data.toList
 let x4:Int:= ↑(bE x2.length)
 let x5:Int:=((4:Nat):Int)*x4
 let x6:Nat:=x4.toNat
 let x7:Nat:=min (bE x2.length) x6
 let x8:Int:= ↑x6
 let x9:List Nat:=aL x6 λi=>if i<x7 then aB (bn (aM x2) (bE x2.length)) i else List.map IV.v [Value.int u32 0]
 let x10:Nat:=x9.length
 let iW:Int:= ↑x10
 let kL:List Nat:=aL (bE x3.length) (aB (bn (aM x3) (bE x3.length)))
 let jA:Nat:=aC kL
 let kM:Nat:=aC x9
 let mO:List Nat:=bn (kM-jA) x10
 let nu:Nat:=mO.length
 .ite (fH a&&fH b) (.need (iK x1) (.ret (.c (.v (.string ⟨⟨aD x1.toNat⟩⟩))))) (.need (decide (x2.length≤1000000000)) (.need (decide (x3.length≤1000000000)) (.need (decide (x4=x4)) (.need true (.need (decide (x4≤9223372036854775807)) (.need (decide (x5≤140737488355328)) (.need (decide (x6≤x6)) (.need (decide (bE x2.length≤bE x2.length)) (.need (decide (bE x3.length=bE x3.length)) (.need (decide (x6=x6)) (.need (aJ (bE x3.length) (aB (bn (aM x3) (bE x3.length)))) (.need (aJ x6 λi=>if i<x7 then aB (bn (aM x2) (bE x2.length)) i else List.map IV.v [Value.int u32 0]) (.need (decide (x8=iW)&&decide ((0:Int)=0)&&decide ((0:Int)=0)&&okD kL&&okD x9&&decide (x10≤1000000000)&&decide (jA≤kM)) (.need (decide (nu≤nu)) (.need (aJ nu (aB mO)) (.need (decide (nu≤1000000000)) (.ret (.c (.v (.string ⟨⟨aD (aC (aL nu (aB mO)))⟩⟩))))))))))))))))))))
theorem agD(a b:ByteArray):aN prog al7 al6 1005 Tryz.f227 [.c (.v (.string a)),.c (.v (.string b))]=al8 a b:=by kernel_rfl
theorem agE: ∀f s,al7 f=some s→aH prog f s:=step_ok CJ.spec (step_ok zi.spec (step_ok GU.spec (bM G7.spec)))
theorem oI(s:ByteArray)(hs:fH s=true):gI s=((aM s.data.toList:Nat):Int):=by
 have:s.data.toList.length≤8:=iX hs;unfold gI;rw[if_pos this]
theorem rP(s:ByteArray)(hs:fH s=true):aM s.data.toList<18446744073709551616:=by
 have h8:s.data.toList.length≤8:=iX hs;have:=uj s.data.toList;have h2:256^s.data.toList.length≤256^8:=Nat.pow_le_pow_right (by decide) h8;have h3:256^8=18446744073709551616:=by decide
 omega
theorem abK(a b:ByteArray)(ha:a.data.toList.length≤100000000)(hb:b.data.toList.length≤100000000)(hle:aM b.data.toList≤aM a.data.toList):(al8 a b).sat λr=>r=nQ (aD (aM a.data.toList-aM b.data.toList)):=by
 have la:=qm a;have lb:=qm b;have na:bE a.data.toList.length≤25000001:=by unfold bE;omega
 have nb:bE b.data.toList.length≤25000001:=by unfold bE;omega
 have ea:(aL (bE a.data.toList.length) λi=>if i<bE a.data.toList.length then aB (bn (aM a.data.toList) (bE a.data.toList.length)) i else List.map IV.v [Value.int u32 0])=bn (aM a.data.toList) (bE a.data.toList.length):=by
  have:=aW (bn (aM a.data.toList) (bE a.data.toList.length));rw[bN]at this;refine Eq.trans ?_ this;unfold aL;refine List.map_congr_left λk hk=> ?_
  exact congrArg u32Of (if_pos (List.mem_range.1 hk))
 have eb:aL (bE b.data.toList.length) (aB (bn (aM b.data.toList) (bE b.data.toList.length)))=bn (aM b.data.toList) (bE b.data.toList.length):=by
  have:=aW (bn (aM b.data.toList) (bE b.data.toList.length));rw[bN]at this;exact this
 have ia:(aJ (bE a.data.toList.length) λi=>if i<bE a.data.toList.length then aB (bn (aM a.data.toList) (bE a.data.toList.length)) i else List.map IV.v [Value.int u32 0])=true:=by
  refine List.all_eq_true.2 λk hk=> ?_
  refine(congrArg QK (if_pos (List.mem_range.1 hk))).trans ?_;exact List.all_eq_true.1 (aO (bZ _ _) (bE a.data.toList.length)) k hk
 unfold al8;simp only[Int.toNat_natCast,Nat.min_self,ea,ia,eb,d9 _ _ la,d9 _ _ lb,bN];have efa:=aW (bn (aM a.data.toList-aM b.data.toList) (bE a.data.toList.length));rw[bN]at efa;simp only[efa,d9 _ _ (show aM a.data.toList-aM b.data.toList<BB^bE a.data.toList.length by omega)];refine aj (λhw=> ?_) (λhw=> ?_)
 ·rw[bI]at hw
  have h1:=rP a hw.1;rw[oI a hw.1,oI b hw.2];have e:u64.wrap (((aM a.data.toList:Nat):Int)-((aM b.data.toList:Nat):Int))=((aM a.data.toList-aM b.data.toList:Nat):Int):=by rw[wrap_u64];omega
  rw[e,Int.toNat_natCast];exact ah (by simp[iK];omega) (ak rfl)
 ·refine ah (dA) (ah (dA) (ah (by simp) (ah rfl (ah (dA) (ah (dA) (ah (by simp) (ah (by simp) (ah (by simp) (ah (by simp) (ah (aO (bZ _ _) _) (ah rfl (ah ?_ (ah (by simp) (ah (aO (bZ _ _) _) (ah (dA) (ak rfl))))))))))))))))
  simp only[bZ,Bool.and_true,bI,dS];refine⟨⟨⟨⟨trivial,trivial⟩,trivial⟩,by omega⟩,hle⟩
theorem Xv:aF prog 227 abJ:=by
 refine poL (N:=1005) agE U6 (fn:=Tryz.f227) ?_ ?_
 ·intro args v cs h
  unfold abJ at h
  split at h
  ·cases h;rfl
  ·cases h
 ·intro args v cs h hc
  unfold abJ at h
  split at h
  ·rename_i a b
   cases h;have h1:a.data.toList.length≤100000000:=dec (hc (decide (a.data.toList.length≤100000000)) (by simp));have h2:b.data.toList.length≤100000000:=dec (hc (decide (b.data.toList.length≤100000000)) (by simp));have h3:aM b.data.toList≤aM a.data.toList:=dec (hc (decide (aM b.data.toList≤aM a.data.toList)) (by simp));have hs:=abK a b h1 h2 h3;rw[←agD]at hs;generalize aN prog al7 al6 1005 Tryz.f227 [.c (.v (.string a)),.c (.v (.string b))]=T at hs⊢;generalize aD (aM a.data.toList-aM b.data.toList)=z at hs⊢;exact Tr.aZ (λr hr=>⟨by subst hr;rfl,bL.of_eq hr⟩) hs
  ·cases h
end Go.bA
namespace Go.bA
open Go.Proofs
structure qV where
 y:List Nat
 o:List Nat
 i:Int
 d:Int
 c:Int
 x:List Nat
 N:Int
 I:Int
 n:Int
 k:Int
def yH(x:qV):List AV×List (Option gJ):=([.fK 0 x.y.length 1,.fK 1 x.o.length 1,bR .i64 x.i,bR .u32 x.d,bR .u64 x.c,.fK 2 x.x.length 1,bR .i64 x.N,bR .i64 x.I,bR .i64 x.n,bR .i64 x.k],[some (.arr x.y.length 1 (aB x.y) 335),some (.arr x.o.length 1 (aB x.o) 335),some (.arr x.x.length 1 (aB x.x) 335)])
def CY:List AV×List (Option gJ)→Option (qV×List Bool)
 | ([.fK 0 my 1,.fK 1 mo 1,.c (.v (.int .i64 i)),.c (.v (.int .u32 d)),.c (.v (.int .u64 c)),.fK 2 mx 1,.c (.v (.int .i64 N)),.c (.v (.int .i64 I)),.c (.v (.int .i64 n)),.c (.v (.int .i64 k))],[some (.arr ky 1 ey 335),some (.arr ko 1 eo 335),some (.arr kx 1 ex 335)])=>some (⟨aL my ey,aL mo eo,i,d,c,aL mx ex,N,I,n,k⟩,[decide (my=ky),decide (mo=ko),decide (mx=kx),aJ my ey,aJ mo eo,aJ mx ex])
 | _=>none
def Bq(w:Way qV):bC qV qV where
 nIn:={nt:=97,live:=[11,12,13,14,15,46,47,48,54,55]}
 qF:={nt:=97,live:=[11,12,13,14,15,46,47,48,54,55]}
 head:=yH
 take:=CY
 out:=λr=>(.normal,yH r)
 iC:=λq=>match q with|(.normal,q)=>CY q | _=>none
 res:=w.res
 pre:=w.pre
theorem FW(q:List AV×List (Option gJ))(x:qV)(cs:List Bool)(h:CY q=some (x,cs))(hc: ∀p∈cs,p):dW q.1 (yH x).1∧bX q.2 (yH x).2:=by
 unfold CY at h
 split at h
 ·rename_i my mo i d c mx N I n k ky ey ko eo kx ex
  simp only[fu,Prod.mk.injEq]at h;obtain⟨rfl,rfl⟩:=h;have hy:my=ky:=dec (hc (decide (my=ky)) (by simp));have gy:aJ my ey=true:=hc (aJ my ey) (by simp);have ho:mo=ko:=dec (hc (decide (mo=ko)) (by simp));have go:aJ mo eo=true:=hc (aJ mo eo) (by simp);have hx:mx=kx:=dec (hc (decide (mx=kx)) (by simp));have gx:aJ mx ex=true:=hc (aJ mx ex) (by simp);subst hy;subst ho;subst hx;simp only[yH,jN];exact⟨dW.refl _,.cons (.arr _ _ _ _ _ (gQ gy).1) (.cons (.arr _ _ _ _ _ (gQ go).1) (.cons (.arr _ _ _ _ _ (gQ gx).1) (.nil)))⟩
 ·cases h
theorem Q7(w:Way qV):(Bq w).gH where
 take:=FW
 iC:=by
  intro e q r cs h hc;cases e with
  | normal=>obtain⟨h1,h2⟩:=FW q r cs h hc;exact⟨rfl,h1,h2⟩
  | exit j=>cases h
  | ret=>cases h
 split:=λr Q h=>h
def oW(o d Y i k:Nat):Nat:=o%BB^(i+k)+d*(Y%BB^k)*BB^i
def uq:Way qV:=⟨λx=>⟨x.y,dX (aC x.o) (aC x.o+x.d.toNat*aC x.y*BB^x.i.toNat) x.o.length (x.i.toNat+x.y.length),x.i,x.d,(oW (aC x.o) x.d.toNat (aC x.y) x.i.toNat x.y.length/BB^(x.i.toNat+x.y.length):Nat),x.x,x.N,x.I,x.n,x.n⟩,
 λx=>decide (x.n=(x.y.length:Nat))&&decide (x.k=0)&&decide (x.c=0)&&okD x.y&&okD x.o&&okD x.x&&decide (x.o.length≤1000000000)&&decide (0≤x.i)&&decide (x.i.toNat+x.y.length≤x.o.length)&&decide (0≤x.d)&&decide (x.d<4294967296)⟩
def L8:Nat→Option (St→Tr (Ex×St)):=λid=>bif beq id 2 then some ((Bq uq).g 0)else none
structure Ag where
 y:List Nat
 o:List Nat
 x:List Nat
 N:Int
 I:Int
def CZ(x:Ag):List AV×List (Option gJ):=([.fK 0 x.y.length 1,.fK 1 x.o.length 1,.fK 2 x.x.length 1,bR .i64 x.N,bR .i64 x.I],[some (.arr x.y.length 1 (aB x.y) 335),some (.arr x.o.length 1 (aB x.o) 335),some (.arr x.x.length 1 (aB x.x) 335)])
def He:List AV×List (Option gJ)→Option (Ag×List Bool)
 | ([.fK 0 my 1,.fK 1 mo 1,.fK 2 mx 1,.c (.v (.int .i64 N)),.c (.v (.int .i64 I))],[some (.arr ky 1 ey 335),some (.arr ko 1 eo 335),some (.arr kx 1 ex 335)])=>some (⟨aL my ey,aL mo eo,aL mx ex,N,I⟩,[decide (my=ky),decide (mo=ko),decide (mx=kx),aJ my ey,aJ mo eo,aJ mx ex])
 | _=>none
def Q8(w:Way Ag):bC Ag Ag where
 nIn:={nt:=97,live:=[11,12,46,47,48]}
 qF:={nt:=97,live:=[11,12,46,47,48]}
 head:=CZ
 take:=He
 out:=λr=>(.normal,CZ r)
 iC:=λq=>match q with|(.normal,q)=>He q | _=>none
 res:=w.res
 pre:=w.pre
theorem Jq(q:List AV×List (Option gJ))(x:Ag)(cs:List Bool)(h:He q=some (x,cs))(hc: ∀p∈cs,p):dW q.1 (CZ x).1∧bX q.2 (CZ x).2:=by
 unfold He at h
 split at h
 ·rename_i my mo mx N I ky ey ko eo kx ex
  simp only[fu,Prod.mk.injEq]at h;obtain⟨rfl,rfl⟩:=h;have hy:my=ky:=dec (hc (decide (my=ky)) (by simp));have gy:aJ my ey=true:=hc (aJ my ey) (by simp);have ho:mo=ko:=dec (hc (decide (mo=ko)) (by simp));have go:aJ mo eo=true:=hc (aJ mo eo) (by simp);have hx:mx=kx:=dec (hc (decide (mx=kx)) (by simp));have gx:aJ mx ex=true:=hc (aJ mx ex) (by simp);subst hy;subst ho;subst hx;simp only[CZ,jN];exact⟨dW.refl _,.cons (.arr _ _ _ _ _ (gQ gy).1) (.cons (.arr _ _ _ _ _ (gQ go).1) (.cons (.arr _ _ _ _ _ (gQ gx).1) (.nil)))⟩
 ·cases h
theorem U7(w:Way Ag):(Q8 w).gH where
 take:=Jq
 iC:=by
  intro e q r cs h hc;cases e with
  | normal=>obtain⟨h1,h2⟩:=Jq q r cs h hc;exact⟨rfl,h1,h2⟩
  | exit j=>cases h
  | ret=>cases h
 split:=λr Q h=>h
end Go.bA
namespace Go.bA
open Go.Proofs
def vJ(y:List Nat)(o:List Nat)(i:Int)(d:Int)(c:Int)(x:List Nat)(N:Int)(I:Int)(n:Int)(k:Int):Tr (qV ⊕ qV):=
 let x1:Int:=i64.wrap (i+k)
 let x2:Int:= ↑o.length
 let x3:Nat:=x1.toNat
 let x4:Int:= ↑y.length
 let x5:Int:=u64.wrap (c+u64.wrap (u64.wrap ↑(o.getD x3 0)+u64.wrap (u64.wrap d*u64.wrap ↑(y.getD k.toNat 0))))
 let x6:List Nat:=aL y.length (aB y)
 let x7:List Nat:=aL x.length (aB x)
 .ite (decide (k<n)) (.need (decide (0≤x1∧x1<x2)) (.need (decide (x3<o.length)) (.need (decide (0≤k∧k<x4)) (.need (decide (k.toNat<y.length)) (.need true (.need (decide (0≤x1∧x1<x2)) (.need (decide (x3<o.length)) (.need (decide (y.length=y.length)) (.need (decide (o.length=o.length)) (.need (decide (x.length=x.length)) (.need (aJ y.length (aB y)) (.need (aJ o.length (aT (aB o) x3 0 [IV.v (.int u32 (u32.wrap x5))].reverse)) (.need (aJ x.length (aB x)) (.ret (Sum.inl {y:=x6,o:=aL o.length (aT (aB o) x3 0 [IV.v (.int u32 (u32.wrap x5))].reverse),i:=i,d:=d,c:=x5.fdiv (2^min (Int.toNat 32) u64.bits),x:=x7,N:=N,I:=I,n:=n,k:=i64.wrap (k+1)}))))))))))))))) (.need (decide (y.length=y.length)) (.need (decide (o.length=o.length)) (.need (decide (x.length=x.length)) (.need (aJ y.length (aB y)) (.need (aJ o.length (aB o)) (.need (aJ x.length (aB x)) (.ret (Sum.inr {y:=x6,o:=aL o.length (aB o),i:=i,d:=d,c:=c,x:=x7,N:=N,I:=I,n:=n,k:=k}))))))))
theorem Q9(w:Way qV)(x:qV):(exec prog (λ_=>none) dn 1005 (aR 2 (codeOf Tryz.f224)) (eY (Bq w).nIn ((Bq w).head x))).bind ((Bq w).fin 0 2)=vJ x.y x.o x.i x.d x.c x.x x.N x.I x.n x.k:=by
 obtain⟨y,o,i,d,c,x,N,I,n,k⟩:=x
 kernel_rfl
theorem agF(o d Y i k:Nat)(hd:d<BB):oW o d Y i k<BB*BB^(i+k):=by
 have h1:o%BB^(i+k)<BB^(i+k):=Nat.mod_lt _ (Nat.pow_pos (by decide));have h2:Y%BB^k<BB^k:=Nat.mod_lt _ (Nat.pow_pos (by decide));have h3:d*(Y%BB^k)*BB^i≤(BB-1)*BB^(i+k):=by
  calc d*(Y%BB^k)*BB^i≤((BB-1)*BB^k)*BB^i:=Nat.mul_le_mul_right _ (Nat.mul_le_mul (by omega) (by omega))
   _=(BB-1)*BB^(i+k):=by rw[Nat.mul_assoc, ←Nat.pow_add,Nat.add_comm k i]
 have h4:BB*BB^(i+k)=(BB-1)*BB^(i+k)+BB^(i+k):=by
  have:BB=(BB-1)+1:=rfl;rw[this,Nat.add_mul,Nat.one_mul];rfl
 unfold oW;omega
theorem NY(o d Y i k:Nat)(hd:d<BB):oW o d Y i k/BB^(i+k)<BB:=by
 rw[Nat.div_lt_iff_lt_mul (Nat.pow_pos (by decide))];exact agF o d Y i k hd
theorem Zc(o d Y i k:Nat):oW o d Y i (k+1)=oW o d Y i k+BB^(i+k)*(o/BB^(i+k)%BB+d*(Y/BB^k%BB)):=by
 unfold oW;rw[←Nat.add_assoc,Nat.mod_pow_succ,Nat.mod_pow_succ,Nat.pow_add];generalize o%(BB^i*BB^k)=a;generalize o/(BB^i*BB^k)%BB=b;generalize Y%BB^k=c;generalize Y/BB^k%BB=e;generalize BB^i=p;generalize BB^k=q;simp only[Nat.mul_add,Nat.add_mul];have e1:d*(q*e)*p=p*q*(d*e):=by simp only[Nat.mul_assoc,Nat.mul_comm,Nat.mul_left_comm]
 omega
theorem L9(o d Y i k:Nat):oW o d Y i (k+1)/BB^(i+(k+1))=(oW o d Y i k/BB^(i+k)+(o/BB^(i+k)%BB+d*(Y/BB^k%BB)))/BB:=by
 rw[Zc, ←Nat.add_assoc,Nat.pow_succ, ←Nat.div_div_eq_div_mul,Nat.add_mul_div_left _ _ (Nat.pow_pos (by decide))]
theorem Ma(o d Y i k:Nat):(o+d*Y*BB^i)/BB^(i+k)%BB=(oW o d Y i k/BB^(i+k)+(o/BB^(i+k)%BB+d*(Y/BB^k%BB)))%BB:=by
 have hp:0<BB^(i+k):=Nat.pow_pos (by decide);have e:o+d*Y*BB^i=oW o d Y i k+BB^(i+k)*(o/BB^(i+k)+d*(Y/BB^k)):=by
  have h1:=Nat.div_add_mod o (BB^(i+k));have h2:=Nat.div_add_mod Y (BB^k);unfold oW;have e2:d*Y*BB^i=d*(Y%BB^k)*BB^i+BB^(i+k)*(d*(Y/BB^k)):=by
   conv=>lhs;rw[←h2]
   rw[Nat.pow_add];generalize Y%BB^k=c;generalize Y/BB^k=e;generalize BB^i=p;generalize BB^k=q;simp only[Nat.mul_add,Nat.add_mul];have e1:d*(q*e)*p=p*q*(d*e):=by simp only[Nat.mul_assoc,Nat.mul_comm,Nat.mul_left_comm]
   omega
  rw[e2,Nat.mul_add];omega
 rw[e,Nat.add_mul_div_left _ _ hp];have e3:d*(Y/BB^k)%BB=d*(Y/BB^k%BB)%BB:=by rw[Nat.mul_mod,Nat.mul_mod d (Y/BB^k%BB),Nat.mod_mod]
 generalize oW o d Y i k/BB^(i+k)=a;generalize o/BB^(i+k)=b;generalize d*(Y/BB^k)=u at*;generalize d*(Y/BB^k%BB)=v at*;unfold BB at*;omega
theorem Ra(o d Y i m:Nat)(hY:Y<BB^m)(ho:o<BB^(i+m)):oW o d Y i m=o+d*Y*BB^i:=by
 unfold oW;rw[Nat.mod_eq_of_lt hY,Nat.mod_eq_of_lt ho]
theorem U8(v j:Nat):v/BB^j%BB<4294967296:=Nat.mod_lt _ (by decide)
theorem vK{d e:Nat}(hd:d<4294967296)(he:e<4294967296):d*e≤18446744065119617025:=by
 calc d*e≤4294967295*4294967295:=Nat.mul_le_mul (by omega) (by omega)
  _=18446744065119617025:=by decide
theorem Rb(y x:List Nat)(hy:okD y=true)(hx:okD x=true)(X d n i k:Nat)(N I:Int)(hd:d<4294967296)(hn:n≤1000000000)(hk:k<y.length)(hi:i+y.length≤n){R:qV ⊕ qV→Prop}
  (hin:R (.inl ⟨y,dX X (X+d*aC y*BB^i) n (i+(k+1)),(i:Nat),(d:Nat),(oW X d (aC y) i (k+1)/BB^(i+(k+1)):Nat),x,N,I,(y.length:Nat),((k+1:Nat):Int)⟩)):
  (vJ y (dX X (X+d*aC y*BB^i) n (i+k)) (i:Nat) (d:Nat) (oW X d (aC y) i k/BB^(i+k):Nat) x N I (y.length:Nat) (k:Nat)).sat R:=by
 have ho:=kP X (X+d*aC y*BB^i) n (i+k) (i+k) (by omega);rw[if_neg (Nat.lt_irrefl _)]at ho;have hox:=U8 X (i+k);have hyx:=U8 (aC y) k;have hs:=oH X (X+d*aC y*BB^i) n (i+k) (by omega);have had:=Ma X d (aC y) i k;have hcs:=L9 X d (aC y) i k;have hcl:=NY X d (aC y) i k hd;have hyg:y.getD k 0=aC y/BB^k%BB:=by
  have:=ig y hy;rw[←this,lI _ _ _ hk,this]
 have w0:i64.wrap ((i:Int)+(k:Int))=((i+k:Nat):Int):=kU;have w1:i64.wrap ((k:Int)+1)=((k+1:Nat):Int):=kU;generalize oW X d (aC y) i k/BB^(i+k)=c at hcl had hcs;generalize oW X d (aC y) i (k+1)/BB^(i+(k+1))=c' at hcs hin;generalize hO:X/BB^(i+k)%BB=ox at hox ho had hcs;generalize aC y/BB^k%BB=yx at hyx had hcs hyg;have hm:=vK hd hyx;unfold BB at hcl;have a1: ∀z:Nat,z<18446744073709551616→u64.wrap ((z:Nat):Int)=((z:Nat):Int):=λz hz=>by rw[wrap_u64];omega
 have a2:u64.wrap (((d:Nat):Int)*((yx:Nat):Int))=((d*yx:Nat):Int):=by rw[←Int.natCast_mul];exact a1 _ (by omega)
 have a3:u64.wrap (((ox:Nat):Int)+((d*yx:Nat):Int))=((ox+d*yx:Nat):Int):=by rw[←Int.natCast_add];exact a1 _ (by omega)
 have a4:u64.wrap (((c:Nat):Int)+((ox+d*yx:Nat):Int))=((c+(ox+d*yx):Nat):Int):=by rw[←Int.natCast_add];exact a1 _ (by omega)
 have a5:u32.wrap ((c+(ox+d*yx):Nat):Int)=(((c+(ox+d*yx))%4294967296:Nat):Int):=by rw[wrap_u32];omega
 have a6:((c+(ox+d*yx):Nat):Int).fdiv (2^min (Int.toNat 32) u64.bits)=(((c+(ox+d*yx))/4294967296:Nat):Int):=kN _ 4294967296;have e2:=aW (dX X (X+d*aC y*BB^i) n (i+k+1));rw[dL]at e2;unfold vJ;simp only[Int.toNat_natCast,ho,hyg,w0,w1,a1 ox (by omega),a1 d (by omega),a1 yx (by omega),a2,a3,a4,a5,a6,dL,aW];rw[fA _ _ _ (by rw[dL];omega), ←had,hs,e2, ←hcs];refine aj (λ_=> ?_) (λh=>absurd (show(k:Int)<(y.length:Nat)by omega) (of_decide_eq_false h));exact ah (dA) (ah (dA) (ah (dA) (ah (dK hk) (ah rfl (ah (dA) (ah (dA) (ah (by simp) (ah (by simp) (ah (by simp) (ah (aO hy _) (ah (aO (kQ _ _ _ _) _) (ah (aO hx _) (ak hin)))))))))))))
theorem Rc(y x:List Nat)(hy:okD y=true)(hx:okD x=true)(X d n i:Nat)(N I:Int)(hd:d<4294967296)(hn:n≤1000000000)(hi:i+y.length≤n)(Q:qV→Prop)
  (hq:Q ⟨y,dX X (X+d*aC y*BB^i) n (i+y.length),(i:Nat),(d:Nat),(oW X d (aC y) i y.length/BB^(i+y.length):Nat),x,N,I,(y.length:Nat),(y.length:Nat)⟩): ∀(j k:Nat),k+j=y.length→
  aS (λx:qV=>vJ x.y x.o x.i x.d x.c x.x x.N x.I x.n x.k) Q (j+1) ⟨y,dX X (X+d*aC y*BB^i) n (i+k),(i:Nat),(d:Nat),(oW X d (aC y) i k/BB^(i+k):Nat),x,N,I,(y.length:Nat),(k:Nat)⟩
 | 0,k,hk=>by
   obtain rfl:k=y.length:=by omega
   unfold aS
   change Tr.sat _ (vJ y (dX X (X+d*aC y*BB^i) n (i+y.length)) (i:Nat) (d:Nat) (oW X d (aC y) i y.length/BB^(i+y.length):Nat) x N I (y.length:Nat) (y.length:Nat))
   have e:=aW (dX X (X+d*aC y*BB^i) n (i+y.length));unfold vJ;rw[e,aW,aW];exact aj (λh=>absurd (iX h) (Int.lt_irrefl _)) (λ_=>ah (by simp) (ah (by simp) (ah (by simp) (ah (aO hy _) (ah (aO (kQ _ _ _ _) _) (ah (aO hx _) (ak hq)))))))
 | j+1,k,hk=>Rb y x hy hx X d n i k N I hd hn (by omega) hi (Rc y x hy hx X d n i N I hd hn hi Q hq j (k+1) (by omega))
theorem abL: ∀p∈bW (λid=>beq id 2) (codeOf Tryz.f224), ∀g,L8 p.1=some g→ou prog 0 p.1 p.2 g:=by
 have hb:bW (λid=>beq id 2) (codeOf Tryz.f224)=[(2,.loop (aR 2 (codeOf Tryz.f224)))]:=by kernel_rfl
 rw[hb];intro p hp g hg;simp only[List.mem_singleton]at hp;subst hp;have hh:L8 2=some ((Bq uq).g 0):=rfl;rw[hh]at hg;obtain rfl:g=(Bq uq).g 0:=(Option.some.inj hg).symm;refine bC.PO (N:=1005) aI eH (L:=dn) (aA 0 _) (Q7 _) (Q9 uq) ?_;rintro⟨y,o,i,d,c,x,N,I,n,k⟩ hx;have hx:uq.pre ⟨y,o,i,d,c,x,N,I,n,k⟩=true:=hx;simp only[uq,bI,dS]at hx;obtain⟨⟨⟨⟨⟨⟨⟨⟨⟨⟨rfl,rfl⟩,rfl⟩,h4⟩,h5⟩,h6⟩,h7⟩,h8⟩,h9⟩,h10⟩,h11⟩:=hx;obtain⟨i,rfl⟩: ∃j:Nat,i=j:=⟨i.toNat,by omega⟩
 obtain⟨d,rfl⟩: ∃j:Nat,d=j:=⟨d.toNat,by omega⟩
 rw[Int.toNat_natCast]at h9;have:=Rc y x h4 h6 (aC o) d o.length i N I (by omega) h7 h9 (· =uq.res ⟨y,o,(i:Nat),(d:Nat),0,x,N,I,(y.length:Nat),0⟩) (by simp[uq]) y.length 0 (by omega);have e0:dX (aC o) (aC o+d*aC y*BB^i) o.length (i+0)=o:=by
  have e1:aC o+d*aC y*BB^i=aC o%BB^i+BB^i*(aC o/BB^i+d*aC y):=by
   have:=Nat.div_add_mod (aC o) (BB^i);rw[Nat.mul_add,Nat.mul_comm (BB^i) (d*aC y)];omega
  have e2:dX (aC o) (aC o+d*aC y*BB^i) o.length (i+0)=bn (aC o) o.length:=by
   rw[←vI (aC o) 0 o.length];unfold dX;refine List.map_congr_left λj hj=> ?_
   rw[if_neg (Nat.not_lt_zero j)]
   split
   ·rename_i hji
    obtain⟨m,rfl⟩: ∃m,i=j+(m+1):=⟨i-j-1,by omega⟩
    have hpj:0<BB^j:=Nat.pow_pos (by decide);have e3:d*aC y*BB^(j+(m+1))=BB^j*(BB*(d*aC y*BB^m)):=by
     rw[Nat.pow_add,Nat.pow_succ];simp only[Nat.mul_assoc,Nat.mul_comm,Nat.mul_left_comm]
    rw[e3,Nat.add_mul_div_left _ _ hpj,Nat.add_mul_mod_self_left]
   ·rfl
  rw[e2,ig o h5]
 have c0:oW (aC o) d (aC y) i 0/BB^(i+0)=0:=by
  refine Nat.div_eq_of_lt ?_;have:0<BB^i:=Nat.pow_pos (by decide);simp[oW,Nat.mod_one];exact Nat.mod_lt _ this
 rw[e0,c0]at this;exact⟨_,this⟩
theorem agG:bB prog 0 L8 (aR 0 (codeOf Tryz.f224)):=by
 refine eP (d:=λid=>beq id 2) (λid=>by unfold L8;cases beq id 2<;>rfl) _ ?_;have hb:bW (λid=>beq id 2) (aR 0 (codeOf Tryz.f224))=bW (λid=>beq id 2) (codeOf Tryz.f224):=by kernel_rfl
 rw[hb];exact abL
end Go.bA
namespace Go.bA
open Go.Proofs
def zB(y:List Nat)(o:List Nat)(x:List Nat)(N:Int)(I:Int):Tr (Ag ⊕ Ag):=
 let x1:Int:= ↑x.length
 let x2:Int:= ↑y.length
 let x3:List Nat:=aL y.length (aB y)
 let x4:Nat:=x3.length
 let x5:Int:= ↑x4
 let x6:List Nat:=aL o.length (aB o)
 let x7:List Nat:=aL x.length (aB x)
 let x8:Nat:=x6.length
 let x9:Nat:=I.toNat+x4
 let x10:Int:= ↑(x.getD I.toNat 0)
 let iW:Int:=i64.wrap (I+x5)
 let kL:Nat:=x10.toNat
 let jA:List Nat:=dX (aC x6) (aC x6+kL*aC x3*BB^I.toNat) x8 x9
 let kM:Nat:=jA.length
 let mO:Int:= ↑kM
 let nu:Nat:=iW.toNat
 let jR:Nat:=x7.length
 .ite (decide (I<N)) (.need (decide (0≤I∧I<x1)) (.need (decide (I.toNat<x.length)) (.need (decide (y.length=y.length)) (.need (decide (o.length=o.length)) (.need (decide (x.length=x.length)) (.need (aJ y.length (aB y)) (.need (aJ o.length (aB o)) (.need (aJ x.length (aB x)) (.need (decide (x2=x5)&&decide ((0:Int)=0)&&decide ((0:Int)=0)&&okD x3&&okD x6&&okD x7&&decide (x8≤1000000000)&&decide (0≤I)&&decide (x9≤x8)&&decide (0≤x10)&&decide (x10<4294967296)) (.need (decide (0≤iW∧iW<mO)) (.need (decide (nu<kM)) (.need (decide (x4=x4)) (.need (decide (kM=kM)) (.need (decide (jR=jR)) (.need (aJ x4 (aB x3)) (.need (aJ kM (aT (aB jA) nu 0 [IV.v (.int u32 (u32.wrap ↑(oW (aC x6) kL (aC x3) I.toNat x4/BB^x9)))].reverse)) (.need (aJ jR (aB x7)) (.ret (Sum.inl {y:=aL x4 (aB x3),o:=aL kM (aT (aB jA) nu 0 [IV.v (.int u32 (u32.wrap ↑(oW (aC x6) kL (aC x3) I.toNat x4/BB^x9)))].reverse),x:=aL jR (aB x7),N:=N,I:=i64.wrap (I+1)}))))))))))))))))))) (.need (decide (y.length=y.length)) (.need (decide (o.length=o.length)) (.need (decide (x.length=x.length)) (.need (aJ y.length (aB y)) (.need (aJ o.length (aB o)) (.need (aJ x.length (aB x)) (.ret (Sum.inr {y:=x3,o:=x6,x:=x7,N:=N,I:=I}))))))))
theorem U9(w:Way Ag)(x:Ag):(exec prog (λ_=>none) L8 1005 (aR 0 (codeOf Tryz.f224)) (eY (Q8 w).nIn ((Q8 w).head x))).bind ((Q8 w).fin 0 0)=zB x.y x.o x.x x.N x.I:=by
 obtain⟨y,o,x,N,I⟩:=x
 kernel_rfl
def Jr:Way Ag:=⟨λx=>⟨x.y,bn (aC x.x*aC x.y) x.o.length,x.x,x.N,x.N⟩,
 λx=>decide (x.N=(x.x.length:Nat))&&decide (x.I=0)&&okD x.y&&okD x.x&&decide (x.o=bn 0 x.o.length)&&decide (x.x.length+x.y.length+1=x.o.length)&&decide (x.o.length≤1000000000)⟩
def al9:Nat→Option (St→Tr (Ex×St)):=λid=>bif beq id 0 then some ((Q8 Jr).g 0)else none
def agH:List AV→Option (AV×List Bool)
 | [.c (.v (.int .u64 a)),.c (.v (.int .u64 b))]=>some (.fG [bR .u64 ((a.toNat*b.toNat/18446744073709551616:Nat):Int),bR .u64 ((a.toNat*b.toNat%18446744073709551616:Nat):Int)],[iK a,iK b])
 | _=>none
def agI:List AV→Option (AV×List Bool)
 | [.c (.v (.string a)),.c (.v (.string b))]=>some (nQ (aD (aM a.data.toList*aM b.data.toList)),[decide (a.data.toList.length≤100000000),decide (b.data.toList.length≤100000000)])
 | _=>none
theorem agJ(X S n j:Nat)(hX:X<BB^j)(hS:S<BB^j):dX X S n j=bn S n:=by
 rw[←yF X S n];unfold dX;refine List.map_congr_left λk hk=> ?_
 rw[if_pos (List.mem_range.1 hk)]
 split
 ·rfl
 ·rename_i h
  have:BB^j≤BB^k:=Nat.pow_le_pow_right (by decide) (by omega);rw[Nat.div_eq_of_lt (show X<BB^k by omega),Nat.div_eq_of_lt (show S<BB^k by omega)]
theorem Br(X Y i m:Nat)(hY:Y<BB^m):X%BB^i*Y<BB^(i+m):=by
 rw[Nat.pow_add];have h1:X%BB^i<BB^i:=Nat.mod_lt _ (Nat.pow_pos (by decide));have hp:0<BB^i:=Nat.pow_pos (by decide)
 calc X%BB^i*Y≤BB^i*Y:=Nat.mul_le_mul_right _ (by omega)
  _<BB^i*BB^m:=by exact Nat.mul_lt_mul_of_pos_left hY hp
theorem abM(X Y i:Nat):X%BB^(i+1)*Y=X%BB^i*Y+X/BB^i%BB*Y*BB^i:=by
 rw[Nat.mod_pow_succ,Nat.add_mul]
 congr 1
 simp only[Nat.mul_assoc,Nat.mul_comm,Nat.mul_left_comm]
theorem Va(y x:List Nat)(hy:okD y=true)(hx:okD x=true)(n i:Nat)(hn:n≤1000000000)(hl:x.length+y.length+1=n)(hi:i<x.length){R:Ag ⊕ Ag→Prop}
  (hin:R (.inl ⟨y,bn (aC x%BB^(i+1)*aC y) n,x,(x.length:Nat),((i+1:Nat):Int)⟩)):
  (zB y (bn (aC x%BB^i*aC y) n) x (x.length:Nat) (i:Nat)).sat R:=by
 have hYl:=wS y hy;have hxg:x.getD i 0=aC x/BB^i%BB:=by
  have:=ig x hx;rw[←this,lI _ _ _ hi,this]
 have hdl:=U8 (aC x) i;have hnx:=abM (aC x) (aC y) i;have ho:=Br (aC x) (aC y) i y.length hYl;have hS:=Br (aC x) (aC y) (i+1) y.length hYl;rw[show i+1+y.length=i+y.length+1 by omega]at hS;generalize aC x/BB^i%BB=d at hxg hdl hnx;generalize aC x%BB^i*aC y=o at ho hnx⊢;have hc:=NY o d (aC y) i y.length hdl;rw[Ra o d (aC y) i y.length hYl ho, ←hnx]at hc;have hov:aC (bn o n)=o:=d9 _ _ (Nat.lt_of_lt_of_le ho (Nat.pow_le_pow_right (by decide) (by omega)));have w0:i64.wrap ((i:Int)+((y.length:Nat):Int))=((i+y.length:Nat):Int):=kU;have w1:i64.wrap ((i:Int)+1)=((i+1:Nat):Int):=kU;have eo:=aW (bn o n);unfold zB;rw[eo,aW,aW];simp only[bN,aW,Int.toNat_natCast,hxg,hov,w0,w1,dL,Ra o d (aC y) i y.length hYl ho, ←hnx];generalize aC x%BB^(i+1)*aC y=S at*;have hsd:S/BB^(i+y.length)%BB=S/BB^(i+y.length):=Nat.mod_eq_of_lt hc;have e1:u32.wrap ((S/BB^(i+y.length):Nat):Int)=((S/BB^(i+y.length)%BB:Nat):Int):=by
  rw[hsd,wrap_u32];generalize S/BB^(i+y.length)=q at hc⊢;unfold BB at hc;omega
 rw[e1,fA _ _ _ (by rw[dL];omega),oH _ _ _ _ (by omega),agJ o S n (i+y.length+1) (Nat.lt_of_lt_of_le ho (Nat.pow_le_pow_right (by decide) (by omega))) hS];have e2:=aW (bn S n);rw[bN]at e2;rw[e2];refine aj (λ_=> ?_) (λh=>absurd (show(i:Int)<(x.length:Nat)by omega) (of_decide_eq_false h));refine ah (dA) (ah (dK hi) (ah (by simp) (ah (by simp) (ah (by simp) (ah (aO hy _) (ah (aO (bZ _ _) _) (ah (aO hx _) (ah ?_ (ah (dA) (ah (dA) (ah (by simp) (ah (by simp) (ah (by simp) (ah (aO hy _) (ah (aO (bZ _ _) _) (ah (aO hx _) (ak hin)))))))))))))))));simp only[bI,dS,bZ,hy,hx,and_true,true_and];clear hc hin e1 e2 hsd hS hnx;omega
theorem Xw(y x:List Nat)(hy:okD y=true)(hx:okD x=true)(n:Nat)(hn:n≤1000000000)(hl:x.length+y.length+1=n)(Q:Ag→Prop)(hq:Q ⟨y,bn (aC x*aC y) n,x,(x.length:Nat),(x.length:Nat)⟩): ∀(j i:Nat),i+j=x.length→
  aS (λx:Ag=>zB x.y x.o x.x x.N x.I) Q (j+1) ⟨y,bn (aC x%BB^i*aC y) n,x,(x.length:Nat),(i:Nat)⟩
 | 0,i,hi=>by
   obtain rfl:i=x.length:=by omega
   rw[Nat.mod_eq_of_lt (wS x hx)];unfold aS
   change Tr.sat _ (zB y (bn (aC x*aC y) n) x (x.length:Nat) (x.length:Nat))
   have e:=aW (bn (aC x*aC y) n);unfold zB;rw[e,aW,aW];exact aj (λh=>absurd (iX h) (Int.lt_irrefl _)) (λ_=>ah (by simp) (ah (by simp) (ah (by simp) (ah (aO hy _) (ah (aO (bZ _ _) _) (ah (aO hx _) (ak hq)))))))
 | j+1,i,hi=>Va y x hy hx n i hn hl (by omega) (Xw y x hy hx n hn hl Q hq j (i+1) (by omega))
theorem Vb:bB prog 0 al9 (codeOf Tryz.f224):=by
 refine gu (N:=1005) (L':=L8) eH agG (U7 _) (U9 Jr) ?_;rintro⟨y,o,x,N,I⟩ hx;have hx:Jr.pre ⟨y,o,x,N,I⟩=true:=hx;simp only[Jr,bI,dS]at hx;obtain⟨⟨⟨⟨⟨⟨rfl,rfl⟩,h4⟩,h5⟩,h6⟩,h7⟩,h8⟩:=hx;have:=Xw y x h4 h5 o.length h8 h7 (· =Jr.res ⟨y,o,x,(x.length:Nat),0⟩) rfl x.length 0 (by omega);rw[Nat.pow_zero,Nat.mod_one,Nat.zero_mul, ←h6]at this;exact⟨_,this⟩
def ama:FuncId→Option Spec:=λf=>bif beq f 256 then some (au QJ)else bif beq f 258 then some (au agH)else bif beq f 126 then some (au NQ)else
 bif beq f 259 then some (eB UD)else bif beq f 260 then some (au UU)else none
end Go.bA
namespace Go.bA
open Go.Proofs
def amb(a:Int)(b:Int):Tr AV:=
 let x1:Int:=2^min (Int.toNat 32) u64.bits
 let x2:Int:=a.fdiv x1
 let x3:Int:=b.fdiv x1
 let x4:Int:=u64.wrap ↑(BitVec.ofInt u64.bits b&&&BitVec.ofInt u64.bits 4294967295).toNat
 let x5:Int:=u64.wrap ↑(BitVec.ofInt u64.bits a&&&BitVec.ofInt u64.bits 4294967295).toNat
 let x6:Int:=u64.wrap (u64.wrap (x2*x4)+(u64.wrap (x5*x4)).fdiv x1)
 .need true (.need true (.need true (.need true (.need true (.ret (AV.fG [.c (.v (.int u64 (u64.wrap (u64.wrap (u64.wrap (x2*x3)+x6.fdiv x1)+(u64.wrap (u64.wrap ↑(BitVec.ofInt u64.bits x6&&&BitVec.ofInt u64.bits 4294967295).toNat+u64.wrap (x5*x3))).fdiv x1)))),.c (.v (.int u64 (u64.wrap (a*b))))]))))))
def amc(a:ByteArray)(b:ByteArray):Tr AV:=
 let x1:Nat:=(gI a).toNat*(gI b).toNat
 let x2:Int:= ↑(x1%18446744073709551616)
 let x3:List UInt8:=a.data.toList
 let x4:List UInt8:=b.data.toList
 let x5:Int:= ↑(bE x3.length)
 let x6:Int:=i64.wrap (i64.wrap (x5+ ↑(bE x4.length))+1)
 let x7:Int:=((4:Nat):Int)*x6
 let x8:Nat:=x6.toNat
 let x9:List Nat:=aL (bE x3.length) (aB (bn (aM x3) (bE x3.length)))
 let x10:Nat:=x9.length
 let iW:Int:= ↑x10
 let kL:List Nat:=aL (bE x4.length) (aB (bn (aM x4) (bE x4.length)))
 let jA:List Nat:=aL x8 λx=>List.map IV.v [Value.int u32 0]
 let kM:Nat:=jA.length
 let mO:List Nat:=bn 0 kM
 let nu:Nat:=x10+kL.length+1
 let jR:List Nat:=bn (aC x9*aC kL) kM
 let x18:Nat:=jR.length
 .ite (fH a&&fH b) (.need (iK (gI a)) (.need (iK (gI b)) (.ite (((x1/18446744073709551616:Nat):Int)==0) (.need (iK x2) (.ret (.c (.v (.string ⟨⟨aD x2.toNat⟩⟩))))) (.need (decide (x3.length≤1000000000)) (.need (decide (x4.length≤1000000000)) (.need (decide (x6=x6)) (.need (decide (0≤x6)) (.need (decide (x6≤9223372036854775807)) (.need (decide (x7≤140737488355328)) (.need (decide (bE x4.length=bE x4.length)) (.need (decide (x8=x8)) (.need (decide (bE x3.length=bE x3.length)) (.need (aJ (bE x4.length) (aB (bn (aM x4) (bE x4.length)))) (.need (aJ x8 λx=>List.map IV.v [Value.int u32 0]) (.need (aJ (bE x3.length) (aB (bn (aM x3) (bE x3.length)))) (.need (decide (x5=iW)&&decide ((0:Int)=0)&&okD kL&&okD x9&&decide (jA=mO)&&decide (nu=kM)&&decide (kM≤1000000000)) (.need (decide (x18≤x18)) (.need (aJ x18 (aB jR)) (.need (decide (x18≤1000000000)) (.ret (.c (.v (.string ⟨⟨aD (aC (aL x18 (aB jR)))⟩⟩))))))))))))))))))))))) (.need (decide (x3.length≤1000000000)) (.need (decide (x4.length≤1000000000)) (.need (decide (x6=x6)) (.need (decide (0≤x6)) (.need (decide (x6≤9223372036854775807)) (.need (decide (x7≤140737488355328)) (.need (decide (bE x4.length=bE x4.length)) (.need (decide (x8=x8)) (.need (decide (bE x3.length=bE x3.length)) (.need (aJ (bE x4.length) (aB (bn (aM x4) (bE x4.length)))) (.need (aJ x8 λx=>List.map IV.v [Value.int u32 0]) (.need (aJ (bE x3.length) (aB (bn (aM x3) (bE x3.length)))) (.need (decide (x5=iW)&&decide ((0:Int)=0)&&okD kL&&okD x9&&decide (jA=mO)&&decide (nu=kM)&&decide (kM≤1000000000)) (.need (decide (x18≤x18)) (.need (aJ x18 (aB jR)) (.need (decide (x18≤1000000000)) (.ret (.c (.v (.string ⟨⟨aD (aC (aL x18 (aB jR)))⟩⟩))))))))))))))))))))
theorem agK(a b:Int):aN prog (λ_=>none) dn 1005 Tryz.f258 [.c (.v (.int .u64 a)),.c (.v (.int .u64 b))]=amb a b:=by kernel_rfl
theorem agL(a b:ByteArray):aN prog ama al9 1005 Tryz.f224 [.c (.v (.string a)),.c (.v (.string b))]=amc a b:=by kernel_rfl
theorem NZ(z:Nat)(hz:z<18446744073709551616):u64.wrap ((BitVec.ofInt u64.bits ((z:Nat):Int)&&&BitVec.ofInt u64.bits 4294967295).toNat:Nat)=((z%4294967296:Nat):Int):=by
 change u64.wrap ((BitVec.ofInt 64 ((z:Nat):Int)&&&BitVec.ofInt 64 4294967295).toNat:Nat)=_
 have e1:(BitVec.ofInt 64 ((z:Nat):Int)).toNat=z:=by rw[BitVec.toNat_ofInt];omega
 have e2:(BitVec.ofInt 64 4294967295).toNat=2^32-1:=by decide
 rw[BitVec.toNat_and,e1,e2,Nat.and_two_pow_sub_one_eq_mod,wrap_u64];omega
theorem abN(a b:Nat)(ha:a<18446744073709551616)(hb:b<18446744073709551616):(amb (a:Nat) (b:Nat)).sat λr=>r= .fG [bR .u64 ((a*b/18446744073709551616:Nat):Int),bR .u64 ((a*b%18446744073709551616:Nat):Int)]:=by
 have f: ∀z:Nat,((z:Nat):Int).fdiv (2^min (Int.toNat 32) u64.bits)=((z/4294967296:Nat):Int):=λz=>kN z 4294967296
 have w: ∀z:Nat,z<18446744073709551616→u64.wrap ((z:Nat):Int)=((z:Nat):Int):=λz hz=>by rw[wrap_u64];omega
 have h00:=vK (Nat.mod_lt a (show 0<4294967296 by decide)) (Nat.mod_lt b (show 0<4294967296 by decide));have h10:=vK (show a/4294967296<4294967296 by omega) (Nat.mod_lt b (show 0<4294967296 by decide));have h01:=vK (Nat.mod_lt a (show 0<4294967296 by decide)) (show b/4294967296<4294967296 by omega);have h11:=vK (show a/4294967296<4294967296 by omega) (show b/4294967296<4294967296 by omega);have hab:a*b=a%4294967296*(b%4294967296)+4294967296*(a/4294967296*(b%4294967296))+4294967296*(a%4294967296*(b/4294967296))+18446744073709551616*(a/4294967296*(b/4294967296)):=by
  have h1:=Nat.div_add_mod a 4294967296;have h2:=Nat.div_add_mod b 4294967296;generalize a/4294967296=x at*;generalize a%4294967296=y at*;generalize b/4294967296=u at*;generalize b%4294967296=v at*;subst h1 h2;simp only[Nat.mul_add,Nat.add_mul];have e1:4294967296*x*(4294967296*u)=18446744073709551616*(x*u):=by rw[Nat.mul_mul_mul_comm]
  have e2:4294967296*x*v=4294967296*(x*v):=Nat.mul_assoc _ _ _;have e3:y*(4294967296*u)=4294967296*(y*u):=Nat.mul_left_comm _ _ _;omega
 have hw:u64.wrap (((a:Nat):Int)*((b:Nat):Int))=((a*b%18446744073709551616:Nat):Int):=by rw[←Int.natCast_mul,wrap_u64];omega
 have q00:u64.wrap (((a%4294967296:Nat):Int)*((b%4294967296:Nat):Int))=((a%4294967296*(b%4294967296):Nat):Int):=by rw[←Int.natCast_mul];exact w _ (by omega)
 have q10:u64.wrap (((a/4294967296:Nat):Int)*((b%4294967296:Nat):Int))=((a/4294967296*(b%4294967296):Nat):Int):=by rw[←Int.natCast_mul];exact w _ (by omega)
 have q01:u64.wrap (((a%4294967296:Nat):Int)*((b/4294967296:Nat):Int))=((a%4294967296*(b/4294967296):Nat):Int):=by rw[←Int.natCast_mul];exact w _ (by omega)
 have q11:u64.wrap (((a/4294967296:Nat):Int)*((b/4294967296:Nat):Int))=((a/4294967296*(b/4294967296):Nat):Int):=by rw[←Int.natCast_mul];exact w _ (by omega)
 unfold amb;simp only[f,NZ a ha,NZ b hb,hw,q00,q10,q01,q11];generalize a%4294967296*(b%4294967296)=p00 at*;generalize a/4294967296*(b%4294967296)=p10 at*;generalize a%4294967296*(b/4294967296)=p01 at*;generalize a/4294967296*(b/4294967296)=p11 at*;have t1:u64.wrap (((p10:Nat):Int)+((p00/4294967296:Nat):Int))=((p10+p00/4294967296:Nat):Int):=by rw[←Int.natCast_add];exact w _ (by omega)
 simp only[t1,f,NZ (p10+p00/4294967296) (by omega)];have t2:u64.wrap ((((p10+p00/4294967296)%4294967296:Nat):Int)+((p01:Nat):Int))=(((p10+p00/4294967296)%4294967296+p01:Nat):Int):=by rw[←Int.natCast_add];exact w _ (by omega)
 simp only[t2,f];have t3:u64.wrap (u64.wrap (((p11:Nat):Int)+(((p10+p00/4294967296)/4294967296:Nat):Int))+((((p10+p00/4294967296)%4294967296+p01)/4294967296:Nat):Int))=((a*b/18446744073709551616:Nat):Int):=by
  rw[←Int.natCast_add,w _ (by omega), ←Int.natCast_add,w _ (by omega),hab];omega
 rw[t3];exact ah rfl (ah rfl (ah rfl (ah rfl (ah rfl (ak rfl)))))
theorem agM:aF prog 258 agH:=by
 refine poL (N:=1005) eH (aA _ _) (fn:=Tryz.f258) ?_ ?_
 ·intro args v cs h
  unfold agH at h
  split at h
  ·cases h;rfl
  ·cases h
 ·intro args v cs h hc
  unfold agH at h
  split at h
  ·rename_i a b
   cases h;have h1:iK a=true:=hc (iK a) (by simp);have h2:iK b=true:=hc (iK b) (by simp);simp only[iK,bI,dS]at h1 h2;obtain⟨a,rfl⟩: ∃j:Nat,a=j:=⟨a.toNat,by omega⟩
   obtain⟨b,rfl⟩: ∃j:Nat,b=j:=⟨b.toNat,by omega⟩
   have hs:=abN a b (by omega) (by omega);rw[←agK]at hs;generalize aN prog (λ_=>none) dn 1005 Tryz.f258 [.c (.v (.int .u64 ((a:Nat):Int))),.c (.v (.int .u64 ((b:Nat):Int)))]=T at hs⊢;exact Tr.aZ (λr hr=>⟨by subst hr;rfl,bL.of_eq hr⟩) hs
  ·cases h
theorem agN: ∀f s,ama f=some s→aH prog f s:=step_ok CJ.spec (step_ok agM.spec (step_ok zi.spec (step_ok GU.spec (bM G7.spec))))
theorem abO(n:Nat):(aL n λx=>List.map IV.v [Value.int u32 0])=bn 0 n:=by
 have h: ∀n,bn 0 n=List.replicate n 0:=λn=>by
  induction n with
  | zero=>rfl
  | succ n ih=>simp[bn,ih,List.replicate_succ]
 rw[h];unfold aL;exact List.map_const' .. |>.trans (by rw[List.length_range];rfl)
theorem abP(n:Nat):(aJ n λx=>List.map IV.v [Value.int u32 0])=true:=List.all_eq_true.2 λ_ _=>rfl
theorem Rf(a:ByteArray)(h:fH a=true):iK (gI a)=true:=by
 have:=rP a h;rw[oI a h];simp[iK];omega
theorem abQ(a b:ByteArray)(ha:a.data.toList.length≤100000000)(hb:b.data.toList.length≤100000000):(amc a b).sat λr=>r=nQ (aD (aM a.data.toList*aM b.data.toList)):=by
 have la:=qm a;have lb:=qm b;have na:bE a.data.toList.length≤25000001:=by unfold bE;omega
 have nb:bE b.data.toList.length≤25000001:=by unfold bE;omega
 have ea:aL (bE a.data.toList.length) (aB (bn (aM a.data.toList) (bE a.data.toList.length)))=bn (aM a.data.toList) (bE a.data.toList.length):=by
  have:=aW (bn (aM a.data.toList) (bE a.data.toList.length));rw[bN]at this;exact this
 have eb:aL (bE b.data.toList.length) (aB (bn (aM b.data.toList) (bE b.data.toList.length)))=bn (aM b.data.toList) (bE b.data.toList.length):=by
  have:=aW (bn (aM b.data.toList) (bE b.data.toList.length));rw[bN]at this;exact this
 have w1:i64.wrap (i64.wrap (((bE a.data.toList.length:Nat):Int)+((bE b.data.toList.length:Nat):Int))+1)=((bE a.data.toList.length+bE b.data.toList.length+1:Nat):Int):=by
  have:i64.wrap (((bE a.data.toList.length:Nat):Int)+((bE b.data.toList.length:Nat):Int))=((bE a.data.toList.length+bE b.data.toList.length:Nat):Int):=kU;rw[this,wrap_i64 (by omega)];omega
 have hS:aM a.data.toList*aM b.data.toList<BB^(bE a.data.toList.length+bE b.data.toList.length+1):=by
  have h1:=Br (aM a.data.toList) (aM b.data.toList) (bE a.data.toList.length) (bE b.data.toList.length) lb;rw[Nat.mod_eq_of_lt la]at h1;exact Nat.lt_of_lt_of_le h1 (Nat.pow_le_pow_right (by decide) (by omega))
 have ep:=aW (bn (aM a.data.toList*aM b.data.toList) (bE a.data.toList.length+bE b.data.toList.length+1));rw[bN]at ep;unfold amc;simp only[w1,ea,eb,abO,abP,Int.toNat_natCast,bN,d9 _ _ la,d9 _ _ lb,ep,d9 _ _ hS];have tail: ∀{T:Tr AV},Tr.sat (λr=>r=nQ (aD (aM a.data.toList*aM b.data.toList))) T→Tr.sat (λr=>r=nQ (aD (aM a.data.toList*aM b.data.toList))) T:=id;refine aj (λhw=>ah (Rf a (Bool.and_eq_true_iff.1 hw).1) (ah (Rf b (Bool.and_eq_true_iff.1 hw).2) (aj (λh0=> ?_) (λh0=> ?g1)))) (λhw=> ?g2)
 ·rw[bI]at hw
  rw[oI a hw.1,oI b hw.2]at h0⊢;simp only[Int.toNat_natCast]at h0⊢;have h0:=eq_of_beq h0;have hlt:aM a.data.toList*aM b.data.toList<18446744073709551616:=by omega
  rw[Nat.mod_eq_of_lt hlt];exact ah (by simp[iK];omega) (ak rfl)
 all_goals
  refine ah (dA) (ah (dA) (ah (by simp) (ah (dA) (ah (dA) (ah (dA) (ah (by simp) (ah (by simp) (ah (by simp) (ah (aO (bZ _ _) _) (ah rfl (ah (aO (bZ _ _) _) (ah ?_ (ah (by simp) (ah (aO (bZ _ _) _) (ah (dA) (ak rfl))))))))))))))));simp only[bZ,Bool.and_true,bI,dS,true_and,and_true,decide_true];omega
theorem agO:aF prog 224 agI:=by
 refine poL (N:=1005) agN Vb (fn:=Tryz.f224) ?_ ?_
 ·intro args v cs h
  unfold agI at h
  split at h
  ·cases h;rfl
  ·cases h
 ·intro args v cs h hc
  unfold agI at h
  split at h
  ·rename_i a b
   cases h;have h1:a.data.toList.length≤100000000:=dec (hc (decide (a.data.toList.length≤100000000)) (by simp));have h2:b.data.toList.length≤100000000:=dec (hc (decide (b.data.toList.length≤100000000)) (by simp));have hs:=abQ a b h1 h2;rw[←agL]at hs;generalize aN prog ama al9 1005 Tryz.f224 [.c (.v (.string a)),.c (.v (.string b))]=T at hs⊢;generalize aD (aM a.data.toList*aM b.data.toList)=z at hs⊢;exact Tr.aZ (λr hr=>⟨by subst hr;rfl,bL.of_eq hr⟩) hs
  ·cases h
end Go.bA
namespace Go.bA
open Go.RowKit
def Rh(P:Program)(Γ:FuncId→Option Spec)(N:Nat)(fn:Func):iD:=λents args=>(jw P Γ dn N false fn ents args).run
def abR(P:Program)(Γ:FuncId→Option Spec)(N:Nat)(ms:Bool)(fn:Func):Spec:=bif ms then eB (Rh P Γ N fn)else aa4 P Γ N fn
def iR(P:Program)(base:FuncId→Option Spec)(ms:FuncId→Bool)(N:Nat):Nat→FuncId→Option Spec
 | 0=>base
 | d+1=>λf=>
   match base f with
   | some s=>some s
   | none=>
     match P.funcs[f]? with
     | some fn=>
       match fn.body with
       | some _=>bif dz fn then some (abR P (iR P base ms N d) N (ms f) fn)else none
       | none=>none
     | none=>none
section
variable{P:Program}{Γ:FuncId→Option Spec}{N:Nat}
theorem Ri(hm:P.follows .mixedOrders=true)(hΓ: ∀f s,Γ f=some s→aH P f s){f:FuncId}{fn:Func}{c:Code}(hf:P.funcs[f]? =some fn)(hb:fn.body=some c)(hn:dz fn=true):fF P f (Rh P Γ N fn):=by
 refine uN (L:=λ_=>dn) hm hΓ hf hb (cO hf hb hn) (N:=N) (xS:=false) (λents args o _=>aA ents.length c) λents args o h _=> ?_
 refine Tr.aZ ?_ (Tr.wO h);rintro r rfl;exact⟨bL.refl _,bX.refl _⟩
theorem Zd(hm:P.follows .mixedOrders=true)(hΓ: ∀f s,Γ f=some s→aH P f s){f:FuncId}{fn:Func}{c:Code}(hf:P.funcs[f]? =some fn)(hb:fn.body=some c)(hn:dz fn=true)(ms:Bool):aH P f (abR P Γ N ms fn):=by
 cases ms with
 | true=>exact(Ri hm hΓ hf hb hn).spec
 | false=>exact QA hm hΓ hf hb hn
theorem jW(hm:P.follows .mixedOrders=true){base:FuncId→Option Spec}{ms:FuncId→Bool}(hΓ: ∀f s,base f=some s→aH P f s): ∀(d:Nat) (f:FuncId) (s:Spec),iR P base ms N d f=some s→aH P f s
 | 0,f,s,h=>hΓ f s h
 | d+1,f,s,h=>by
   unfold iR at h
   split at h
   ·rename_i s' hs'
    cases h;exact hΓ f _ hs'
   ·split at h
    ·rename_i fn hf
     split at h
     ·rename_i c hb
      cases hn:dz fn with
      | false=>rw[hn]at h;cases h
      | true=>
        rw[hn]at h;simp only[cond_true,fu]at h;subst h;exact Zd hm (jW hm hΓ d) hf hb hn _
     ·cases h
    ·cases h
end
end Go.bA
namespace Go.bA
open Go.RowKit
def Tr.vL{α:Type}:Tr α→Option (α×List Bool)
 | .ret a=>some (a,[])
 | .ite c t e=>bif c then t.vL else e.vL
 | .need p t=>
   match t.vL with
   | some (a,cs)=>some (a,p::cs)
   | none=>none
 | .both _ _=>none
 | .fail _=>none
theorem Tr.vM{α:Type}: ∀{t:Tr α} {a:α} {cs:List Bool},t.vL=some (a,cs)→(∀p∈cs,p=true)→t.sat (· =a)
 | .ret a,b,cs,h,_=>by
   simp only[Tr.vL,fu,Prod.mk.injEq]at h;exact h.1
 | .ite c t e,b,cs,h,hc=>by
   cases c with
   | true=>exact⟨λ_=>Tr.vM (by simpa[Tr.vL]using h) hc,λh=>by cases h⟩
   | false=>exact⟨λh=>(by cases h),λ_=>Tr.vM (by simpa[Tr.vL]using h) hc⟩
 | .need p t,b,cs,h,hc=>by
   simp only[Tr.vL]at h
   split at h
   ·rename_i a cs' ht
    simp only[fu,Prod.mk.injEq]at h;obtain⟨rfl,rfl⟩:=h;exact⟨hc p (by simp),λ_=>Tr.vM ht λq hq=>hc q (by simp[hq])⟩
   ·cases h
 | .both _ _,b,cs,h,_=>by simp[Tr.vL]at h
 | .fail _,b,cs,h,_=>by simp[Tr.vL]at h
def Hf(P:Program)(Γ:FuncId→Option Spec)(N:Nat)(fn:Func)(args:List AV):Option (AV×List Bool):=
 match (aN P Γ dn N fn args).vL with
 | some (v,cs)=>bif dY v then some (v,cs)else none
 | none=>none
def N7(P:Program)(Γ:FuncId→Option Spec)(N:Nat)(xS:Bool)(fn:Func):iD:=λents args=>
 match (jw P Γ dn N xS fn ents args).vL with
 | some (o,cs)=>some {val:=o.val,outs:=o.outs,new:=o.new,conds:=cs}
 | none=>none
def ap1(P:Program)(Γ:FuncId→Option Spec)(N:Nat)(ms:Bool)(fn:Func):Spec:=
 bif ms then eB (N7 P Γ N false fn)else λslot m args=>
  bif FV args then au (Hf P Γ N fn) slot m args else eB (N7 P Γ N true fn) slot m args
def Js(P:Program)(base:FuncId→Option Spec)(ms:FuncId→Bool)(N:Nat):Nat→FuncId→Option Spec
 | 0=>base
 | d+1=>λf=>
   match base f with
   | some s=>some s
   | none=>
     match P.funcs[f]? with
     | some fn=>
       match fn.body with
       | some _=>bif dz fn then some (ap1 P (Js P base ms N d) N (ms f) fn)else none
       | none=>none
     | none=>none
section
variable{P:Program}{Γ:FuncId→Option Spec}{N:Nat}
theorem Vd(hm:P.follows .mixedOrders=true)(hΓ: ∀f s,Γ f=some s→aH P f s){f:FuncId}{fn:Func}{c:Code}(hf:P.funcs[f]? =some fn)(hb:fn.body=some c)(hn:dz fn=true):aF P f (Hf P Γ N fn):=by
 have hk: ∀args v cs,Hf P Γ N fn args=some (v,cs)→bA.dY v=true∧(aN P Γ dn N fn args).vL=some (v,cs):=by
  intro args v cs h;unfold Hf at h
  split at h
  ·rename_i u ds hu
   cases hp:bA.dY u with
   | false=>rw[hp]at h;cases h
   | true=>
     rw[hp]at h;simp only[cond_true,fu,Prod.mk.injEq]at h;obtain⟨rfl,rfl⟩:=h;exact⟨hp,hu⟩
  ·cases h
 refine lH hm hΓ hf hb (cO hf hb hn) (L:=dn) (N:=N) (aA 0 c) (λargs v cs h=>(hk args v cs h).1) λargs v cs h hc=> ?_
 refine Tr.aZ ?_ (Tr.vM (hk args v cs h).2 hc);rintro r rfl;exact⟨(hk args r cs h).1,bL.refl r⟩
theorem Mc(hm:P.follows .mixedOrders=true)(hΓ: ∀f s,Γ f=some s→aH P f s){f:FuncId}{fn:Func}{c:Code}(hf:P.funcs[f]? =some fn)(hb:fn.body=some c)(hn:dz fn=true)(xS:Bool):fF P f (N7 P Γ N xS fn):=by
 refine uN (L:=λ_=>dn) hm hΓ hf hb (cO hf hb hn) (N:=N) (xS:=xS) (λents args o _=>aA ents.length c) λents args o h hc=> ?_
 unfold N7 at h
 split at h
 ·rename_i o' cs ho
  simp only[fu]at h;subst h;refine Tr.aZ ?_ (Tr.vM ho hc);rintro r rfl;exact⟨bL.refl _,bX.refl _⟩
 ·cases h
theorem agP(hm:P.follows .mixedOrders=true)(hΓ: ∀f s,Γ f=some s→aH P f s){f:FuncId}{fn:Func}{c:Code}(hf:P.funcs[f]? =some fn)(hb:fn.body=some c)(hn:dz fn=true)(ms:Bool):aH P f (ap1 P Γ N ms fn):=by
 cases ms with
 | true=>exact(Mc hm hΓ hf hb hn false).spec
 | false=>exact aH.pick FV (Vd hm hΓ hf hb hn).spec (Mc hm hΓ hf hb hn true).spec
theorem zD(hm:P.follows .mixedOrders=true){base:FuncId→Option Spec}{ms:FuncId→Bool}(hΓ: ∀f s,base f=some s→aH P f s): ∀(d:Nat) (f:FuncId) (s:Spec),Js P base ms N d f=some s→aH P f s
 | 0,f,s,h=>hΓ f s h
 | d+1,f,s,h=>by
   unfold Js at h
   split at h
   ·rename_i s' hs'
    cases h;exact hΓ f _ hs'
   ·split at h
    ·rename_i fn hf
     split at h
     ·rename_i c hb
      cases hn:dz fn with
      | false=>rw[hn]at h;cases h
      | true=>
        rw[hn]at h;simp only[cond_true,fu]at h;subst h;exact agP hm (zD hm hΓ d) hf hb hn _
     ·cases h
    ·cases h
end
end Go.bA
namespace Go.bA
open Go.RowKit
structure Arg (X:Type) where
 get:AV→Option (X×List Bool)
 put:X→AV
 ok: ∀a x cs,get a=some (x,cs)→(∀p∈cs,p=true)→bL a (put x)
structure Form (X:Type) where
 parse:List AV→Option (X×List Bool)
 args:X→List AV
 ok: ∀l x cs,parse l=some (x,cs)→(∀p∈cs,p=true)→dW l (args x)
def Form.nil:Form Unit where
 parse:=λl=>match l with | []=>some ((),[]) | _=>none
 args:=λ_=> []
 ok:=by
  intro l x cs h hc;cases l with
  | nil=>exact .nil
  | cons a l=>cases h
def Form.cons{X Y:Type}(A:Arg X)(F:Form Y):Form (X×Y) where
 parse:=λl=>
  match l with
  | a::l=>
    match A.get a,F.parse l with
    | some (x,cs),some (y,ds)=>some ((x,y),cs++ds)
    | _,_=>none
  | []=>none
 args:=λp=>A.put p.1::F.args p.2
 ok:=by
  intro l p cs h hc;cases l with
  | nil=>cases h
  | cons a l=>
    simp only at h
    split at h
    ·rename_i x c1 y c2 h1 h2
     simp only[fu,Prod.mk.injEq]at h;obtain⟨rfl,rfl⟩:=h;exact .cons (A.ok a x c1 h1 λp hp=>hc p (by simp[hp])) (F.ok l y c2 h2 λp hp=>hc p (by simp[hp]))
    ·cases h
def Form.map{X Y:Type}(F:Form X)(f:X→Y)(g:Y→X)(h: ∀x,g (f x)=x):Form Y where
 parse:=λl=>match F.parse l with|some (x,cs)=>some (f x,cs)|none=>none
 args:=λy=>F.args (g y)
 ok:=by
  intro l y cs hp hc
  split at hp
  ·rename_i x ds hx
   simp only[fu,Prod.mk.injEq]at hp;obtain⟨rfl,rfl⟩:=hp;rw[h];exact F.ok l x _ hx hc
  ·cases hp
def Form.K{X:Type}(F:Form X)(val:X→AV)(pre:X→List Bool):List AV→Option (AV×List Bool):=λl=>
 match F.parse l with
 | some (x,cs)=>some (val x,cs++pre x)
 | none=>none
section
variable{P:Program}{Γ:FuncId→Option Spec}{L:Nat→Option (St→Tr (Ex×St))}{N:Nat}
theorem Form.amd{X:Type}(F:Form X){val:X→AV}{pre:X→List Bool}(hm:P.follows .mixedOrders=true)(hΓ: ∀f s,Γ f=some s→aH P f s){f:FuncId}{fn:Func}{c:Code}(hf:P.funcs[f]? =some fn)(hb:fn.body=some c)
  (hn:dz fn=true) (hl:bB P 0 L c) (hv: ∀x,bA.dY (val x)=true)
  (h: ∀x,(∀p∈pre x,p=true)→(aN P Γ L N fn (F.args x)).sat λr=>bA.dY r=true∧bL r (val x)):aF P f (F.K val pre):=by
 refine mh hm hΓ hf hb (cO hf hb hn) (L:=L) (N:=N) hl (λargs v cs hk=> ?_) λargs v cs hk hc=> ?_
 ·unfold Form.K at hk
  split at hk
  ·simp only[fu,Prod.mk.injEq]at hk
   rw[←hk.1];exact hv _
  ·cases hk
 ·unfold Form.K at hk
  split at hk
  ·rename_i x ds hx
   simp only[fu,Prod.mk.injEq]at hk;obtain⟨rfl,rfl⟩:=hk;exact⟨F.args x,F.ok args x ds hx λp hp=>hc p (by simp[hp]),h x λp hp=>hc p (by simp[hp])⟩
  ·cases hk
theorem Form.ji{X:Type}(F:Form X){val:X→AV}{pre:X→List Bool}(hm:P.follows .mixedOrders=true)(hΓ: ∀f s,Γ f=some s→aH P f s){f:FuncId}{fn:Func}{c:Code}(hf:P.funcs[f]? =some fn)(hb:fn.body=some c)
  (hn:dz fn=true) (hl:bB P 0 L c) (hv: ∀x,bA.dY (val x)=true) {M:X→Tr AV} (hM: ∀x,aN P Γ L N fn (F.args x)=M x)
  (h: ∀x,(∀p∈pre x,p=true)→(M x).sat λr=>r=val x):aF P f (F.K val pre):=
 F.amd hm hΓ hf hb hn hl hv λx hx=>by
  rw[hM x];exact Tr.aZ (λr hr=>⟨by rw[hr];exact hv x,bL.of_eq hr⟩) (h x hx)
structure dU (X:Type) where
 parse:List (Option gJ)→List AV→Option (X×List Bool)
 ents:X→List (Option gJ)
 args:X→List AV
 ok: ∀e l x cs,parse e l=some (x,cs)→(∀p∈cs,p=true)→bX e (ents x)∧dW l (args x)
def dU.K{X:Type}(F:dU X)(out:X→dx)(pre:X→List Bool):iD:=λe l=>
 match F.parse e l with
 | some (x,cs)=>some {out x with conds:=cs++pre x}
 | none=>none
def gW(o:dx)(p:dx):Prop:=bL p.val o.val∧bX (p.outs++[p.new]) (o.outs++[o.new])
theorem gW.refl(o:dx):gW o o:=⟨bL.refl _,bX.refl _⟩
theorem dU.akM{X:Type}(F:dU X){out:X→dx}{pre:X→List Bool}{xS:Bool}{L:Nat→Nat→Option (St→Tr (Ex×St))}(hm:P.follows .mixedOrders=true)(hΓ: ∀f s,Γ f=some s→aH P f s){f:FuncId}{fn:Func}{c:Code}(hf:P.funcs[f]? =some fn)
  (hb:fn.body=some c) (hn:dz fn=true) (hl: ∀e l x cs,F.parse e l=some (x,cs)→bB P e.length (L e.length) c)
  (hle: ∀x e,bX e (F.ents x)→L e.length=L (F.ents x).length)
  (h: ∀x,(∀p∈pre x,p=true)→(jw P Γ (L (F.ents x).length) N xS fn (F.ents x) (F.args x)).sat (gW (out x))):fF P f (F.K out pre):=by
 refine xG (L:=L) hm hΓ hf hb (cO hf hb hn) (N:=N) (xS:=xS) (λe l o ho=> ?_) λe l o ho hc=> ?_
 ·unfold dU.K at ho
  split at ho
  ·rename_i x cs hx
   exact hl e l x cs hx
  ·cases ho
 ·unfold dU.K at ho
  split at ho
  ·rename_i x cs hx
   cases ho;obtain⟨h1,h2⟩:=F.ok e l x cs hx λp hp=>hc p (by simp[hp])
   refine⟨F.ents x,F.args x,h1,h2,?_⟩;rw[hle x e h1];exact h x λp hp=>hc p (by simp[hp])
  ·cases ho
def lD{X R:Type}(nIn qF:Norm)(F:dU X)(G:dU R)(res:X→R)(pre:X→Bool):bC X R where
 nIn:=nIn
 qF:=qF
 head:=λx=>(F.args x,F.ents x)
 take:=λq=>F.parse q.2 q.1
 out:=λr=>(.normal,(G.args r,G.ents r))
 iC:=λq=>match q with|(.normal,q)=>G.parse q.2 q.1 | _=>none
 res:=res
 pre:=pre
theorem cZ{X R:Type}(nIn qF:Norm)(F:dU X)(G:dU R)(res:X→R)(pre:X→Bool):(lD nIn qF F G res pre).gH where
 take:=λq x cs h hc=>⟨(F.ok q.2 q.1 x cs h hc).2,(F.ok q.2 q.1 x cs h hc).1⟩
 iC:=by
  intro e q r cs h hc;cases e with
  | normal=>exact⟨rfl,(G.ok q.2 q.1 r cs h hc).2,(G.ok q.2 q.1 r cs h hc).1⟩
  | exit j=>cases h
  | ret=>cases h
 split:=λr Q h=>h
def Tf{X R:Type}(nIn qF:Norm)(F:dU X)(G:dU R)(res:X→Bool×R)(pre:X→Bool):bC X (Bool×R) where
 nIn:=nIn
 qF:=qF
 head:=λx=>(F.args x,F.ents x)
 take:=λq=>F.parse q.2 q.1
 out:=λr=>(bif r.1 then .ret else .normal,(G.args r.2,G.ents r.2))
 iC:=λq=>
  match q with
  | (.normal,q)=>match G.parse q.2 q.1 with|some (r,cs)=>some ((false,r),cs)|none=>none
  | (.ret,q)=>match G.parse q.2 q.1 with|some (r,cs)=>some ((true,r),cs)|none=>none
  | _=>none
 res:=res
 pre:=pre
 split:=λr=> .ite r.1 (.ret (true,r.2)) (.ret (false,r.2))
theorem oJ{X R:Type}(nIn qF:Norm)(F:dU X)(G:dU R)(res:X→Bool×R)(pre:X→Bool):(Tf nIn qF F G res pre).gH where
 take:=λq x cs h hc=>⟨(F.ok q.2 q.1 x cs h hc).2,(F.ok q.2 q.1 x cs h hc).1⟩
 iC:=by
  intro e q r cs h hc;cases e with
  | normal=>
    simp only[Tf]at h
    split at h
    ·rename_i r' cs' hr
     simp only[fu,Prod.mk.injEq]at h;obtain⟨rfl,rfl⟩:=h;exact⟨rfl,(G.ok q.2 q.1 r' _ hr hc).2,(G.ok q.2 q.1 r' _ hr hc).1⟩
    ·cases h
  | exit j=>cases h
  | ret=>
    simp only[Tf]at h
    split at h
    ·rename_i r' cs' hr
     simp only[fu,Prod.mk.injEq]at h;obtain⟨rfl,rfl⟩:=h;exact⟨rfl,(G.ok q.2 q.1 r' _ hr hc).2,(G.ok q.2 q.1 r' _ hr hc).1⟩
    ·cases h
 split:=by
  intro r Q h;obtain⟨b,v⟩:=r;cases b with
  | true=>exact h.1 rfl
  | false=>exact h.2 rfl
def dU.pure{X:Type}(F:Form X):dU X where
 parse:=λe l=>match e with | []=>F.parse l | _=>none
 ents:=λ_=> []
 args:=F.args
 ok:=by
  intro e l x cs h hc;cases e with
  | nil=>exact⟨bX.refl _,F.ok l x cs h hc⟩
  | cons _ _=>cases h
structure kr (X:Type) where
 parse:List (Option gJ)→Option (X×List Bool)
 ents:X→List (Option gJ)
 ok: ∀e x cs,parse e=some (x,cs)→(∀p∈cs,p=true)→bX e (ents x)
def dU.with{X Y:Type}(E:kr Y)(F:Form X):dU (X×Y) where
 parse:=λe l=>
  match F.parse l,E.parse e with
  | some (x,cs),some (y,ds)=>some ((x,y),cs++ds)
  | _,_=>none
 ents:=λp=>E.ents p.2
 args:=λp=>F.args p.1
 ok:=by
  intro e l p cs h hc
  split at h
  ·rename_i x c1 y c2 h1 h2
   simp only[fu,Prod.mk.injEq]at h;obtain⟨rfl,rfl⟩:=h;exact⟨E.ok e y c2 h2 λp hp=>hc p (by simp[hp]),F.ok l x c1 h1 λp hp=>hc p (by simp[hp])⟩
  ·cases h
end
def aX:Arg Int where
 get:=λa=>match a with | .c (.v (.int .i64 n))=>some (n,[]) | _=>none
 put:=λn=> .c (.v (.int .i64 n))
 ok:=by
  intro a x cs h hc
  split at h
  ·cases h;exact bL.refl _
  ·cases h
def kG:Arg Bool where
 get:=λa=>match a with | .c (.v (.bool b))=>some (b,[]) | _=>none
 put:=λb=> .c (.v (.bool b))
 ok:=by
  intro a x cs h hc
  split at h
  ·cases h;exact bL.refl _
  ·cases h
def EA:Arg ByteArray where
 get:=λa=>match a with | .c (.v (.string b))=>some (b,[]) | _=>none
 put:=λb=> .c (.v (.string b))
 ok:=by
  intro a x cs h hc
  split at h
  ·cases h;exact bL.refl _
  ·cases h
def mP(b o:Nat):Arg Unit where
 get:=λa=>match a with | .ptr b' o'=>bif beq b b'&&beq o o' then some ((),[])else none | _=>none
 put:=λ_=> .ptr b o
 ok:=by
  intro a x cs h hc
  split at h
  ·rename_i b' o'
   cases hb:(beq b b'&&beq o o')with
   | false=>rw[hb]at h;cases h
   | true=>
     simp only[bI]at hb;obtain⟨h1,h2⟩:=hb;obtain rfl:b=b':=by simpa using h1
     obtain rfl:o=o':=by simpa using h2
     exact bL.refl _
  ·cases h
def Ve(f b o:Nat):Arg Unit where
 get:=λa=>match a with | .fn f' [.ptr b' o']=>bif beq f f'&&(beq b b'&&beq o o')then some ((),[])else none | _=>none
 put:=λ_=> .fn f [.ptr b o]
 ok:=by
  intro a x cs h hc
  split at h
  ·rename_i f' b' o'
   cases hb:(beq f f'&&(beq b b'&&beq o o'))with
   | false=>rw[hb]at h;cases h
   | true=>
     simp only[bI]at hb;obtain⟨h0,h1,h2⟩:=hb;obtain rfl:f=f':=by simpa using h0
     obtain rfl:b=b':=by simpa using h1
     obtain rfl:o=o':=by simpa using h2
     exact bL.refl _
  ·cases h
def gG(f:Nat):Arg Unit where
 get:=λa=>match a with | .c (.v (.func (.func f') first cap))=>bif beq f f'&&(first.isEmpty&&cap.isEmpty)then some ((),[])else none | _=>none
 put:=λ_=> .c (.v (.func (.func f) #[] #[]))
 ok:=by
  intro a x cs h hc
  split at h
  ·rename_i f' first cap
   cases hb:(beq f f'&&(first.isEmpty&&cap.isEmpty))with
   | false=>rw[hb]at h;cases h
   | true=>
     simp only[bI,Array.isEmpty_iff]at hb;obtain⟨h0,rfl,rfl⟩:=hb;obtain rfl:f=f':=by simpa using h0
     exact bL.refl _
  ·cases h
def jH(t:Nat):Arg Unit where
 get:=λa=>match a with | .c (.v (.iface t' (.agg cs)))=>bif beq t t'&&cs.isEmpty then some ((),[])else none | _=>none
 put:=λ_=> .c (.v (.iface t (.agg #[])))
 ok:=by
  intro a x cs h hc
  split at h
  ·rename_i t' es
   cases hb:(beq t t'&&es.isEmpty)with
   | false=>rw[hb]at h;cases h
   | true=>
     simp only[bI,Array.isEmpty_iff]at hb;obtain⟨h0,rfl⟩:=hb;obtain rfl:t=t':=by simpa using h0
     exact bL.refl _
  ·cases h
def C8:Arg Unit where
 get:=λa=>match a with | .agg []=>some ((),[]) | _=>none
 put:=λ_=> .agg []
 ok:=by
  intro a x cs h hc
  split at h
  ·exact bL.refl _
  ·cases h
end Go.bA
namespace Go.bA
open Go.Proofs
section
variable{X:Type}(F:Form X){val:X→AV}{pre:X→List Bool}{Γ:FuncId→Option Spec}{L:Nat→Option (St→Tr (Ex×St))}{f:FuncId}{fn:Func}{M:X→Tr AV}
theorem Form.pl (hΓ: ∀f s,Γ f=some s→aH prog f s) (hl:bB prog 0 L (codeOf fn)) (hv: ∀x,bA.dY (val x)=true) (hM: ∀x,aN prog Γ L 1010 fn (F.args x)=M x) (h: ∀x,(∀p∈pre x,p=true)→(M x).sat λr=>r=val x)
  (hf:prog.funcs[f]? =some fn:=by kernel_rfl) (hb:fn.body=some (codeOf fn):=by kernel_rfl) (hn:dz fn=true:=by kernel_rfl):aF prog f (F.K val pre):=
 F.ji aI hΓ hf hb hn hl hv hM h
theorem Form.pk (hΓ: ∀f s,Γ f=some s→aH prog f s) (hM: ∀x,aN prog Γ dn 1010 fn (F.args x)=M x) (h: ∀x,(∀p∈pre x,p=true)→(M x).sat λr=>r=val x) (hv: ∀x,bA.dY (val x)=true:=by intro _;rfl)
  (hf:prog.funcs[f]? =some fn:=by kernel_rfl) (hb:fn.body=some (codeOf fn):=by kernel_rfl) (hn:dz fn=true:=by kernel_rfl):aF prog f (F.K val pre):=
 F.pl hΓ (aA _ _) hv hM h hf hb hn
end
structure Jt (X:Type) where
 get:Option gJ→Option (X×List Bool)
 put:X→Option gJ
 ok: ∀e x cs,get e=some (x,cs)→(∀p∈cs,p=true)→pR e (put x)
def kr.nil:kr Unit where
 parse:=λe=>match e with | []=>some ((),[]) | _=>none
 ents:=λ_=> []
 ok:=by
  intro e x cs h hc;cases e with
  | nil=>exact .nil
  | cons a l=>cases h
def kr.cons{X Y:Type}(A:Jt X)(F:kr Y):kr (X×Y) where
 parse:=λe=>
  match e with
  | a::e=>
    match A.get a,F.parse e with
    | some (x,cs),some (y,ds)=>some ((x,y),cs++ds)
    | _,_=>none
  | []=>none
 ents:=λp=>A.put p.1::F.ents p.2
 ok:=by
  intro l p cs h hc;cases l with
  | nil=>cases h
  | cons a l=>
    simp only at h
    split at h
    ·rename_i x c1 y c2 h1 h2
     simp only[fu,Prod.mk.injEq]at h;obtain⟨rfl,rfl⟩:=h;exact .cons (A.ok a x c1 h1 λp hp=>hc p (by simp[hp])) (F.ok l y c2 h2 λp hp=>hc p (by simp[hp]))
    ·cases h
def nC:Jt (List Nat) where
 get:=λe=>match e with|some (.arr n 1 el 335)=>some (aL n el,[aJ n el]) | _=>none
 put:=λl=>some (.arr l.length 1 (aB l) 335)
 ok:=by
  intro e l cs h hc
  split at h
  ·rename_i n el
   simp only[fu,Prod.mk.injEq]at h;obtain⟨rfl,rfl⟩:=h;have g:aJ n el=true:=hc _ (by simp);rw[jN];exact .arr _ _ _ _ _ (gQ g).1
  ·cases h
def dZ(b sz:Nat):Arg Nat where
 get:=λa=>match a with | .fK b' n sz'=>bif beq b b'&&beq sz sz' then some (n,[])else none | _=>none
 put:=λn=> .fK b n sz
 ok:=by
  intro a n cs h hc
  split at h
  ·rename_i b' m sz'
   cases hb:(beq b b'&&beq sz sz')with
   | false=>rw[hb]at h;cases h
   | true=>
     rw[hb]at h;simp only[cond_true,fu,Prod.mk.injEq]at h;obtain⟨rfl,rfl⟩:=h;simp only[bI]at hb;obtain rfl:b=b':=by simpa using hb.1
     obtain rfl:sz=sz':=by simpa using hb.2
     exact bL.refl _
  ·cases h
def wT(k:IntKind):Arg Int where
 get:=λa=>match a with | .c (.v (.int k' n))=>if k=k' then some (n,[])else none | _=>none
 put:=λn=> .c (.v (.int k n))
 ok:=by
  intro a x cs h hc
  split at h
  ·split at h
   ·rename_i hk
    subst hk;cases h;exact bL.refl _
   ·cases h
  ·cases h
end Go.bA
namespace Go.bA
open Go.Proofs
abbrev SgX:=(Nat×Int×Int×Int×Unit)×(List Nat×Unit)
abbrev SgR:=(Int×Unit)×(List Nat×Unit)
def abS(x:SgX):SgR:=((((aC x.2.1%x.1.2.1.toNat:Nat):Int),()),(bn (aC x.2.1/x.1.2.1.toNat) x.1.1,()))
def Md(x:SgX):Bool:=decide (x.1.1=x.2.1.length)&&(okD x.2.1&&(decide (x.1.2.2.2.1=(x.1.1:Int)-1)&&(decide (x.1.2.2.1=0)&&(decide (0<x.1.2.1)&&(decide (x.1.2.1<4294967296)&&decide (x.1.1≤1000000000))))))
def abT:bC SgX SgR:=lD {nt:=36,live:=[0,1,5,6]} {nt:=36,live:=[5]} (.with (.cons nC .nil) (.cons (dZ 0 1) (.cons (wT .u32) (.cons (wT .u64) (.cons aX .nil))))) (.with (.cons nC .nil) (.cons (wT .u64) .nil)) abS Md
theorem Ze:abT.gH:=cZ _ _ _ _ _ _
abbrev ShX:=(Int×Nat×Nat×Int×Int×Unit)×(List Nat×List Nat×Unit)
abbrev ShR:=(Nat×Unit)×(List Nat×List Nat×Unit)
def abU(x:ShX):ShR:=((x.1.2.1,()),(x.2.1,bn (aC x.2.1*2^x.1.1.toNat) x.1.2.1,()))
def mW(x:ShX):Bool:=decide (x.1.2.2.1=x.2.1.length)&&(decide (x.1.2.1=x.2.2.1.length)&&(decide (x.1.2.1=x.1.2.2.1+1)&&(okD x.2.1&&(decide (x.2.2.1=bn 0 x.1.2.1)&&(decide (x.1.2.2.2.1=(x.1.2.2.1:Int))&&(decide (x.1.2.2.2.2.1=0)&&(decide (0≤x.1.1)&&(decide (x.1.1<32)&&decide (x.1.2.1≤1000000000)))))))))
def abV:bC ShX ShR:=lD {nt:=41,live:=[1,5,13,14,15]} {nt:=41,live:=[5]} (.with (.cons nC (.cons nC .nil)) (.cons aX (.cons (dZ 1 1) (.cons (dZ 0 1) (.cons aX (.cons aX .nil)))))) (.with (.cons nC (.cons nC .nil)) (.cons (dZ 1 1) .nil)) abU mW
theorem Zf:abV.gH:=cZ _ _ _ _ _ _
abbrev N8:=List Nat×List Nat×List Nat×Unit
abbrev DA(T:Type):=(Nat×Int×Nat×Int×Nat×Int×T)
def frA{T:Type}(F:Form T):Form (DA T):= .cons (dZ 0 1) (.cons aX (.cons (dZ 1 1) (.cons aX (.cons (dZ 2 1) (.cons aX F)))))
def FX:kr N8:= .cons nC (.cons nC (.cons nC .nil))
def wU(y1 y0 w H:Nat):Nat:=min (BB-1) ((H*BB+w)/(y1*BB+y0))
def Vf(n:Int)(j:Int)(g r:Int)(Y X:List Nat):Nat:=wU (Y.getD (n.toNat-1) 0) (Y.getD (n.toNat-2) 0) (X.getD (j.toNat+n.toNat-2) 0) (g.toNat*Y.getD (n.toNat-1) 0+r.toNat)
def KS(ny:Nat)(s:Int)(nx:Nat)(n:Int)(no:Nat)(j:Int)(Y X O:List Nat):Bool:=
 decide ((ny:Int)=n)&&(decide (Y.length=ny+1)&&(decide (nx=X.length)&&(decide (no=O.length)&&(decide (nx=ny+no)&&(decide (2≤ny)&&(decide (nx≤1000000000)&&(okD Y&&(okD X&&(okD O&&(decide (aC Y<BB^ny)&&(decide (0≤j)&&(decide (j<no)&&decide (BB≤2*Y.getD (ny-1) 0)))))))))))))
abbrev D2X:=DA (Int×Int×Unit)×N8
abbrev D2R:=DA (Int×Unit)×N8
def akN(x:D2X):D2R:=match x with
 | ((ny,s,nx,n,no,j,g,r,()),(Y,X,O,()))=>((ny,s,nx,n,no,j,((Vf n j g r Y X:Nat):Int),()),(Y,X,O,()))
def Me(x:D2X):Bool:=match x with
 | ((ny,s,nx,n,no,j,g,r,()),(Y,X,O,()))=>KS ny s nx n no j Y X O&&(decide (0≤g)&&(decide (0≤r)&&(decide (r<4294967296)&&(decide (g.toNat*Y.getD (ny-1) 0+r.toNat<Y.getD (ny-1) 0*BB+BB)&&decide (Vf n j g r Y X≤g.toNat)))))
def N9:bC D2X D2R:=lD {nt:=304,live:=[9,12,13,14,15,16,18,19]} {nt:=304,live:=[9,12,13,14,15,16,18]} (.with FX (frA (.cons (wT .u64) (.cons (wT .u64) .nil)))) (.with FX (frA (.cons (wT .u64) .nil))) akN Me
theorem Zg:N9.gH:=cZ _ _ _ _ _ _
def sbD(j n g Y V:Nat):Nat:=V/BB^j+BB^(n+1)-g*Y
def Hg(j n g Y V:Nat):Nat:=V%BB^j+BB^j*sbD j n g Y V
def Mf(j Y Z:Nat):Nat:=Z%BB^j+BB^j*(Z/BB^j+Y)
abbrev D4X:=DA (Int×Int×Int×Int×Int×Unit)×N8
abbrev D4R:=DA (Int×Int×Int×Unit)×N8
def akO(x:D4X):D4R:=match x with
 | ((ny,s,nx,n,no,j,g,b,c,N,i,()),(Y,X,O,()))=>((ny,s,nx,n,no,j,g,((borrow (aC X/BB^j.toNat) (g.toNat*aC Y) ny:Nat):Int),((g.toNat*aC Y/BB^ny:Nat):Int),()),(Y,dX (aC X) (Hg j.toNat ny g.toNat (aC Y) (aC X)) nx (j.toNat+ny),O,()))
def Mg(x:D4X):Bool:=match x with
 | ((ny,s,nx,n,no,j,g,b,c,N,i,()),(Y,X,O,()))=>KS ny s nx n no j Y X O&&(decide (0≤g)&&(decide (g<4294967296)&&(decide (b=0)&&(decide (c=0)&&(decide (N=n)&&(decide (i=0)&&decide (aC X<BB^(j.toNat+ny+1))))))))
def Oa:bC D4X D4R:=lD {nt:=304,live:=[9,12,13,14,15,16,18,20,21,167,168]} {nt:=304,live:=[9,12,13,14,15,16,18,20,21]} (.with FX (frA (.cons (wT .u64) (.cons aX (.cons (wT .u64) (.cons aX (.cons aX .nil))))))) (.with FX (frA (.cons (wT .u64) (.cons aX (.cons (wT .u64) .nil))))) akO Mg
theorem Zh:Oa.gH:=cZ _ _ _ _ _ _
abbrev D6X:=DA (Int×Int×Int×Int×Unit)×N8
abbrev D6R:=DA (Int×Int×Unit)×N8
def akP(x:D6X):D6R:=match x with
 | ((ny,s,nx,n,no,j,g,c,N,i,()),(Y,X,O,()))=>((ny,s,nx,n,no,j,g,((carry (aC X/BB^j.toNat) (aC Y) ny:Nat):Int),()),(Y,dX (aC X) (Mf j.toNat (aC Y) (aC X)) nx (j.toNat+ny),O,()))
def Mh(x:D6X):Bool:=match x with
 | ((ny,s,nx,n,no,j,g,c,N,i,()),(Y,X,O,()))=>KS ny s nx n no j Y X O&&(decide (c=0)&&(decide (N=n)&&decide (i=0)))
def Ob:bC D6X D6R:=lD {nt:=304,live:=[9,12,13,14,15,16,18,25,230,231]} {nt:=304,live:=[9,12,13,14,15,16,18,25]} (.with FX (frA (.cons (wT .u64) (.cons (wT .u64) (.cons aX (.cons aX .nil)))))) (.with FX (frA (.cons (wT .u64) (.cons (wT .u64) .nil)))) akP Mh
theorem Zi:Ob.gH:=cZ _ _ _ _ _ _
def LDi:Nat→Option (St→Tr (Ex×St)):=λid=>bif beq id 2 then some (N9.g 0)else bif beq id 4 then some (Oa.g 0)else bif beq id 6 then some (Ob.g 0)else none
abbrev D0X:=DA Unit×N8
abbrev D0R:=(Int×Nat×Int×Nat×Unit)×(List Nat×List Nat×Unit)
def akQ(x:D0X):D0R:=match x with
 | ((ny,s,nx,n,no,j,()),(Y,X,O,()))=>((s,nx,n,no,()),(bn (aC X%aC Y) nx,bn (aC X/aC Y) no,()))
def Mi(x:D0X):Bool:=match x with
 | ((ny,s,nx,n,no,j,()),(Y,X,O,()))=>KS ny s nx n no j Y X O&&(decide (j=(no:Int)-1)&&(decide (O=bn 0 no)&&decide (aC X<aC Y*BB^no)))
def Oc:bC D0X D0R:=lD {nt:=304,live:=[9,12,13,14,15,16]} {nt:=304,live:=[12,13,14,15]} (.with FX (frA .nil)) (.with (.cons nC (.cons nC .nil)) (.cons aX (.cons (dZ 0 1) (.cons aX (.cons (dZ 1 1) .nil))))) akQ Mi
theorem Zj:Oc.gH:=cZ _ _ _ _ _ _
abbrev D8X:=(Int×Nat×Nat×Nat×Int×Int×Unit)×N8
abbrev D8R:=(Nat×Nat×Unit)×(List Nat×List Nat×Unit)
def akR(x:D8X):D8R:=match x with
 | ((s,nx,no,nr,N,i,()),(X,O,R,()))=>((no,nr,()),(O,bn (aC X/2^s.toNat) nr,()))
def Mj(x:D8X):Bool:=match x with
 | ((s,nx,no,nr,N,i,()),(X,O,R,()))=>decide (nx=X.length)&&(decide (no=O.length)&&((decide (nr<nx)&&(decide (nx≤1000000000)&&(okD X&&(okD O&&(decide (R=bn 0 nr)&&(decide (0≤s)&&(decide (s<32)&&(decide (N=(nr:Int))&&(decide (i=0)&&decide (aC X<BB^nr))))))))))))
def Od:bC D8X D8R:=lD {nt:=304,live:=[12,13,15,27,276,277]} {nt:=304,live:=[15,27]} (.with FX (.cons aX (.cons (dZ 0 1) (.cons (dZ 1 1) (.cons (dZ 2 1) (.cons aX (.cons aX .nil))))))) (.with (.cons nC (.cons nC .nil)) (.cons (dZ 0 1) (.cons (dZ 1 1) .nil))) akR Mj
theorem Zk:Od.gH:=cZ _ _ _ _ _ _
def LD:Nat→Option (St→Tr (Ex×St)):=λid=>bif beq id 0 then some (Oc.g 0)else bif beq id 8 then some (Od.g 0)else none
end Go.bA
namespace Go.bA
theorem Bu(i:Nat):0<BB^i:=Nat.pow_pos (by decide)
theorem C9(T w:Nat){i j:Nat}(h:j<i):(T+BB^i*w)/BB^j%BB=T/BB^j%BB:=by
 obtain⟨m,rfl⟩: ∃m,i=j+(m+1):=⟨i-j-1,by omega⟩
 have e:BB^(j+(m+1))*w=BB^j*(BB*(BB^m*w)):=by
  rw[Nat.pow_add,Nat.pow_succ];simp only[Nat.mul_assoc,Nat.mul_comm,Nat.mul_left_comm]
 rw[e,Nat.add_mul_div_left _ _ (Bu j),Nat.add_mul_mod_self_left]
theorem abW(T w i k:Nat)(h:T<BB^i):(T+BB^i*w)/BB^(i+k)=w/BB^k:=by
 rw[Nat.pow_add, ←Nat.div_div_eq_div_mul,Nat.add_mul_div_left _ _ (Bu i),Nat.div_eq_of_lt h,Nat.zero_add]
theorem iF(V i k:Nat):V/BB^(i+k)=V/BB^i/BB^k:=by rw[Nat.pow_add,Nat.div_div_eq_div_mul]
theorem rC(V n i:Nat)(h:i<n):(bn V n).getD i 0=V/BB^i%BB:=lI n V i h
theorem uw{l:List Nat}(h:okD l=true)(i:Nat)(hi:i<l.length):l.getD i 0=aC l/BB^i%BB:=by
 have:=ig l h
 conv=>lhs;rw[←this]
 exact lI _ _ _ hi
theorem Vg{l:List Nat}(h:okD l=true)(i:Nat):l.getD i 0<BB:=by
 by_cases hi:i<l.length
 ·rw[uw h i hi];exact Nat.mod_lt _ (by decide)
 ·have e:l.getD i 0=0:=by simp[dJ,List.getElem?_eq_none (Nat.le_of_not_lt hi)]
  rw[e];decide
theorem Vh(X Z n i:Nat)(h:i<n):(dX X Z n (i+1)).set i (X/BB^i%BB)=dX X Z n i:=by
 apply List.ext_getElem
 ·simp[dX]
 ·intro k h1 h2
  simp only[dX,List.getElem_set,List.getElem_map,List.getElem_range];by_cases hk:i=k
  ·subst hk;rw[if_pos rfl,if_neg (Nat.lt_irrefl _)]
  ·rw[if_neg hk]
   by_cases hk2:k<i
   ·rw[if_pos (by omega),if_pos hk2]
   ·rw[if_neg (by omega),if_neg hk2]
theorem Zl(V d i:Nat)(hd:0<d):(V/BB^(i+1)%d*BB+V/BB^i%BB)/d=V/d/BB^i%BB∧(V/BB^(i+1)%d*BB+V/BB^i%BB)%d=V/BB^i%d∧(V/BB^(i+1)%d*BB+V/BB^i%BB)/d<BB:=by
 have e0:V/BB^(i+1)=V/BB^i/BB:=by rw[Nat.pow_succ,Nat.div_div_eq_div_mul]
 have e1:V/d/BB^i=V/BB^i/d:=by rw[Nat.div_div_eq_div_mul,Nat.div_div_eq_div_mul,Nat.mul_comm]
 rw[e0,e1];generalize V/BB^i=U;have h1:=Nat.div_add_mod U BB;have h2:=Nat.div_add_mod (U/BB) d;have h3:U%BB<BB:=Nat.mod_lt _ (by decide);have h4:=Nat.mod_lt (U/BB) hd;generalize hr:U/BB%d=r at*;generalize hv:U%BB=v at*;generalize U/BB/d=q at*;have hU:U=r*BB+v+d*(q*BB):=by
  rw[←h1, ←h2,Nat.mul_add];have:BB*(d*q)=d*(q*BB):=by simp only[Nat.mul_comm,Nat.mul_left_comm,Nat.mul_assoc]
  have:BB*r=r*BB:=Nat.mul_comm _ _;omega
 have hlt:(r*BB+v)/d<BB:=by
  rw[Nat.div_lt_iff_lt_mul hd];have:(r+1)*BB≤d*BB:=Nat.mul_le_mul_right _ h4;rw[Nat.add_mul,Nat.one_mul,Nat.mul_comm d]at this;omega
 refine⟨?_,?_,hlt⟩
 ·rw[hU,Nat.add_mul_div_left _ _ hd,Nat.add_mul_mod_self_right,Nat.mod_eq_of_lt hlt]
 ·rw[hU,Nat.add_mul_mod_self_left]
theorem Zm(T w n i e0 e1:Nat)(hT:T<BB^(i+1))(hn:i+1<n)(he:T/BB^i+w=e0+BB*e1)(h0:e0<BB)(h1:e1<BB):
  ((bn T n).set i e0).set (i+1) e1=bn (T+BB^i*w) n:=by
 have hl:(((bn T n).set i e0).set (i+1) e1).length=n:=by simp[bN]
 have:=sH (l:=((bn T n).set i e0).set (i+1) e1) (v:=T+BB^i*w) λj hj=> ?_
 ·rw[hl]at this;exact this
 ·rw[hl]at hj
  change _=(T+BB^i*w)/BB^j%BB
  have e:(((bn T n).set i e0).set (i+1) e1).getD j 0=if j=i+1 then e1 else if j=i then e0 else(bn T n).getD j 0:=by
   simp only[dJ,List.getElem?_set,List.length_set,bN];by_cases a:j=i+1
   ·subst a;simp[hn]
   ·rw[if_neg (Ne.symm a),if_neg a]
    by_cases b:j=i
    ·subst b;simp[hj]
    ·rw[if_neg (Ne.symm b),if_neg b]
  rw[e];have ed:(T+BB^i*w)/BB^i=e0+BB*e1:=by rw[Nat.add_mul_div_left _ _ (Bu i),he]
  by_cases a:j=i+1
  ·subst a
   rw[if_pos rfl,iF,ed,Nat.pow_one,Nat.add_mul_div_left _ _ (by decide),Nat.div_eq_of_lt h0,Nat.zero_add,Nat.mod_eq_of_lt h1]
  ·rw[if_neg a]
   by_cases b:j=i
   ·subst b
    rw[if_pos rfl,ed,Nat.add_mul_mod_self_left,Nat.mod_eq_of_lt h0]
   ·rw[if_neg b,rC _ _ _ hj]
    by_cases c:j<i
    ·rw[C9 T w c]
    ·obtain⟨m,rfl⟩: ∃m,j=i+(m+2):=⟨j-i-2,by omega⟩
     have e2: ∀Z,Z/BB^(1+1+m)=Z/BB/BB/BB^m:=λZ=>by
      rw[Nat.pow_add,Nat.pow_add,Nat.pow_one, ←Nat.div_div_eq_div_mul, ←Nat.div_div_eq_div_mul]
     rw[iF (T+_),ed,show m+2=1+1+m by omega,e2 (e0+BB*e1),Nat.add_mul_div_left _ _ (by decide),Nat.div_eq_of_lt h0,Nat.zero_add,Nat.div_eq_of_lt h1,Nat.zero_div];rw[Nat.div_eq_of_lt (Nat.lt_of_lt_of_le hT (Nat.pow_le_pow_right (by decide) (by omega)))]
theorem Vi(V s i:Nat):V%BB^(i+1)*2^s=V%BB^i*2^s+BB^i*(V/BB^i%BB*2^s):=by
 rw[Nat.mod_pow_succ,Nat.add_mul,Nat.mul_assoc]
theorem abX(V s i:Nat)(hs:s<32):V%BB^i*2^s<BB^(i+1)∧V%BB^i*2^s/BB^i<2^s:=by
 have h1:V%BB^i<BB^i:=Nat.mod_lt _ (Bu i);have h2:V%BB^i*2^s<BB^i*2^s:=Nat.mul_lt_mul_of_pos_right h1 (Nat.pow_pos (by decide));refine⟨?_,(Nat.div_lt_iff_lt_mul (Bu i)).2 (by rw[Nat.mul_comm (2^s)];exact h2)⟩;rw[Nat.pow_succ];refine Nat.lt_of_lt_of_le h2 (Nat.mul_le_mul_left _ ?_)
 calc 2^s≤2^32:=Nat.pow_le_pow_right (by decide) (by omega)
  _=BB:=by decide
theorem Rj(o v s:Nat)(hs:s<32)(ho:o<2^s):o ||| (v*2^s%BB)=o+v*2^s%BB∧o+v*2^s%BB<BB:=by
 have hb:BB=2^s*2^(32-s):=by rw[←Nat.pow_add,show s+(32-s)=32 by omega]
 have e:v*2^s%BB=2^s*(v%2^(32-s)):=by
  rw[hb,Nat.mul_comm v,Nat.mul_mod_mul_left]
 have hlt:v%2^(32-s)<2^(32-s):=Nat.mod_lt _ (Nat.pow_pos (by decide));rw[e];constructor
 ·have:=Nat.two_pow_add_eq_or_of_lt (i:=s) (b:=o) ho (v%2^(32-s))
  rw[Nat.or_comm, ←this,Nat.add_comm]
 ·have:2^s*(v%2^(32-s)+1)≤2^s*2^(32-s):=Nat.mul_le_mul_left _ hlt
  rw[←hb,Nat.mul_add,Nat.mul_one]at this;omega
theorem abY(V s i:Nat)(hs:s<32):(V/BB^(i+1)%BB*BB+V/BB^i%BB)/2^s%BB=V/2^s/BB^i%BB:=by
 have e0:V/BB^(i+1)=V/BB^i/BB:=by rw[Nat.pow_succ,Nat.div_div_eq_div_mul]
 have e1:V/2^s/BB^i=V/BB^i/2^s:=by rw[Nat.div_div_eq_div_mul,Nat.div_div_eq_div_mul,Nat.mul_comm]
 rw[e0,e1];generalize V/BB^i=U;have h1:=Nat.div_add_mod U BB;have h2:=Nat.div_add_mod (U/BB) BB;have hb:BB=2^s*2^(32-s):=by rw[←Nat.pow_add,show s+(32-s)=32 by omega]
 have hU:U=U/BB%BB*BB+U%BB+2^s*(BB*(2^(32-s)*(U/BB/BB))):=by
  have e3:2^s*(BB*(2^(32-s)*(U/BB/BB)))=BB*(BB*(U/BB/BB)):=by
   have:2^s*(BB*(2^(32-s)*(U/BB/BB)))=(2^s*2^(32-s))*(BB*(U/BB/BB)):=by
    simp only[Nat.mul_assoc,Nat.mul_comm,Nat.mul_left_comm]
   rw[this, ←hb]
  rw[e3];have e4:BB*(U/BB)=BB*(BB*(U/BB/BB))+U/BB%BB*BB:=by
   conv=>lhs;rw[←h2]
   rw[Nat.mul_add,Nat.mul_comm BB (U/BB%BB)]
  omega
 conv=>rhs;rw[hU]
 rw[Nat.add_mul_div_left _ _ (Nat.pow_pos (by decide)),Nat.add_mul_mod_self_left]
theorem mQ(z:Nat)(h:z<18446744073709551616):u64.wrap ((z:Nat):Int)=((z:Nat):Int):=by rw[wrap_u64];omega
theorem Rk(x:Nat)(hx:x<18446744073709551616):(BitVec.ofInt 64 (x:Int)).toNat=x:=by
 rw[BitVec.toNat_ofInt];omega
theorem agQ(a b:Nat)(ha:a<BB)(hb:b<BB):u64.wrap ((BitVec.ofInt u64.bits (u64.wrap ((a:Int)*2^min (Int.toNat 32) u64.bits)) ||| BitVec.ofInt u64.bits ((b:Nat):Int)).toNat:Nat)=((a*BB+b:Nat):Int):=by
 unfold BB at*;have e1:((a:Int)*2^min (Int.toNat 32) u64.bits)=((a*4294967296:Nat):Int):=by
  rw[Int.natCast_mul];rfl
 rw[e1,mQ (a*4294967296) (by omega)]
 change u64.wrap ((BitVec.ofInt 64 ((a*4294967296:Nat):Int) ||| BitVec.ofInt 64 ((b:Nat):Int)).toNat:Nat)=_
 rw[BitVec.toNat_or,Rk _ (by omega),Rk _ (by omega)];have e5:a*4294967296 ||| b=a*4294967296+b:=by
  have:=Nat.two_pow_add_eq_or_of_lt (i:=32) (b:=b) (by simpa using hb) a;rw[Nat.mul_comm a];exact this.symm
 rw[e5,mQ _ (by omega)]
theorem asu(o v s:Nat)(hs:s<32)(ho:o<2^s):u32.wrap ((BitVec.ofInt u32.bits ((o:Nat):Int) ||| BitVec.ofInt u32.bits (((v*2^s%BB:Nat)):Int)).toNat:Nat)=((o+v*2^s%BB:Nat):Int):=by
 obtain⟨h1,h2⟩:=Rj o v s hs ho;have ho2:o<BB:=by omega
 have h3:v*2^s%BB<BB:=Nat.mod_lt _ (by decide);unfold BB at*
 change u32.wrap ((BitVec.ofInt 32 ((o:Nat):Int) ||| BitVec.ofInt 32 ((v*2^s%4294967296:Nat):Int)).toNat:Nat)=_
 rw[BitVec.toNat_or,GR _ ho2,GR _ h3,h1,wrap_u32];omega
theorem Ju(z:Nat):u32.wrap ((z:Nat):Int)=((z%BB:Nat):Int):=by rw[wrap_u32];unfold BB;omega
theorem ame(z:Nat):((z:Nat):Int).fdiv (2^min (Int.toNat 32) u64.bits)=((z/BB:Nat):Int):=kN _ 4294967296
theorem Oe(l:List Nat)(k b:Nat)(hk:k<l.length):aL l.length (aT (aB l) k 0 [IV.v (.int .u32 (b:Int))].reverse)=l.set k b:=by
 rw[fA _ _ _ hk];have:=aW (l.set k b);rw[List.length_set]at this;exact this
theorem amf{l:List Nat}(h:okD l=true)(k b:Nat)(hk:k<l.length)(hb:b<BB):aJ l.length (aT (aB l) k 0 [IV.v (.int .u32 (b:Int))].reverse)=true:=by
 rw[fA _ _ _ hk];exact aO (agf h k b hb) _
end Go.bA
namespace Go.bA
open Go.Proofs
def EB(n:Nat)(d:Int)(r:Int)(i:Int)(l:List Nat):Tr (SgX ⊕ SgR):=
 let x1:Int:= ↑n
 let x2:Bool:=decide (0≤i∧i<x1)
 let x3:Bool:=decide (i.toNat<l.length)
 let x4:Bool:=decide (u64.wrap d≠0)
 let x5:Int:=u64.wrap
  ↑(BitVec.ofInt u64.bits (u64.wrap (r*2^min (Int.toNat 32) u64.bits)) |||
   BitVec.ofInt u64.bits (u64.wrap ↑(l.getD i.toNat 0))).toNat
 Tr.ite (decide (i≥0))
  (need true
   (need x2
    (need x3
     (need x4
      (need x4
       (need x2
        (need x3
         (need
          (aJ l.length
           (aT (aB l) i.toNat 0 [IV.v (.int u32 (u32.wrap (u64.wrap (x5.tdiv (u64.wrap d)))))].reverse))
          (ret
           (Sum.inl
            ((n,d,x5.tmod (u64.wrap d),i64.wrap (i-1),()),
              aL l.length
               (aT (aB l) i.toNat 0
                [IV.v (.int u32 (u32.wrap (u64.wrap (x5.tdiv (u64.wrap d)))))].reverse),
              ())))))))))))
  (need (aJ l.length (aB l)) (ret (Sum.inr ((r,()),aL l.length (aB l),()))))
def EC(d:Int)(m:Nat)(n:Nat)(N:Int)(i:Int)(l:List Nat)(o:List Nat):Tr (ShX ⊕ ShR):=
 let x1:Int:= ↑n
 let x2:Int:= ↑m
 let x3:Bool:=decide (0≤i∧i<x2)
 let x4:Bool:=decide (i.toNat<o.length)
 let x5:Int:=i64.wrap (i+1)
 let x6:Nat:=x5.toNat
 let x7:Bool:=aJ l.length (aB l)
 let x8:Int:=u64.wrap (u64.wrap ↑(l.getD i.toNat 0)*2^min d.toNat u64.bits)
 let x9:List Nat:=aL l.length (aB l)
 Tr.ite (decide (i<N))
  (need (decide (0≤i∧i<x1))
   (need (decide (i.toNat<l.length))
    (need (decide ¬d<0)
     (need x3
      (need x4
       (need x3
        (need x4
         (need true
          (need (decide (0≤x5∧x5<x2))
           (need (decide (x6<o.length))
            (need x7
             (need
              (aJ o.length
               (aT
                (aT (aB o) i.toNat 0
                 [IV.v
                  (Value.int u32
                   (u32.wrap
                    ↑(BitVec.ofInt u32.bits ↑(o.getD i.toNat 0) |||
                     BitVec.ofInt u32.bits (u32.wrap x8)).toNat))].reverse)
                x6 0 [IV.v (.int u32 (u32.wrap (x8.fdiv (2^min (Int.toNat 32) u64.bits))))].reverse))
              (ret
               (Sum.inl
                ((d,m,n,N,x5,()),x9,
                  aL o.length
                   (aT
                    (aT (aB o) i.toNat 0
                     [IV.v
                      (Value.int u32
                       (u32.wrap
                        ↑(BitVec.ofInt u32.bits ↑(o.getD i.toNat 0) |||
                         BitVec.ofInt u32.bits (u32.wrap x8)).toNat))].reverse)
                    x6 0 [IV.v (.int u32 (u32.wrap (x8.fdiv (2^min (Int.toNat 32) u64.bits))))].reverse),
                  ())))))))))))))))
  (need x7 (need (aJ o.length (aB o)) (ret (Sum.inr ((m,()),x9,aL o.length (aB o),())))))
theorem Zn(x:SgX):(exec prog (λ_=>none) dn 1010 (aR 0 (codeOf Tryz.f287)) (eY abT.nIn (abT.head x))).bind (abT.fin 1 0)=EB x.1.1 x.1.2.1 x.1.2.2.1 x.1.2.2.2.1 x.2.1:=by
 obtain⟨⟨n,d,r,i,⟨⟩⟩,⟨l,⟨⟩⟩⟩:=x
 kernel_rfl
theorem Zo(x:ShX):(exec prog (λ_=>none) dn 1010 (aR 0 (codeOf Tryz.f289)) (eY abV.nIn (abV.head x))).bind (abV.fin 1 0)=EC x.1.1 x.1.2.1 x.1.2.2.1 x.1.2.2.2.1 x.1.2.2.2.2.1 x.2.1 x.2.2.1:=by
 obtain⟨⟨d,m,n,N,i,⟨⟩⟩,⟨l,o,⟨⟩⟩⟩:=x
 kernel_rfl
theorem Zp(V n i d:Nat)(hn:n≤1000000000)(hi:i<n)(hd:0<d)(hd2:d<4294967296){R:SgX ⊕ SgR→Prop}
  (hin:R (.inl ((n,(d:Nat),((V/BB^i%d:Nat):Int),(i:Int)-1,()),(dX (V/d) V n i,())))):
  (EB n (d:Nat) ((V/BB^(i+1)%d:Nat):Int) (i:Nat) (dX (V/d) V n (i+1))).sat R:=by
 obtain⟨q1,q2,q3⟩:=Zl V d i hd;have hg:=kP (V/d) V n (i+1) i hi;rw[if_pos (Nat.lt_succ_self i)]at hg;have hr:V/BB^(i+1)%d<d:=Nat.mod_lt _ hd;have hv:V/BB^i%BB<BB:=Nat.mod_lt _ (by decide);generalize V/BB^(i+1)%d=r at*;generalize hvv:V/BB^i%BB=v at*;have ho:=agQ r v (by unfold BB;omega) hv;have hb:r*BB+v<18446744073709551616:=by
  have:r*BB≤4294967295*BB:=Nat.mul_le_mul_right _ (by omega);unfold BB at*;omega
 have e1:((r*BB+v:Nat):Int).tdiv ((d:Nat):Int)=(((r*BB+v)/d:Nat):Int):=(Int.ofNat_tdiv _ _).symm;have e2:((r*BB+v:Nat):Int).tmod ((d:Nat):Int)=(((r*BB+v)%d:Nat):Int):=(Int.ofNat_tmod _ _).symm;have e3:u64.wrap (((r*BB+v)/d:Nat):Int)=(((r*BB+v)/d:Nat):Int):=mQ _ (Nat.lt_of_le_of_lt (Nat.div_le_self _ _) hb);have e4:u32.wrap (((r*BB+v)/d:Nat):Int)=(((r*BB+v)/d:Nat):Int):=by rw[Ju,Nat.mod_eq_of_lt q3]
 have e5:i64.wrap ((i:Int)-1)=(i:Int)-1:=wrap_i64 (by omega);have e6:u64.wrap ((v:Nat):Int)=((v:Nat):Int):=mQ _ (by unfold BB at hv;omega);have e7:u64.wrap ((d:Nat):Int)=((d:Nat):Int):=mQ _ (by omega);have hlen:=dL (V/d) V n (i+1);have s1:=Oe (dX (V/d) V n (i+1)) i ((r*BB+v)/d) (by rw[hlen];exact hi);have s2:=amf (kQ (V/d) V n (i+1)) i ((r*BB+v)/d) (by rw[hlen];exact hi) q3;rw[q1]at s1 s2 e3 e4 e1;rw[Vh _ _ _ _ hi]at s1;rw[q2]at e2;rw[hlen]at s1 s2;simp only[EB,Int.toNat_natCast,hg,e6,e7,ho,e1,e2,e3,e4,e5,s1,s2,hlen];refine aj (λ_=> ?_) (λh=>absurd (show(i:Int)≥0 by omega) (of_decide_eq_false h))
 repeat first
  | refine ah rfl ?_
  | refine ah (dA) ?_
 exact ak hin
theorem abZ(V n d:Nat)(hV:V<BB^n)(hn:n≤1000000000)(hd:0<d)(hd2:d<4294967296)(Q:SgR→Prop)(hq:Q ((((V%d:Nat):Int),()),(bn (V/d) n,()))): ∀(k:Nat),k≤n→
  aS (λx:SgX=>EB x.1.1 x.1.2.1 x.1.2.2.1 x.1.2.2.2.1 x.2.1) Q (k+1) ((n,(d:Nat),((V/BB^k%d:Nat):Int),(k:Int)-1,()),(dX (V/d) V n k,()))
 | 0,_=>by
   unfold aS
   change Tr.sat _ (EB n (d:Nat) ((V/BB^0%d:Nat):Int) ((0:Nat)-1) (dX (V/d) V n 0))
   rw[vI,Nat.pow_zero,Nat.div_one];have e:=aW (bn (V/d) n);simp only[EB,e,aO (bZ _ _) _];exact aj (λh=>by simp at h) (λ_=>ah rfl (ak hq))
 | k+1,hk=>by
   unfold aS;have e:((k+1:Nat):Int)-1=(k:Int):=by omega
   rw[e];exact Zp V n k d hn (by omega) hd hd2 (abZ V n d hV hn hd hd2 Q hq k (by omega))
def LSg:Nat→Option (St→Tr (Ex×St)):=λid=>bif beq id 0 then some (abT.g 1)else none
theorem agR:bB prog 1 LSg (codeOf Tryz.f287):=by
 refine gu (N:=1010) (L':=dn) eH (aA 1 _) Ze (λx=>Zn x) ?_;rintro⟨⟨n,d,r,i,⟨⟩⟩,⟨l,⟨⟩⟩⟩ hx;have hx:Md ((n,d,r,i,()),(l,()))=true:=hx;simp only[Md,bI,dS]at hx;obtain⟨rfl,h2,rfl,rfl,h5,h6,h7⟩:=hx;obtain⟨d,rfl⟩: ∃e:Nat,d=e:=⟨d.toNat,by omega⟩
 have hV:=wS l h2;have:=abZ (aC l) l.length d hV h7 (by omega) (by omega) (· =abS ((l.length,(d:Nat),0,(l.length:Int)-1,()),(l,()))) (by simp[abS]) l.length (Nat.le_refl _);rw[yF,ig l h2,Nat.div_eq_of_lt hV,Nat.zero_mod]at this;exact⟨_,this⟩
theorem Zq(V n m i s:Nat)(hm:m=n+1)(hn:m≤1000000000)(hi:i<n)(hs:s<32){R:ShX ⊕ ShR→Prop}
  (hin:R (.inl (((s:Nat),m,n,(n:Nat),((i+1:Nat):Int),()),(bn V n,bn (V%BB^(i+1)*2^s) m,())))):
  (EC (s:Nat) m n (n:Nat) (i:Nat) (bn V n) (bn (V%BB^i*2^s) m)).sat R:=by
 obtain⟨k1,k2⟩:=abX V s i hs;have hnx:=Vi V s i;have hv:V/BB^i%BB<BB:=Nat.mod_lt _ (by decide);have hg:=rC V n i hi;have hT:=rC (V%BB^i*2^s) m i (by omega);have hps:2^s≤2147483648:=by
  calc 2^s≤2^31:=Nat.pow_le_pow_right (by decide) (by omega)
   _=2147483648:=by decide
 have hvw:V/BB^i%BB*2^s≤4294967295*2147483648:=Nat.mul_le_mul (Nat.le_of_lt_succ hv) hps;have hd1:V/BB^i%BB*2^s/BB<BB:=(Nat.div_lt_iff_lt_mul (by decide)).2 (Nat.lt_of_le_of_lt hvw (by decide));have hTd:V%BB^i*2^s/BB^i%BB=V%BB^i*2^s/BB^i:=Nat.mod_eq_of_lt (Nat.lt_of_lt_of_le k2 (Nat.le_trans hps (by decide)));rw[hTd]at hT;have c1:=asu (V%BB^i*2^s/BB^i) (V/BB^i%BB) s hs k2;obtain⟨_,c2⟩:=Rj (V%BB^i*2^s/BB^i) (V/BB^i%BB) s hs k2;have hset:=Zm (V%BB^i*2^s) (V/BB^i%BB*2^s) m i (V%BB^i*2^s/BB^i+V/BB^i%BB*2^s%BB) (V/BB^i%BB*2^s/BB) k1 (by omega) (by
  have:=Nat.div_add_mod (V/BB^i%BB*2^s) BB;omega) c2 hd1
 rw[←hnx]at hset;generalize V/BB^i%BB=v at*;generalize V%BB^i*2^s/BB^i=o at*;have e0:u64.wrap ((v:Nat):Int)=((v:Nat):Int):=mQ _ (by unfold BB at hv;omega);have e1:u64.wrap (((v:Nat):Int)*2^min s u64.bits)=((v*2^s:Nat):Int):=by
  have:min s u64.bits=s:=by change min s 64=s;omega
  rw[this,show((2:Int)^s)=((2^s:Nat):Int)by simp, ←Int.natCast_mul,mQ _ (by omega)]
 have e2:u32.wrap ((v*2^s:Nat):Int)=((v*2^s%BB:Nat):Int):=Ju _;have e3:u32.wrap (((v*2^s/BB:Nat)):Int)=((v*2^s/BB:Nat):Int):=by rw[Ju,Nat.mod_eq_of_lt hd1]
 have e4:i64.wrap ((i:Int)+1)=((i+1:Nat):Int):=kU;have l1:=bN m (V%BB^i*2^s);have l2:=bN n V;have f1:=fA (bn (V%BB^i*2^s) m) i (o+v*2^s%BB) (by rw[l1];omega);have f2:=fA ((bn (V%BB^i*2^s) m).set i (o+v*2^s%BB)) (i+1) (v*2^s/BB) (by rw[List.length_set,l1];omega);have e9:=aW (bn (V%BB^(i+1)*2^s) m);have e8:=aW (bn V n);rw[bN]at e9 e8;simp only[EC,Int.toNat_natCast,hg,hT,e0,e1,e2,c1,ame,e3,e4,f1,f2,hset,e9,e8,l1,l2,aO (bZ _ _) _];refine aj (λ_=> ?_) (λh=>absurd (show(i:Int)<(n:Nat)by omega) (of_decide_eq_false h))
 repeat first
  | refine ah rfl ?_
  | refine ah (dA) ?_
 exact ak hin
theorem ab0(V n m s:Nat)(hV:V<BB^n)(hm:m=n+1)(hn:m≤1000000000)(hs:s<32)(Q:ShR→Prop)(hq:Q ((m,()),(bn V n,bn (V*2^s) m,()))): ∀(k i:Nat),i+k=n→
  aS (λx:ShX=>EC x.1.1 x.1.2.1 x.1.2.2.1 x.1.2.2.2.1 x.1.2.2.2.2.1 x.2.1 x.2.2.1) Q (k+1) (((s:Nat),m,n,(n:Nat),(i:Nat),()),(bn V n,bn (V%BB^i*2^s) m,()))
 | 0,i,h=>by
   obtain rfl:i=n:=by omega
   rw[Nat.mod_eq_of_lt hV];unfold aS
   change Tr.sat _ (EC (s:Nat) m i (i:Nat) (i:Nat) (bn V i) (bn (V*2^s) m))
   have e:=aW (bn (V*2^s) m);have e':=aW (bn V i);simp only[EC,e,e',aO (bZ _ _) _];exact aj (λh=>absurd (iX h) (Int.lt_irrefl _)) (λ_=>ah rfl (ah rfl (ak hq)))
 | k+1,i,h=>Zq V n m i s hm hn (by omega) hs (ab0 V n m s hV hm hn hs Q hq k (i+1) (by omega))
def LSh:Nat→Option (St→Tr (Ex×St)):=λid=>bif beq id 0 then some (abV.g 1)else none
theorem agS:bB prog 1 LSh (codeOf Tryz.f289):=by
 refine gu (N:=1010) (L':=dn) eH (aA 1 _) Zf (λx=>Zo x) ?_;rintro⟨⟨s,m,n,N,i,⟨⟩⟩,⟨l,o,⟨⟩⟩⟩ hx;have hx:mW ((s,m,n,N,i,()),(l,o,()))=true:=hx;simp only[mW,bI,dS]at hx;obtain⟨rfl,h0,h1,h2,rfl,rfl,rfl,h5,h6,h7⟩:=hx;obtain⟨s,rfl⟩: ∃e:Nat,s=e:=⟨s.toNat,by omega⟩
 have hV:=wS l h2;have:=ab0 (aC l) l.length m s hV h1 h7 (by omega) (· =abU (((s:Nat),m,l.length,(l.length:Nat),0,()),(l,bn 0 m,()))) (by simp only[abU,ig l h2,Int.toNat_natCast]) l.length 0 (by omega);rw[ig l h2,Nat.pow_zero,Nat.mod_one,Nat.zero_mul]at this;exact⟨_,this⟩
end Go.bA
namespace Go.bA
open Go.Proofs
abbrev ap2:dU ((Nat×Int×Unit)×(List Nat×Unit)):= .with (.cons nC .nil) (.cons (dZ 0 1) (.cons (wT .u32) .nil))
abbrev ap3:dU ((Nat×Int×Unit)×(List Nat×Unit)):= .with (.cons nC .nil) (.cons (dZ 0 1) (.cons aX .nil))
def MSg(n:Nat)(d:Int)(l:List Nat):Tr dx:=
 let x1:List Nat:=aL l.length (aB l)
 let x2:List Nat:=bn (aC x1/d.toNat) n
 need (aJ l.length (aB l))
  (need (Md ((n,d,0,i64.wrap (↑n-1),()),x1,()))
   (ret {val:=AV.c (.v (.int u32 (u32.wrap ↑(aC x1%d.toNat)))),outs:=[some (gJ.arr x2.length 1 (aB x2) 335)]}))
def MSh(n:Nat)(d:Int)(l:List Nat):Tr dx:=
 let x1:Int:= ↑n
 let x2:Int:=i64.wrap (x1+1)
 let x3:Int:=((4:Nat):Int)*x2
 let x4:Nat:=x2.toNat
 let x5:List Nat:=aL l.length (aB l)
 let x6:List Nat:=bn (aC x5*2^d.toNat) x4
 need (decide (x2=x2))
  (need (decide (0≤x2))
   (need (decide (x2≤9223372036854775807))
    (need (decide (x3≤140737488355328))
     (need (aJ l.length (aB l))
      (need (aJ x4 λx=>List.map IV.v [Value.int u32 0])
       (need (mW ((d,x4,n,x1,0,()),x5,aL x4 λx=>List.map IV.v [Value.int u32 0],()))
        (ret {val:=AV.fK 1 x4 1,outs:=[some (gJ.arr x5.length 1 (aB x5) 335)],new:=some (gJ.arr x6.length 1 (aB x6) 335)})))))))
def Og(x:Int):Tr AV:=
 let x1:Int:=x.fdiv (2^min (Int.toNat 16) u32.bits)
 let x2:Int:=2^min (Int.toNat 8) u32.bits
 let x3:Int:=IntKind.u8.wrap (x1.fdiv x2)
 let x6:Int:= ↑len8.length
 let x7:Int:=IntKind.u8.wrap x1
 let x8:Int:=IntKind.u8.wrap (x.fdiv x2)
 Tr.ite (decide (x≥65536))
  (need true
   (Tr.ite (decide (x1≥256))
    (need true
     (need (decide (0≤x3∧x3<x6))
      (ret (AV.c (.v (.int i64 (i64.wrap (i64.wrap (16+8)+i64.wrap ↑(len8.getD x3.toNat 0).toNat))))))))
    (need (decide (0≤x7∧x7<x6))
     (ret (AV.c (.v (.int i64 (i64.wrap (16+i64.wrap ↑(len8.getD x7.toNat 0).toNat)))))))))
  (Tr.ite (decide (x≥256))
   (need true
    (need (decide (0≤x8∧x8<x6))
     (ret (AV.c (.v (.int i64 (i64.wrap (i64.wrap (0+8)+i64.wrap ↑(len8.getD x8.toNat 0).toNat))))))))
   (need (decide (0≤IntKind.u8.wrap x∧IntKind.u8.wrap x<x6))
    (ret (AV.c (.v (.int i64 (i64.wrap (0+i64.wrap ↑(len8.getD (IntKind.u8.wrap x).toNat 0).toNat))))))))
theorem Zr(x:Int):aN prog (λ_=>none) dn 1010 Tryz.f213 [.c (.v (.int .u32 x))]=Og x:=by kernel_rfl
theorem Vj(n:Nat)(hn:n<4294967296):(Og (n:Int)).sat λr=>r=bR .i64 (bitLen n:Nat):=by
 have q16: ∀m:Nat,((m:Int)).fdiv (2^min (Int.toNat 16) u32.bits)=((m/65536:Nat):Int):=λm=>kN m 65536
 have q8: ∀m:Nat,((m:Int)).fdiv (2^min (Int.toNat 8) u32.bits)=((m/256:Nat):Int):=λm=>kN m 256
 have leaf: ∀(m:Nat) (k:Int) (b:Nat),m<256→0≤k→k+8<1000→((b:Nat):Int)=k+(bitLen m:Nat)→bitLen m≤8→
   (need (decide (0≤IntKind.u8.wrap (m:Int)∧IntKind.u8.wrap (m:Int)<((len8.length:Nat):Int))) (ret (AV.c (.v (.int i64 (i64.wrap (k+i64.wrap (((len8.getD (IntKind.u8.wrap (m:Int)).toNat 0).toNat:Nat):Int)))))))).sat λr=>r=bR .i64 (b:Nat):=by
  intro m k b hm h0 hk hb hle;have e1:IntKind.u8.wrap (m:Int)=(m:Int):=by rw[wrap_u8];omega
  rw[e1,Int.toNat_natCast,len8_get hm,QD];refine ah (dA) (ak ?_);rw[wrap_i64 (x:=((bitLen m:Nat):Int)) (by omega),wrap_i64 (by omega),hb];rfl
 have b8: ∀m,m<256→bitLen m≤8:=λm hm=>bitLen_le.2 (by simpa using hm)
 have w5:i64.wrap (16+8)=24:=by rfl
 have w6:i64.wrap (0+8)=8:=by rfl
 unfold Og;simp only[q16,q8,w5,w6];refine aj (λh=>ah rfl ?_) (λh=> ?_)
 ·have h:=iX h
  have s2:=bitLen_shift (n:=n) (k:=16) (by omega);rw[show(2:Nat)^16=65536 from rfl]at s2;refine aj (λh=>ah rfl ?_) (λh=> ?_)
  ·have h:=iX h
   have s3:=bitLen_shift (n:=n/65536) (k:=8) (by omega);rw[show(2:Nat)^8=256 from rfl]at s3;exact leaf (n/65536/256) 24 (bitLen n) (by omega) (by omega) (by omega) (by omega) (b8 _ (by omega))
  ·have h:=of_decide_eq_false h
   exact leaf (n/65536) 16 (bitLen n) (by omega) (by omega) (by omega) (by omega) (b8 _ (by omega))
 ·have h:=of_decide_eq_false h
  refine aj (λh=>ah rfl ?_) (λh=> ?_)
  ·have h:=iX h
   have s3:=bitLen_shift (n:=n) (k:=8) (by omega);rw[show(2:Nat)^8=256 from rfl]at s3;exact leaf (n/256) 8 (bitLen n) (by omega) (by omega) (by omega) (by omega) (b8 _ (by omega))
  ·have h:=of_decide_eq_false h
   exact leaf n 0 (bitLen n) (by omega) (by omega) (by omega) (by omega) (b8 _ (by omega))
abbrev agT:Form (Int×Unit):= .cons (wT .u32) .nil
def ab1:List AV→Option (AV×List Bool):=agT.K (λx=>bR .i64 (bitLen x.1.toNat:Nat)) λx=> [decide (0≤x.1),decide (x.1<4294967296)]
theorem ab2:aF prog 213 ab1:=
 agT.pk eH (fn:=Tryz.f213) (M:=λx=>Og x.1) (λx=>Zr x.1)
  λx h=>by
   obtain⟨n,⟨⟩⟩:=x;have h1:0≤n:=iX (h _ (by simp));have h2:n<4294967296:=iX (h _ (by simp));obtain⟨m,rfl⟩: ∃m:Nat,n=m:=⟨n.toNat,by omega⟩
   exact Vj m (by omega)
def ΓLz:FuncId→Option Spec:=λf=>bif beq f 213 then some (au ab1)else none
theorem amg: ∀f s,ΓLz f=some s→aH prog f s:=bM ab2.spec
def MLz(x:Int):Tr AV:=need (decide (0≤x)) (need (decide (x<4294967296)) (ret (bR .i64 (i64.wrap (32-((bitLen x.toNat:Nat):Int))))))
theorem amh(x:Int):aN prog ΓLz dn 1010 Tryz.f288 [.c (.v (.int .u32 x))]=MLz x:=by kernel_rfl
def KLz:List AV→Option (AV×List Bool):=agT.K (λx=>bR .i64 (32-((bitLen x.1.toNat:Nat):Int))) λx=> [decide (0≤x.1),decide (x.1<4294967296)]
theorem ap4:aF prog 288 KLz:=
 agT.pk amg (fn:=Tryz.f288) (M:=λx=>MLz x.1) (λx=>amh x.1)
  λx h=>by
   obtain⟨n,⟨⟩⟩:=x;have h1:0≤n:=iX (h _ (by simp));have h2:n<4294967296:=iX (h _ (by simp));have h3:bitLen n.toNat≤32:=bitLen_le.2 (by have:(2:Nat)^32=4294967296:=rfl;omega);refine ah (dK h1) (ah (dK h2) (ak ?_))
   show AV.c (.v (.int .i64 (i64.wrap (32-((bitLen n.toNat:Nat):Int)))))=AV.c (.v (.int .i64 (32-((bitLen n.toNat:Nat):Int))))
   rw[wrap_i64 (by omega)]
theorem dU.Jv{P:Program}{Γ:FuncId→Option Spec}{N:Nat}{X:Type}(F:dU X){out:X→dx}{pre:X→List Bool}{xS:Bool}{L:Nat→Option (St→Tr (Ex×St))}(hm:P.follows .mixedOrders=true)(hΓ: ∀f s,Γ f=some s→aH P f s){f:FuncId}{fn:Func}{c:Code}(hf:P.funcs[f]? =some fn)
  (hb:fn.body=some c) (hn:dz fn=true) (hl: ∀e l x cs,F.parse e l=some (x,cs)→bB P e.length L c) {M:X→Tr dx} (hM: ∀x,jw P Γ L N xS fn (F.ents x) (F.args x)=M x)
  (h: ∀x,(∀p∈pre x,p=true)→(M x).sat (gW (out x))):fF P f (F.K out pre):=
 F.akM (L:=λ_=>L) hm hΓ hf hb hn hl (λ_ _ _=>rfl) λx hx=>by
  rw[hM x];exact h x hx
theorem kr.len1{X Y:Type}(A:Jt X)(F:Form Y){e:List (Option gJ)}{l:List AV}{x:Y×(X×Unit)}{cs:List Bool}(h:(dU.with (.cons A .nil) F).parse e l=some (x,cs)):e.length=1:=by
 simp only[dU.with]at h
 split at h
 ·rename_i h2
  cases e with
  | nil=>cases h2
  | cons a e=>
    cases e with
    | nil=>rfl
    | cons b e=>
      simp only[kr.cons,kr.nil]at h2
      split at h2
      ·rename_i h3;cases h3
      ·cases h2
 ·cases h
theorem Mk: ∀(k:Nat),aL k (λ_=>List.map IV.v [Value.int u32 0])=bn 0 k:=by
 intro k
 apply List.ext_getElem
 ·simp[aL,bN]
 ·intro i h1 h2
  have hi:i<k:=by simpa[aL]using h1
  have e:(bn 0 k).getD i 0=(bn 0 k)[i]:=by simp[dJ,h2]
  rw[←e,lI _ _ _ hi];simp[aL,u32Of]
theorem FY(k:Nat):aJ k (λ_=>List.map IV.v [Value.int u32 0])=true:=List.all_eq_true.2 λ_ _=>rfl
def KSg:iD:=ap2.K (λx=>{val:= .c (.v (.int .u32 ((aC x.2.1%x.1.2.1.toNat:Nat):Int))),outs:=[some (.arr x.1.1 1 (aB (bn (aC x.2.1/x.1.2.1.toNat) x.1.1)) 335)]}) λx=> [decide (x.1.1=x.2.1.length),okD x.2.1,decide (0<x.1.2.1),decide (x.1.2.1<4294967296),decide (x.1.1≤1000000000)]
theorem ap5:fF prog 287 KSg:=by
 refine ap2.Jv (N:=1010) (L:=LSg) (xS:=false) aI eH (fn:=Tryz.f287) (c:=codeOf Tryz.f287) (by kernel_rfl) (by kernel_rfl) (by kernel_rfl) (λe l x cs h=>by rw[kr.len1 _ _ h];exact agR) (M:=λx=>MSg x.1.1 x.1.2.1 x.2.1) (λx=>by obtain⟨⟨n,d,⟨⟩⟩,⟨l,⟨⟩⟩⟩:=x;kernel_rfl) ?_;rintro⟨⟨n,d,⟨⟩⟩,⟨l,⟨⟩⟩⟩ h;have h1:n=l.length:=iX (h _ (by simp));have h2:okD l=true:=h _ (by simp);have h3:0<d:=iX (h (decide (0<d)) (by simp));have h4:d<4294967296:=iX (h (decide (d<4294967296)) (by simp));have h5:n≤1000000000:=iX (h (decide (n≤1000000000)) (by simp));subst h1;obtain⟨d,rfl⟩: ∃e:Nat,d=e:=⟨d.toNat,by omega⟩
 have hlt:aC l%d<d:=Nat.mod_lt _ (by omega);have hr:u32.wrap ((aC l%d:Nat):Int)=((aC l%d:Nat):Int):=by rw[Ju,Nat.mod_eq_of_lt (by unfold BB;omega)]
 have hw:i64.wrap (((l.length:Nat):Int)-1)=((l.length:Nat):Int)-1:=wrap_i64 (by omega);have hp:Md ((l.length,(d:Nat),0,((l.length:Nat):Int)-1,()),(l,()))=true:=by
  simp only[Md,bI,dS];exact⟨trivial,h2,trivial,trivial,h3,h4,h5⟩
 simp only[MSg,aW,aO h2 _,bN,Int.toNat_natCast,hr,hw,hp];exact ah rfl (ah rfl (ak (gW.refl _)))
def KSh:iD:=ap3.K (λx=>{val:= .fK 1 (x.1.1+1) 1,outs:=[some (.arr x.2.1.length 1 (aB x.2.1) 335)],new:=some (.arr (x.1.1+1) 1 (aB (bn (aC x.2.1*2^x.1.2.1.toNat) (x.1.1+1))) 335)}) λx=> [decide (x.1.1=x.2.1.length),okD x.2.1,decide (0≤x.1.2.1),decide (x.1.2.1<32),decide (x.1.1≤100000000)]
theorem ap6:fF prog 289 KSh:=by
 refine ap3.Jv (N:=1010) (L:=LSh) (xS:=false) aI eH (fn:=Tryz.f289) (c:=codeOf Tryz.f289) (by kernel_rfl) (by kernel_rfl) (by kernel_rfl) (λe l x cs h=>by rw[kr.len1 _ _ h];exact agS) (M:=λx=>MSh x.1.1 x.1.2.1 x.2.1) (λx=>by obtain⟨⟨n,d,⟨⟩⟩,⟨l,⟨⟩⟩⟩:=x;kernel_rfl) ?_;rintro⟨⟨n,d,⟨⟩⟩,⟨l,⟨⟩⟩⟩ h;have h1:n=l.length:=iX (h _ (by simp));have h2:okD l=true:=h _ (by simp);have h3:0≤d:=iX (h (decide (0≤d)) (by simp));have h4:d<32:=iX (h (decide (d<32)) (by simp));have h5:n≤100000000:=iX (h (decide (n≤100000000)) (by simp));subst h1;obtain⟨d,rfl⟩: ∃e:Nat,d=e:=⟨d.toNat,by omega⟩
 have hw:i64.wrap (((l.length:Nat):Int)+1)=((l.length+1:Nat):Int):=kU;have hp:mW (((d:Nat),l.length+1,l.length,(l.length:Nat),0,()),(l,bn 0 (l.length+1),()))=true:=by
  simp only[mW,bN,bI,dS];exact⟨trivial,trivial,trivial,h2,trivial,trivial,trivial,h3,h4,by omega⟩
 simp only[MSh,aW,aO h2 _,bN,Int.toNat_natCast,hw,Mk,FY,hp];exact ah (by simp) (ah (dA) (ah (dA) (ah (dA) (ah rfl (ah rfl (ah rfl (ak (gW.refl _))))))))
end Go.bA
namespace Go.bA
theorem ab3{b Y2 P W Y g:Nat}(hb:0<P)(hY:Y<(Y2+1)*P)(hY2:Y2*P≤Y)(hn:b≤Y2)
  (hW:W<Y*b) (hg:g=min (b-1) (W/P/Y2)):W/Y≤g∧g≤W/Y+1∧g*Y2≤W/P:=by
 have hb0:0<b:=by
  rcases Nat.eq_zero_or_pos b with h|h
  ·subst h;simp at hW
  ·exact h
 have ap7:0<Y2:=Nat.lt_of_lt_of_le hb0 hn;have hYp:0<Y:=by
  have:0<Y2*P:=Nat.mul_pos ap7 hb;omega
 have hq:W/Y≤b-1:=by
  have:W/Y<b:=(Nat.div_lt_iff_lt_mul hYp).2 (by rw[Nat.mul_comm];exact hW);omega
 have h1:W/Y≤W/P/Y2:=by
  rw[Nat.div_div_eq_div_mul];exact Nat.div_le_div_left (by rw[Nat.mul_comm];exact hY2) (Nat.mul_pos hb ap7)
 have hgy:g*Y2≤W/P:=by
  have h2:g≤W/P/Y2:=by rw[hg];exact Nat.min_le_right _ _
  exact Nat.le_trans (Nat.mul_le_mul_right _ h2) (Nat.div_mul_le_self _ _)
 refine⟨by rw[hg];exact Nat.le_min.2 ⟨hq,h1⟩,?_,hgy⟩;rcases Nat.eq_zero_or_pos g with h0|h0
 ·rw[h0];exact Nat.zero_le _
 ·have h3:(g-1)*(Y2+1)≤W/P:=by
   have e:(g-1)*(Y2+1)+(Y2+1-g)≤g*Y2:=by
    obtain⟨k,rfl⟩: ∃k,g=k+1:=⟨g-1,by omega⟩
    have hk:k+1≤Y2:=by
     have:k+1≤b-1:=by rw[hg];exact Nat.min_le_left _ _
     omega
    simp only[Nat.add_sub_cancel,Nat.add_mul,Nat.mul_add,Nat.one_mul,Nat.mul_one];omega
   have hgb:g≤b-1:=by rw[hg];exact Nat.min_le_left _ _
   omega
  have h4:(g-1)*Y≤W:=by
   calc (g-1)*Y≤(g-1)*((Y2+1)*P):=Nat.mul_le_mul_left _ (by omega)
    _=(g-1)*(Y2+1)*P:=by rw[Nat.mul_assoc]
    _≤W/P*P:=Nat.mul_le_mul_right _ h3
    _≤W:=Nat.div_mul_le_self _ _
  have h5:g-1≤W/Y:=(Nat.le_div_iff_mul_le hYp).2 h4;omega
theorem Jw{b y1 y0 w g r H:Nat}(hb:1<b)(hy1:b≤2*y1)(hy0:y0<b)(hw:w<b)(hH:g*y1+r=H)(hHb:H<y1*b+b)
  (hge:min (b-1) ((H*b+w)/(y1*b+y0))≤g) (hstop:(g<b∧g*y0≤r*b+w)∨b≤r):g=min (b-1) ((H*b+w)/(y1*b+y0))∧r=H-g*y1:=by
 refine⟨?_,by omega⟩;have hyp:0<y1*b+y0:=by
  have:0<y1*b:=Nat.mul_pos (by omega) (by omega);omega
 have hg:g≤b-1:=by
  rcases hstop with h|h
  ·omega
  ·apply Classical.byContradiction
   intro hn;have h1:b≤g:=by omega
   have h2:b*y1≤g*y1:=Nat.mul_le_mul_right _ h1;rw[Nat.mul_comm b y1]at h2;omega
 have hgw:g*y0≤r*b+w:=by
  rcases hstop with h|h
  ·exact h.2
  ·have h1:g*y0≤b*b:=Nat.mul_le_mul (by omega) (by omega)
   have h2:b*b≤r*b:=Nat.mul_le_mul_right _ h;omega
 have h2:g≤(H*b+w)/(y1*b+y0):=by
  rw[Nat.le_div_iff_mul_le hyp,Nat.mul_add, ←Nat.mul_assoc, ←hH,Nat.add_mul];omega
 omega
theorem Vk{b y1 y0 w g r H:Nat}(hb:1<b)(hy1:b≤2*y1)(hy0:y0<b)(hw:w<b)(hH:g*y1+r=H)(hr:r<b)
  (hge:min (b-1) ((H*b+w)/(y1*b+y0))≤g) (hgo:b≤g∨r*b+w<g*y0):1≤g∧(g-1)*y1+(r+y1)=H∧min (b-1) ((H*b+w)/(y1*b+y0))≤g-1:=by
 have hg1:1≤g:=by
  rcases hgo with h|h
  ·omega
  ·rcases Nat.eq_zero_or_pos g with h0|h0
   ·subst h0;simp at h
   ·exact h0
 have hyp:0<y1*b+y0:=by
  have:0<y1*b:=Nat.mul_pos (by omega) (by omega);omega
 refine⟨hg1,?_,?_⟩
 ·obtain⟨k,rfl⟩: ∃k,g=k+1:=⟨g-1,by omega⟩
  rw[Nat.add_mul,Nat.one_mul]at hH;simp only[Nat.add_sub_cancel];omega
 ·rcases hgo with h|h
  ·omega
  ·have:(H*b+w)/(y1*b+y0)<g:=by
    rw[Nat.div_lt_iff_lt_mul hyp,Nat.mul_add, ←Nat.mul_assoc, ←hH,Nat.add_mul];omega
   omega
end Go.bA
namespace Go.bA
open Go.Proofs
def ED(s:Int)(nx:Nat)(no:Nat)(nr:Nat)(N:Int)(i:Int)(X:List Nat)(O:List Nat)(R:List Nat):Tr (D8X ⊕ D8R):=
 let x1:Int:=i64.wrap (i+1)
 let x2:Int:= ↑nx
 let x3:Nat:=x1.toNat
 let x4:Int:= ↑nr
 let x5:Bool:=aJ O.length (aB O)
 let x6:List Nat:=aL O.length (aB O)
 Tr.ite (decide (i<N))
  (need (decide (0≤x1∧x1<x2))
   (need (decide (x3<X.length))
    (need true
     (need (decide (0≤i∧i<x2))
      (need (decide (i.toNat<X.length))
       (need (decide ¬s<0)
        (need (decide (0≤i∧i<x4))
         (need (decide (i.toNat<R.length))
          (need (aJ X.length (aB X))
           (need x5
            (need
             (aJ R.length
              (aT (aB R) i.toNat 0
               [IV.v
                (Value.int u32
                 (u32.wrap
                  ((u64.wrap
                   ↑(BitVec.ofInt u64.bits
                     (u64.wrap (u64.wrap ↑(X.getD x3 0)*2^min (Int.toNat 32) u64.bits)) |||
                    BitVec.ofInt u64.bits (u64.wrap ↑(X.getD i.toNat 0))).toNat).fdiv
                    (2^min s.toNat u64.bits))))].reverse))
             (ret
              (Sum.inl
               ((s,nx,no,nr,N,x1,()),aL X.length (aB X),x6,
                 aL R.length
                  (aT (aB R) i.toNat 0
                   [IV.v
                    (Value.int u32
                     (u32.wrap
                      ((u64.wrap
                       ↑(BitVec.ofInt u64.bits
                         (u64.wrap (u64.wrap ↑(X.getD x3 0)*2^min (Int.toNat 32) u64.bits)) |||
                        BitVec.ofInt u64.bits (u64.wrap ↑(X.getD i.toNat 0))).toNat).fdiv
                        (2^min s.toNat u64.bits))))].reverse),
                 ()))))))))))))))
  (need x5 (need (aJ R.length (aB R)) (ret (Sum.inr ((no,nr,()),x6,aL R.length (aB R),())))))
def Oh(ny:Nat)(s:Int)(nx:Nat)(n:Int)(no:Nat)(j:Int)(g:Int)(r:Int)(Y:List Nat)(X:List Nat)(O:List Nat):Tr (D2X ⊕ D2R):=
 let x1:Bool:=decide (g≥4294967296)
 let x2:Int:=i64.wrap (n-2)
 let x3:Int:= ↑ny
 let x4:Nat:=x2.toNat
 let x5:Int:=i64.wrap (i64.wrap (j+n)-2)
 let x6:Int:= ↑nx
 let x7:Nat:=x5.toNat
 let x8:Int:=u64.wrap (g*u64.wrap ↑(Y.getD x4 0))
 let x9:Int:=u64.wrap
  ↑(BitVec.ofInt u64.bits (u64.wrap (r*2^min (Int.toNat 32) u64.bits)) |||
   BitVec.ofInt u64.bits (u64.wrap ↑(X.getD x7 0))).toNat
 let x10:Int:=i64.wrap (n-1)
 let iW:Nat:=x10.toNat
 let kL:Int:=u64.wrap (r+u64.wrap ↑(Y.getD iW 0))
 let jA:Bool:=aJ Y.length (aB Y)
 let kM:Bool:=aJ X.length (aB X)
 let mO:Bool:=aJ O.length (aB O)
 let nu:Int:=u64.wrap (g-1)
 need
  (bif x1 then true
  else decide (0≤x2∧x2<x3)&&(decide (x4<Y.length)&&(decide ¬32<0&&(decide (0≤x5∧x5<x6)&&(decide (x7<X.length)&&true)))))
  (Tr.ite (bif x1 then true else bif false then true else decide (x8>x9))
   (need (decide (0≤x10∧x10<x3))
    (need (decide (iW<Y.length))
     (Tr.ite (decide (kL≥4294967296))
      (need jA
       (need kM
        (need mO
         (ret (Sum.inr ((ny,s,nx,n,no,j,nu,()),aL Y.length (aB Y),aL X.length (aB X),aL O.length (aB O),()))))))
      (need jA
       (need kM
        (need mO
         (ret
          (Sum.inl ((ny,s,nx,n,no,j,nu,kL,()),aL Y.length (aB Y),aL X.length (aB X),aL O.length (aB O),())))))))))
   (need jA
    (need kM
     (need mO (ret (Sum.inr ((ny,s,nx,n,no,j,g,()),aL Y.length (aB Y),aL X.length (aB X),aL O.length (aB O),())))))))
theorem Zt(x:D8X):(exec prog (λ_=>none) dn 1010 (aR 8 (codeOf Tryz.f257)) (eY Od.nIn (Od.head x))).bind (Od.fin 0 8)=ED x.1.1 x.1.2.1 x.1.2.2.1 x.1.2.2.2.1 x.1.2.2.2.2.1 x.1.2.2.2.2.2.1 x.2.1 x.2.2.1 x.2.2.2.1:=by
 obtain⟨⟨s,nx,no,nr,N,i,⟨⟩⟩,⟨X,O,R,⟨⟩⟩⟩:=x
 kernel_rfl
theorem Zu(x:D2X):(exec prog (λ_=>none) dn 1010 (aR 2 (codeOf Tryz.f257)) (eY N9.nIn (N9.head x))).bind (N9.fin 0 2)=Oh x.1.1 x.1.2.1 x.1.2.2.1 x.1.2.2.2.1 x.1.2.2.2.2.1 x.1.2.2.2.2.2.1 x.1.2.2.2.2.2.2.1 x.1.2.2.2.2.2.2.2.1 x.2.1 x.2.2.1 x.2.2.2.1:=by
 obtain⟨⟨ny,s,nx,n,no,j,g,r,⟨⟩⟩,⟨Y,X,O,⟨⟩⟩⟩:=x
 kernel_rfl
def cD(g Y i:Nat):Nat:=g*(Y%BB^i)/BB^i
theorem agU(g Y i:Nat):oW 0 g Y 0 i/BB^(0+i)=cD g Y i:=by simp[oW,cD]
theorem ap8(g Y i:Nat)(hg:g<BB):cD g Y i<BB:=by
 rw[←agU];exact NY 0 g Y 0 i hg
theorem agV(g Y i:Nat):cD g Y (i+1)=(cD g Y i+g*(Y/BB^i%BB))/BB:=by
 have:=L9 0 g Y 0 i;rw[agU,agU]at this;simpa using this
theorem ami(g Y i:Nat):g*Y/BB^i%BB=(cD g Y i+g*(Y/BB^i%BB))%BB:=by
 have:=Ma 0 g Y 0 i;rw[agU]at this;simpa using this
theorem agW(g Y n:Nat)(h:Y<BB^n):cD g Y n=g*Y/BB^n:=by unfold cD;rw[Nat.mod_eq_of_lt h]
theorem Rm(W n i:Nat)(h:i≤n):(W+BB^n)%BB^i=W%BB^i:=by
 obtain⟨m,rfl⟩: ∃m,n=i+m:=⟨n-i,by omega⟩
 rw[Nat.pow_add,Nat.add_mul_mod_self_left]
theorem ab4(W P n i:Nat)(hP:P≤W+BB^(n+1))(h:i≤n):(W+BB^(n+1)-P)/BB^i%BB=(W/BB^i%BB+BB-borrow W P i-P/BB^i%BB)%BB:=by
 have h1:=L6 (W+BB^(n+1)) P i hP;have h2:=C9 W 1 (i:=n+1) (j:=i) (by omega);rw[Nat.mul_one]at h2;have h3:borrow (W+BB^(n+1)) P i=borrow W P i:=by unfold borrow;rw[Rm W (n+1) i (by omega)]
 rw[h1,h2,h3]
theorem Xx(V j k:Nat)(h:k<j):V%BB^j/BB^k%BB=V/BB^k%BB:=by
 have h1:=Nat.div_add_mod V (BB^j)
 conv=>rhs;rw[←h1,Nat.add_comm]
 exact(C9 (V%BB^j) (V/BB^j) h).symm
theorem Jy(V D j i:Nat):(V%BB^j+BB^j*D)/BB^(j+i)=D/BB^i:=abW _ _ _ _ (Nat.mod_lt _ (Bu j))
theorem Jz(V D L j:Nat):dX V (V%BB^j+BB^j*D) L j=bn V L:=by
 have:=sH (l:=dX V (V%BB^j+BB^j*D) L j) (v:=V) λk hk=>by
  rw[dL]at hk;rw[kP _ _ _ _ _ hk]
  split
  ·rename_i h
   rw[C9 _ _ h,Xx V j k h]
  ·rfl
 rw[dL]at this;exact this
theorem Zv(X O:List Nat)(hX:okD X=true)(hO:okD O=true)(s nr i:Nat)(hs:s<32)(hnr:nr<X.length)(hn:X.length≤1000000000)(hi:i<nr){R:D8X ⊕ D8R→Prop}
  (hin:R (.inl (((s:Nat),X.length,O.length,nr,(nr:Nat),((i+1:Nat):Int),()),(X,O,dX 0 (aC X/2^s) nr (i+1),())))):
  (ED (s:Nat) X.length O.length nr (nr:Nat) (i:Nat) X O (dX 0 (aC X/2^s) nr i)).sat R:=by
 have g1:=uw hX (i+1) (by omega);have g0:=uw hX i (by omega);have hb:=abY (aC X) s i hs;have v1:aC X/BB^(i+1)%BB<BB:=Nat.mod_lt _ (by decide);have v0:aC X/BB^i%BB<BB:=Nat.mod_lt _ (by decide);have hms:=oH 0 (aC X/2^s) nr i hi;generalize aC X/BB^(i+1)%BB=a at*;generalize aC X/BB^i%BB=b at*;have ho:=agQ a b v1 v0;have e1:u64.wrap ((a:Nat):Int)=((a:Nat):Int):=mQ _ (by unfold BB at v1;omega);have e0:u64.wrap ((b:Nat):Int)=((b:Nat):Int):=mQ _ (by unfold BB at v0;omega);have e2:((a*BB+b:Nat):Int).fdiv (2^min s u64.bits)=(((a*BB+b)/2^s:Nat):Int):=by
  have:min s u64.bits=s:=by change min s 64=s;omega
  rw[this,show((2:Int)^s)=((2^s:Nat):Int)by simp];exact kN _ _
 have e3:u32.wrap (((a*BB+b)/2^s:Nat):Int)=((aC X/2^s/BB^i%BB:Nat):Int):=by rw[Ju,hb]
 have e4:i64.wrap ((i:Int)+1)=((i+1:Nat):Int):=kU;have f1:=fA (dX 0 (aC X/2^s) nr i) i (aC X/2^s/BB^i%BB) (by rw[dL];exact hi);rw[hms]at f1;have e9:=aW (dX 0 (aC X/2^s) nr (i+1));rw[dL]at e9;simp only[ED,Int.toNat_natCast,g1,g0,e1,e0,ho,e2,e3,e4,f1,e9,aW,dL,aO hX _,aO hO _,aO (kQ _ _ _ _) _];refine aj (λ_=> ?_) (λh=>absurd (show(i:Int)<(nr:Nat)by omega) (of_decide_eq_false h))
 repeat first
  | refine ah rfl ?_
  | refine ah (dA) ?_
 exact ak hin
theorem ab5(X O:List Nat)(hX:okD X=true)(hO:okD O=true)(s nr:Nat)(hs:s<32)(hnr:nr<X.length)(hn:X.length≤1000000000)(Q:D8R→Prop)(hq:Q ((O.length,nr,()),(O,bn (aC X/2^s) nr,()))): ∀(k i:Nat),i+k=nr→
  aS (λx:D8X=>ED x.1.1 x.1.2.1 x.1.2.2.1 x.1.2.2.2.1 x.1.2.2.2.2.1 x.1.2.2.2.2.2.1 x.2.1 x.2.2.1 x.2.2.2.1) Q (k+1) (((s:Nat),X.length,O.length,nr,(nr:Nat),(i:Nat),()),(X,O,dX 0 (aC X/2^s) nr i,()))
 | 0,i,h=>by
   obtain rfl:i=nr:=by omega
   unfold aS
   change Tr.sat _ (ED (s:Nat) X.length O.length i (i:Nat) (i:Nat) X O (dX 0 (aC X/2^s) i i))
   have e:=aW (dX 0 (aC X/2^s) i i);simp only[ED,e,aW,aO hO _,aO (kQ _ _ _ _) _];rw[yF];exact aj (λh=>absurd (iX h) (Int.lt_irrefl _)) (λ_=>ah rfl (ah rfl (ak hq)))
 | k+1,i,h=>Zv X O hX hO s nr i hs hnr hn (by omega) (ab5 X O hX hO s nr hs hnr hn Q hq k (i+1) (by omega))
theorem Vl(g r w y0:Nat):(bif decide ((g:Int)≥4294967296)then true else bif false then true else decide (((g*y0:Nat):Int)>((r*BB+w:Nat):Int)))=decide (BB≤g∨r*BB+w<g*y0):=by
 by_cases hg:BB≤g
 ·have d1:decide ((g:Int)≥4294967296)=true:=dK (by unfold BB at hg;omega)
  rw[d1,cond_true];exact(dK (Or.inl hg)).symm
 ·have d1:decide ((g:Int)≥4294967296)=false:=iB (by unfold BB at hg;omega)
  rw[d1,cond_false,cond_false];refine decide_eq_decide.2 ⟨λh=> .inr (by omega),λh=> ?_⟩;rcases h with h|h<;>omega
theorem Zw(Y X O:List Nat)(hY:okD Y=true)(hX:okD X=true)(hO:okD O=true)(ny no j H:Nat)(s:Int)(h2:2≤ny)(hYl:Y.length=ny+1)(hXl:X.length=ny+no)(hj:j<no)(hn:X.length≤1000000000)
  (hb:BB≤2*Y.getD (ny-1) 0) (hHb:H<Y.getD (ny-1) 0*BB+BB) (g r:Nat) (h:g*Y.getD (ny-1) 0+r=H) (hr:r<BB) (hge:wU (Y.getD (ny-1) 0) (Y.getD (ny-2) 0) (X.getD (j+ny-2) 0) H≤g) {R:D2X ⊕ D2R→Prop}
  (hin: ∀g' r',g'*Y.getD (ny-1) 0+r'=H→r'<BB→wU (Y.getD (ny-1) 0) (Y.getD (ny-2) 0) (X.getD (j+ny-2) 0) H≤g'→r'=r+Y.getD (ny-1) 0→R (.inl ((ny,s,X.length,(ny:Nat),O.length,(j:Nat),(g':Nat),(r':Nat),()),(Y,X,O,()))))
  (hq:R (.inr ((ny,s,X.length,(ny:Nat),O.length,(j:Nat),((wU (Y.getD (ny-1) 0) (Y.getD (ny-2) 0) (X.getD (j+ny-2) 0) H:Nat):Int),()),(Y,X,O,())))):
  (Oh ny s X.length (ny:Nat) O.length (j:Nat) (g:Nat) (r:Nat) Y X O).sat R:=by
 have y1l:=Vg hY (ny-1);have y0l:=Vg hY (ny-2);have wl:=Vg hX (j+ny-2);have w0:i64.wrap (((ny:Nat):Int)-2)=((ny-2:Nat):Int):=kU;have w1:i64.wrap (((ny:Nat):Int)-1)=((ny-1:Nat):Int):=kU;have w2:i64.wrap (((j:Nat):Int)+((ny:Nat):Int))=((j+ny:Nat):Int):=kU;have w3:i64.wrap (((j+ny:Nat):Int)-2)=((j+ny-2:Nat):Int):=kU;generalize hy1:Y.getD (ny-1) 0=y1 at*;generalize hy0:Y.getD (ny-2) 0=y0 at*;generalize hw:X.getD (j+ny-2) 0=w at*;have hB:(1:Nat)<BB:=by decide
 have hyp:0<y1:=by unfold BB at hb;omega
 have hg2:g≤BB+1:=by
  have h3:g*y1<(BB+2)*y1:=by
   have:(BB+2)*y1=y1*BB+2*y1:=by rw[Nat.add_mul,Nat.mul_comm BB]
   omega
  have:=Nat.lt_of_mul_lt_mul_right h3;omega
 have hg3:g<4294967298:=by unfold BB at hg2;omega
 have b1:u64.wrap ((y1:Nat):Int)=((y1:Nat):Int):=mQ _ (by unfold BB at y1l;omega);have b0:u64.wrap ((y0:Nat):Int)=((y0:Nat):Int):=mQ _ (by unfold BB at y0l;omega);have bw:u64.wrap ((w:Nat):Int)=((w:Nat):Int):=mQ _ (by unfold BB at wl;omega);have hgy:g*y0<18446744073709551616:=by
  have h4:g*y0≤(BB+1)*(BB-1):=Nat.mul_le_mul hg2 (by omega);have:(BB+1)*(BB-1)<18446744073709551616:=by decide
  omega
 have bg:u64.wrap (((g:Nat):Int)*((y0:Nat):Int))=((g*y0:Nat):Int):=by rw[←Int.natCast_mul];exact mQ _ hgy
 have bo:=agQ r w hr wl;have br:u64.wrap (((r:Nat):Int)+((y1:Nat):Int))=((r+y1:Nat):Int):=by
  rw[←Int.natCast_add];exact mQ _ (by unfold BB at hr y1l;omega)
 have c0:(bif decide ((g:Int)≥4294967296)then true else decide (0≤((ny-2:Nat):Int)∧((ny-2:Nat):Int)<((ny:Nat):Int))&&(decide (ny-2<Y.length)&&(decide ¬32<0&&(decide (0≤((j+ny-2:Nat):Int)∧((j+ny-2:Nat):Int)<((X.length:Nat):Int))&&(decide (j+ny-2<X.length)&&true)))))=true:=by
  cases decide ((g:Int)≥4294967296)
  ·simp only[cond_false,bI,dS];refine⟨⟨?_,?_⟩,?_,?_,⟨?_,?_⟩,?_,trivial⟩<;>omega
  ·rfl
 have c1:=Vl g r w y0;simp only[Oh,w0,w1,w2,w3,Int.toNat_natCast,hy1,hy0,hw,b1,b0,bw,bg,bo,br,c0,c1,aW,aO hY _,aO hX _,aO hO _];refine ah rfl (aj (λhgo=> ?_) (λhgo=> ?_))
 ·have hgo:=iX hgo
  obtain⟨t1,t2,t3⟩:=Vk hB hb y0l wl h hr hge hgo;have bm:u64.wrap (((g:Nat):Int)-1)=((g-1:Nat):Int):=by
   rw[show((g:Nat):Int)-1=((g-1:Nat):Int)by omega];exact mQ _ (by omega)
  simp only[bm];refine ah (dA) (ah (dA) (aj (λhr2=> ?_) (λhr2=> ?_)))
  ·have hr2:=iX hr2
   obtain⟨u1, -⟩:=Jw hB hb y0l wl t2 hHb t3 (.inr (by unfold BB;omega));refine ah rfl (ah rfl (ah rfl (ak ?_)))
   change R _
   have:g-1=wU y1 y0 w H:=by unfold wU;exact u1
   rw[this];exact hq
  ·have hr2:=of_decide_eq_false hr2
   refine ah rfl (ah rfl (ah rfl (ak ?_)));exact hin (g-1) (r+y1) t2 (by unfold BB;omega) t3 rfl
 ·have hgo:=of_decide_eq_false hgo
  obtain⟨u1, -⟩:=Jw hB hb y0l wl h hHb hge (.inl (by omega));refine ah rfl (ah rfl (ah rfl (ak ?_)))
  change R _
  have:g=wU y1 y0 w H:=by unfold wU;exact u1
  rw[←this]at hq;exact hq
theorem ab6(Y X O:List Nat)(hY:okD Y=true)(hX:okD X=true)(hO:okD O=true)(ny no j H:Nat)(s:Int)(h2:2≤ny)(hYl:Y.length=ny+1)(hXl:X.length=ny+no)(hj:j<no)(hn:X.length≤1000000000)
  (hb:BB≤2*Y.getD (ny-1) 0) (hHb:H<Y.getD (ny-1) 0*BB+BB) (Q:D2R→Prop)
  (hq:Q ((ny,s,X.length,(ny:Nat),O.length,(j:Nat),((wU (Y.getD (ny-1) 0) (Y.getD (ny-2) 0) (X.getD (j+ny-2) 0) H:Nat):Int),()),(Y,X,O,()))):
  ∀(k g r:Nat),g*Y.getD (ny-1) 0+r=H→r<BB→wU (Y.getD (ny-1) 0) (Y.getD (ny-2) 0) (X.getD (j+ny-2) 0) H≤g→BB≤r+k*Y.getD (ny-1) 0→
  aS (λx:D2X=>Oh x.1.1 x.1.2.1 x.1.2.2.1 x.1.2.2.2.1 x.1.2.2.2.2.1 x.1.2.2.2.2.2.1 x.1.2.2.2.2.2.2.1 x.1.2.2.2.2.2.2.2.1 x.2.1 x.2.2.1 x.2.2.2.1) Q k ((ny,s,X.length,(ny:Nat),O.length,(j:Nat),(g:Nat),(r:Nat),()),(Y,X,O,()))
 | 0,g,r,h,hr,hge,hk=>by
   rw[Nat.zero_mul,Nat.add_zero]at hk;exact absurd hr (Nat.not_lt.2 hk)
 | k+1,g,r,h,hr,hge,hk=>by
   rw[Nat.add_mul,Nat.one_mul]at hk;exact Zw Y X O hY hX hO ny no j H s h2 hYl hXl hj hn hb hHb g r h hr hge (λg' r' h' hr' hge' he=>ab6 Y X O hY hX hO ny no j H s h2 hYl hXl hj hn hb hHb Q hq k g' r' h' hr' hge' (by omega)) hq
end Go.bA
namespace Go.bA
open Go.Proofs
def EF(ny:Nat)(s:Int)(nx:Nat)(n:Int)(no:Nat)(j:Int)(g:Int)(b:Int)(c:Int)(N:Int)(i:Int)(Y:List Nat)(X:List Nat)(O:List Nat):Tr (D4X ⊕ D4R):=
 let x1:Int:= ↑ny
 let x2:Int:=i64.wrap (i+j)
 let x3:Int:= ↑nx
 let x4:Bool:=decide (0≤x2∧x2<x3)
 let x5:Nat:=x2.toNat
 let x6:Bool:=decide (x5<X.length)
 let x7:Int:=u64.wrap (c+u64.wrap (g*u64.wrap ↑(Y.getD i.toNat 0)))
 let x8:Int:=i64.wrap (i64.wrap (i64.wrap ↑(X.getD x5 0)-b)-i64.wrap (u32.wrap x7))
 let x9:Bool:=aJ Y.length (aB Y)
 let x10:Bool:=aJ O.length (aB O)
 let iW:List Nat:=aL Y.length (aB Y)
 Tr.ite (decide (i<N))
  (need (decide (0≤i∧i<x1))
   (need (decide (i.toNat<Y.length))
    (need x4
     (need x6
      (need true
       (Tr.ite (decide (x8<0))
        (need x4
         (need x6
          (need x9
           (need
            (aJ X.length (aT (aB X) x5 0 [IV.v (.int u32 (u32.wrap (i64.wrap (x8+4294967296))))].reverse))
            (need x10
             (ret
              (Sum.inl
               ((ny,s,nx,n,no,j,g,1,x7.fdiv (2^min (Int.toNat 32) u64.bits),N,i64.wrap (i+1),()),iW,
                 aL X.length
                  (aT (aB X) x5 0 [IV.v (.int u32 (u32.wrap (i64.wrap (x8+4294967296))))].reverse),
                 aL O.length (aB O),()))))))))
        (need x4
         (need x6
          (need x9
           (need (aJ X.length (aT (aB X) x5 0 [IV.v (.int u32 (u32.wrap x8))].reverse))
            (need x10
             (ret
              (Sum.inl
               ((ny,s,nx,n,no,j,g,0,x7.fdiv (2^min (Int.toNat 32) u64.bits),N,i64.wrap (i+1),()),iW,
                 aL X.length (aT (aB X) x5 0 [IV.v (.int u32 (u32.wrap x8))].reverse),aL O.length (aB O),
                 ()))))))))))))))
  (need x9
   (need (aJ X.length (aB X))
    (need x10 (ret (Sum.inr ((ny,s,nx,n,no,j,g,b,c,()),iW,aL X.length (aB X),aL O.length (aB O),()))))))
def EG(ny:Nat)(s:Int)(nx:Nat)(n:Int)(no:Nat)(j:Int)(g:Int)(c:Int)(N:Int)(i:Int)(Y:List Nat)(X:List Nat)(O:List Nat):Tr (D6X ⊕ D6R):=
 let x1:Int:=i64.wrap (i+j)
 let x2:Int:= ↑nx
 let x3:Bool:=decide (0≤x1∧x1<x2)
 let x4:Nat:=x1.toNat
 let x5:Bool:=decide (x4<X.length)
 let x6:Int:= ↑ny
 let x7:Bool:=aJ Y.length (aB Y)
 let x8:Int:=u64.wrap (c+u64.wrap (u64.wrap ↑(X.getD x4 0)+u64.wrap ↑(Y.getD i.toNat 0)))
 let x9:Bool:=aJ O.length (aB O)
 let x10:List Nat:=aL Y.length (aB Y)
 Tr.ite (decide (i<N))
  (need x3
   (need x5
    (need (decide (0≤i∧i<x6))
     (need (decide (i.toNat<Y.length))
      (need true
       (need x3
        (need x5
         (need x7
          (need (aJ X.length (aT (aB X) x4 0 [IV.v (.int u32 (u32.wrap x8))].reverse))
           (need x9
            (ret
             (Sum.inl
              ((ny,s,nx,n,no,j,g,x8.fdiv (2^min (Int.toNat 32) u64.bits),N,i64.wrap (i+1),()),x10,
                aL X.length (aT (aB X) x4 0 [IV.v (.int u32 (u32.wrap x8))].reverse),aL O.length (aB O),
                ())))))))))))))
  (need x7
   (need (aJ X.length (aB X))
    (need x9 (ret (Sum.inr ((ny,s,nx,n,no,j,g,c,()),x10,aL X.length (aB X),aL O.length (aB O),()))))))
theorem Zx(x:D4X):(exec prog (λ_=>none) dn 1010 (aR 4 (codeOf Tryz.f257)) (eY Oa.nIn (Oa.head x))).bind (Oa.fin 0 4)=EF x.1.1 x.1.2.1 x.1.2.2.1 x.1.2.2.2.1 x.1.2.2.2.2.1 x.1.2.2.2.2.2.1 x.1.2.2.2.2.2.2.1 x.1.2.2.2.2.2.2.2.1 x.1.2.2.2.2.2.2.2.2.1 x.1.2.2.2.2.2.2.2.2.2.1 x.1.2.2.2.2.2.2.2.2.2.2.1 x.2.1 x.2.2.1 x.2.2.2.1:=by
 obtain⟨⟨ny,s,nx,n,no,j,g,b,c,N,i,⟨⟩⟩,⟨Y,X,O,⟨⟩⟩⟩:=x
 kernel_rfl
theorem Zy(x:D6X):(exec prog (λ_=>none) dn 1010 (aR 6 (codeOf Tryz.f257)) (eY Ob.nIn (Ob.head x))).bind (Ob.fin 0 6)=EG x.1.1 x.1.2.1 x.1.2.2.1 x.1.2.2.2.1 x.1.2.2.2.2.1 x.1.2.2.2.2.2.1 x.1.2.2.2.2.2.2.1 x.1.2.2.2.2.2.2.2.1 x.1.2.2.2.2.2.2.2.2.1 x.1.2.2.2.2.2.2.2.2.2.1 x.2.1 x.2.2.1 x.2.2.2.1:=by
 obtain⟨⟨ny,s,nx,n,no,j,g,c,N,i,⟨⟩⟩,⟨Y,X,O,⟨⟩⟩⟩:=x
 kernel_rfl
theorem Zz(Y O:List Nat)(hY:okD Y=true)(hO:okD O=true)(ny j V g L:Nat)(s:Int)(hYl:ny<Y.length)(hL:j+ny<L)(hn:L≤1000000000)(hg:g<BB)
  (hP:g*aC Y≤V/BB^j+BB^(ny+1)) (i:Nat) (hi:i<ny) {R:D4X ⊕ D4R→Prop}
  (hin:R (.inl ((ny,s,L,(ny:Nat),O.length,(j:Nat),(g:Nat),((borrow (V/BB^j) (g*aC Y) (i+1):Nat):Int),((cD g (aC Y) (i+1):Nat):Int),(ny:Nat),((i+1:Nat):Int),()),(Y,dX V (Hg j ny g (aC Y) V) L (j+(i+1)),O,())))):
  (EF ny s L (ny:Nat) O.length (j:Nat) (g:Nat) ((borrow (V/BB^j) (g*aC Y) i:Nat):Int) ((cD g (aC Y) i:Nat):Int) (ny:Nat) (i:Nat) Y (dX V (Hg j ny g (aC Y) V) L (j+i)) O).sat R:=by
 have hy:=uw hY i (by omega);have hx:=kP V (Hg j ny g (aC Y) V) L (j+i) (j+i) (by omega);rw[if_neg (Nat.lt_irrefl _),iF]at hx;have hms:=oH V (Hg j ny g (aC Y) V) L (j+i) (by omega);have hz:Hg j ny g (aC Y) V/BB^(j+i)%BB=(V/BB^j/BB^i%BB+BB-borrow (V/BB^j) (g*aC Y) i-g*aC Y/BB^i%BB)%BB:=by
  unfold Hg;rw[Jy];unfold sbD;exact ab4 (V/BB^j) (g*aC Y) ny i hP (by omega)
 rw[hz]at hms;have hbs:=yG (V/BB^j) (g*aC Y) i;have hcs:=agV g (aC Y) i;have hcd:=ami g (aC Y) i;have hcl:=ap8 g (aC Y) i hg;have hbl:=zA (V/BB^j) (g*aC Y) i;have hyl:aC Y/BB^i%BB<BB:=Nat.mod_lt _ (by decide);have hxl:V/BB^j/BB^i%BB<BB:=Nat.mod_lt _ (by decide);generalize borrow (V/BB^j) (g*aC Y) i=b at*;generalize borrow (V/BB^j) (g*aC Y) (i+1)=b' at*;generalize cD g (aC Y) i=c at*;generalize cD g (aC Y) (i+1)=c' at*;generalize V/BB^j/BB^i%BB=x at*;generalize aC Y/BB^i%BB=y at*;have hgy:g*y≤4294967295*4294967295:=Nat.mul_le_mul (Nat.le_of_lt_succ hg) (Nat.le_of_lt_succ hyl);have hpl:g*aC Y/BB^i%BB<BB:=Nat.mod_lt _ (by decide);generalize g*aC Y/BB^i%BB=p at*;unfold BB at hcl hyl hxl hpl;have w0:i64.wrap ((i:Int)+(j:Int))=((j+i:Nat):Int):=kU;have w1:i64.wrap ((i:Int)+1)=((i+1:Nat):Int):=kU;have u1:u64.wrap ((y:Nat):Int)=((y:Nat):Int):=mQ _ (by omega);have u2:u64.wrap (((g:Nat):Int)*((y:Nat):Int))=((g*y:Nat):Int):=by rw[←Int.natCast_mul];exact mQ _ (by omega)
 have u3:u64.wrap (((c:Nat):Int)+((g*y:Nat):Int))=((c+g*y:Nat):Int):=by rw[←Int.natCast_add];exact mQ _ (by omega)
 have u4:u32.wrap ((c+g*y:Nat):Int)=((p:Nat):Int):=by rw[Ju, ←hcd]
 have u5:i64.wrap ((p:Nat):Int)=((p:Nat):Int):=wrap_i64 (by omega);have u6:i64.wrap ((x:Nat):Int)=((x:Nat):Int):=wrap_i64 (by omega);have u7:i64.wrap (((x:Nat):Int)-((b:Nat):Int))=((x:Nat):Int)-((b:Nat):Int):=wrap_i64 (by omega);have u8:i64.wrap (((x:Nat):Int)-((b:Nat):Int)-((p:Nat):Int))=((x:Nat):Int)-((b:Nat):Int)-((p:Nat):Int):=wrap_i64 (by omega);have f9:=aW (dX V (Hg j ny g (aC Y) V) L (j+i+1));rw[dL]at f9;have f1:=fA (dX V (Hg j ny g (aC Y) V) L (j+i)) (j+i) ((x+BB-b-p)%BB) (by rw[dL];omega);rw[hms]at f1;have c9:((i:Nat):Int)<((ny:Nat):Int):=by omega
 simp only[EF,w0,w1,Int.toNat_natCast,hy,hx,u1,u2,u3,u4,u5,u6,u7,u8,ame, ←hcs,aW,aO hY _,aO hO _,dL];refine aj (λ_=> ?_) (λh=>absurd c9 (of_decide_eq_false h));refine ah (dA) (ah (dA) (ah (dA) (ah (dA) (ah rfl (aj (λhlt=> ?_) (λhlt=> ?_))))))
 ·have hlt:=iX hlt
  have v1:u32.wrap (i64.wrap (((x:Nat):Int)-((b:Nat):Int)-((p:Nat):Int)+4294967296))=(((x+BB-b-p)%BB:Nat):Int):=by
   rw[wrap_i64 (by omega),wrap_u32];unfold BB;omega
  have hb':b'=1:=by rw[hbs,if_pos (by omega)]
  subst hb';simp only[v1,f1,f9,aO (kQ _ _ _ _) _];refine ah (dA) (ah (dA) (ah rfl (ah rfl (ah rfl (ak hin)))))
 ·have hlt:=of_decide_eq_false hlt
  have v1:u32.wrap (((x:Nat):Int)-((b:Nat):Int)-((p:Nat):Int))=(((x+BB-b-p)%BB:Nat):Int):=by
   rw[wrap_u32];unfold BB;omega
  have hb':b'=0:=by rw[hbs,if_neg (by omega)]
  subst hb';simp only[v1,f1,f9,aO (kQ _ _ _ _) _];refine ah (dA) (ah (dA) (ah rfl (ah rfl (ah rfl (ak hin)))))
theorem Vm(Y O:List Nat)(hY:okD Y=true)(hO:okD O=true)(ny L no:Nat)(s:Int)(j g b c:Int)(V Z k:Nat){R:D4X ⊕ D4R→Prop}
  (hq:R (.inr ((ny,s,L,(ny:Nat),no,j,g,b,c,()),(Y,dX V Z L k,O,())))):(EF ny s L (ny:Nat) no j g b c (ny:Nat) (ny:Nat) Y (dX V Z L k) O).sat R:=by
 have e:=aW (dX V Z L k);simp only[EF,e,aW,aO hY _,aO hO _,aO (kQ _ _ _ _) _];exact aj (λh=>absurd (iX h) (Int.lt_irrefl _)) (λ_=>ah rfl (ah rfl (ah rfl (ak hq))))
theorem ab7(Y O:List Nat)(hY:okD Y=true)(hO:okD O=true)(ny j V g L:Nat)(s:Int)(hYl:ny<Y.length)(hL:j+ny<L)(hn:L≤1000000000)(hg:g<BB)
  (hP:g*aC Y≤V/BB^j+BB^(ny+1)) (Q:D4R→Prop) (hq:Q ((ny,s,L,(ny:Nat),O.length,(j:Nat),(g:Nat),((borrow (V/BB^j) (g*aC Y) ny:Nat):Int),((cD g (aC Y) ny:Nat):Int),()),(Y,dX V (Hg j ny g (aC Y) V) L (j+ny),O,()))): ∀(k i:Nat),i+k=ny→
  aS (λx:D4X=>EF x.1.1 x.1.2.1 x.1.2.2.1 x.1.2.2.2.1 x.1.2.2.2.2.1 x.1.2.2.2.2.2.1 x.1.2.2.2.2.2.2.1 x.1.2.2.2.2.2.2.2.1 x.1.2.2.2.2.2.2.2.2.1 x.1.2.2.2.2.2.2.2.2.2.1 x.1.2.2.2.2.2.2.2.2.2.2.1 x.2.1 x.2.2.1 x.2.2.2.1) Q (k+1) ((ny,s,L,(ny:Nat),O.length,(j:Nat),(g:Nat),((borrow (V/BB^j) (g*aC Y) i:Nat):Int),((cD g (aC Y) i:Nat):Int),(ny:Nat),(i:Nat),()),(Y,dX V (Hg j ny g (aC Y) V) L (j+i),O,()))
 | 0,i,h=>by
   obtain rfl:i=ny:=by omega
   exact Vm Y O hY hO i L O.length s (j:Nat) (g:Nat) _ _ V _ _ hq
 | k+1,i,h=>Zz Y O hY hO ny j V g L s hYl hL hn hg hP i (by omega) (ab7 Y O hY hO ny j V g L s hYl hL hn hg hP Q hq k (i+1) (by omega))
theorem Xy(j Y Z i:Nat):Mf j Y Z/BB^(j+i)%BB=(Z/BB^j+Y)/BB^i%BB:=by unfold Mf;rw[Jy]
theorem ZA(Y O:List Nat)(hY:okD Y=true)(hO:okD O=true)(ny j V L:Nat)(s g:Int)(hYl:ny<Y.length)(hL:j+ny<L)(hn:L≤1000000000)(i:Nat)(hi:i<ny){R:D6X ⊕ D6R→Prop}
  (hin:R (.inl ((ny,s,L,(ny:Nat),O.length,(j:Nat),g,((carry (V/BB^j) (aC Y) (i+1):Nat):Int),(ny:Nat),((i+1:Nat):Int),()),(Y,dX V (Mf j (aC Y) V) L (j+(i+1)),O,())))):
  (EG ny s L (ny:Nat) O.length (j:Nat) g ((carry (V/BB^j) (aC Y) i:Nat):Int) (ny:Nat) (i:Nat) Y (dX V (Mf j (aC Y) V) L (j+i)) O).sat R:=by
 have hy:=uw hY i (by omega);have hx:=kP V (Mf j (aC Y) V) L (j+i) (j+i) (by omega);rw[if_neg (Nat.lt_irrefl _),iF]at hx;have hms:=oH V (Mf j (aC Y) V) L (j+i) (by omega);have hz:=Xy j (aC Y) V i;rw[Ez]at hz;rw[hz]at hms;have hcs:=carry_succ (V/BB^j) (aC Y) i;have hcl:=Jm (V/BB^j) (aC Y) i;have hyl:aC Y/BB^i%BB<BB:=Nat.mod_lt _ (by decide);have hxl:V/BB^j/BB^i%BB<BB:=Nat.mod_lt _ (by decide);generalize carry (V/BB^j) (aC Y) i=c at*;generalize carry (V/BB^j) (aC Y) (i+1)=c' at*;generalize V/BB^j/BB^i%BB=x at*;generalize aC Y/BB^i%BB=y at*;unfold BB at hyl hxl;have w0:i64.wrap ((i:Int)+(j:Int))=((j+i:Nat):Int):=kU;have w1:i64.wrap ((i:Int)+1)=((i+1:Nat):Int):=kU;have u1:u64.wrap ((y:Nat):Int)=((y:Nat):Int):=mQ _ (by omega);have u2:u64.wrap ((x:Nat):Int)=((x:Nat):Int):=mQ _ (by omega);have u3:u64.wrap (((x:Nat):Int)+((y:Nat):Int))=((x+y:Nat):Int):=by rw[←Int.natCast_add];exact mQ _ (by omega)
 have u4:u64.wrap (((c:Nat):Int)+((x+y:Nat):Int))=((c+x+y:Nat):Int):=by rw[←Int.natCast_add, ←Nat.add_assoc];exact mQ _ (by omega)
 have u5:u32.wrap ((c+x+y:Nat):Int)=(((c+x+y)%BB:Nat):Int):=Ju _;have f9:=aW (dX V (Mf j (aC Y) V) L (j+i+1));rw[dL]at f9;have f1:=fA (dX V (Mf j (aC Y) V) L (j+i)) (j+i) ((c+x+y)%BB) (by rw[dL];omega);rw[hms]at f1;have c9:((i:Nat):Int)<((ny:Nat):Int):=by omega
 simp only[EG,w0,w1,Int.toNat_natCast,hy,hx,u1,u2,u3,u4,u5,ame, ←hcs,aW,aO hY _,aO hO _,dL,f1,f9,aO (kQ _ _ _ _) _];refine aj (λ_=> ?_) (λh=>absurd c9 (of_decide_eq_false h))
 repeat first
  | refine ah rfl ?_
  | refine ah (dA) ?_
 exact ak hin
theorem Vn(Y O:List Nat)(hY:okD Y=true)(hO:okD O=true)(ny L no:Nat)(s:Int)(j g c:Int)(V Z k:Nat){R:D6X ⊕ D6R→Prop}
  (hq:R (.inr ((ny,s,L,(ny:Nat),no,j,g,c,()),(Y,dX V Z L k,O,())))):(EG ny s L (ny:Nat) no j g c (ny:Nat) (ny:Nat) Y (dX V Z L k) O).sat R:=by
 have e:=aW (dX V Z L k);simp only[EG,e,aW,aO hY _,aO hO _,aO (kQ _ _ _ _) _];exact aj (λh=>absurd (iX h) (Int.lt_irrefl _)) (λ_=>ah rfl (ah rfl (ah rfl (ak hq))))
theorem ab8(Y O:List Nat)(hY:okD Y=true)(hO:okD O=true)(ny j V L:Nat)(s g:Int)(hYl:ny<Y.length)(hL:j+ny<L)(hn:L≤1000000000)(Q:D6R→Prop)(hq:Q ((ny,s,L,(ny:Nat),O.length,(j:Nat),g,((carry (V/BB^j) (aC Y) ny:Nat):Int),()),(Y,dX V (Mf j (aC Y) V) L (j+ny),O,()))): ∀(k i:Nat),i+k=ny→
  aS (λx:D6X=>EG x.1.1 x.1.2.1 x.1.2.2.1 x.1.2.2.2.1 x.1.2.2.2.2.1 x.1.2.2.2.2.2.1 x.1.2.2.2.2.2.2.1 x.1.2.2.2.2.2.2.2.1 x.1.2.2.2.2.2.2.2.2.1 x.1.2.2.2.2.2.2.2.2.2.1 x.2.1 x.2.2.1 x.2.2.2.1) Q (k+1) ((ny,s,L,(ny:Nat),O.length,(j:Nat),g,((carry (V/BB^j) (aC Y) i:Nat):Int),(ny:Nat),(i:Nat),()),(Y,dX V (Mf j (aC Y) V) L (j+i),O,()))
 | 0,i,h=>by
   obtain rfl:i=ny:=by omega
   exact Vn Y O hY hO i L O.length s (j:Nat) g _ V _ _ hq
 | k+1,i,h=>ZA Y O hY hO ny j V L s g hYl hL hn i (by omega) (ab8 Y O hY hO ny j V L s g hYl hL hn Q hq k (i+1) (by omega))
end Go.bA
namespace Go.bA
theorem Rn(V Z L k:Nat)(hV:V<BB^k):dX V Z L k=bn (Z%BB^k) L:=by
 have:=sH (l:=dX V Z L k) (v:=Z%BB^k) λi hi=>by
  rw[dL]at hi;rw[kP _ _ _ _ _ hi]
  change _=Z%BB^k/BB^i%BB
  split
  ·rename_i h;rw[Xx Z k i h]
  ·rename_i h
   have hp:BB^k≤BB^i:=Nat.pow_le_pow_right (by decide) (by omega);have h2:Z%BB^k<BB^k:=Nat.mod_lt _ (Bu k);rw[Nat.div_eq_of_lt (Nat.lt_of_lt_of_le hV hp),Nat.div_eq_of_lt (Nat.lt_of_lt_of_le h2 hp)]
 rw[dL]at this;exact this
theorem ZB(T n j e:Nat)(hj:j<n)(h0:T/BB^j%BB=0)(he:e<BB):(bn T n).set j e=bn (T+BB^j*e) n:=by
 have hl:((bn T n).set j e).length=n:=by simp[bN]
 have:=sH (l:=(bn T n).set j e) (v:=T+BB^j*e) λk hk=> ?_
 ·rw[hl]at this;exact this
 ·rw[hl]at hk
  change _=(T+BB^j*e)/BB^k%BB
  have g:((bn T n).set j e).getD k 0=if k=j then e else(bn T n).getD k 0:=by
   simp only[dJ,List.getElem?_set,bN];by_cases b:k=j
   ·subst b;simp[hk]
   ·rw[if_neg (Ne.symm b),if_neg b]
  rw[g];have hT:=Nat.div_add_mod T (BB^j);by_cases b:k=j
  ·subst b
   rw[if_pos rfl,Nat.add_mul_div_left _ _ (Bu k),Nat.add_mod,h0,Nat.zero_add,Nat.mod_mod,Nat.mod_eq_of_lt he]
  ·rw[if_neg b,rC _ _ _ hk]
   by_cases c:k<j
   ·rw[C9 T e c]
   ·obtain⟨m,rfl⟩: ∃m,k=j+(m+1):=⟨k-j-1,by omega⟩
    rw[iF (T+_),iF T,Nat.add_mul_div_left _ _ (Bu j)];have e2: ∀U,U/BB^(m+1)=U/BB/BB^m:=λU=>by rw[Nat.add_comm,Nat.pow_add,Nat.pow_one, ←Nat.div_div_eq_div_mul]
    rw[e2,e2];have e3:(T/BB^j+e)/BB=T/BB^j/BB:=by
     have:=Nat.div_add_mod (T/BB^j) BB;rw[h0]at this
     conv=>lhs;rw[←this,Nat.add_zero,Nat.add_comm,Nat.add_mul_div_left _ _ (by decide),Nat.div_eq_of_lt he,Nat.zero_add]
    rw[e3]
theorem ap9(T E j n:Nat)(hT:T<BB^j)(hE:E<BB^(n+1)):(T+BB^j*(BB^(n+1)+E))%BB^(j+n+1)=T+BB^j*E:=by
 have e:T+BB^j*(BB^(n+1)+E)=T+BB^j*E+BB^(j+n+1)*1:=by
  rw[Nat.mul_add, ←Nat.pow_add,show j+(n+1)=j+n+1 by omega];omega
 rw[e,Nat.add_mul_mod_self_left,Nat.mod_eq_of_lt];have h2:BB^j*(E+1)≤BB^j*BB^(n+1):=Nat.mul_le_mul_left _ hE;rw[Nat.mul_add,Nat.mul_one, ←Nat.pow_add,show j+(n+1)=j+n+1 by omega]at h2;omega
theorem F4(Y:Nat){P:Nat}(hP:0<P):Y<(Y/P+1)*P:=by
 have h2:=Nat.div_add_mod Y P;have h3:=Nat.mod_lt Y hP;rw[Nat.add_mul,Nat.one_mul,Nat.mul_comm (Y/P)];omega
theorem asv{Y n:Nat}(h:Y<BB^n):Y/BB^n=0:=Nat.div_eq_of_lt h
structure Oi (A Y n j:Nat):Prop where
 hn:2≤n
 hY:Y<BB^n
 hY1:BB≤2*(Y/BB^(n-1))
namespace Oi
variable{A Y n j:Nat}
theorem yp(h:Oi A Y n j):0<Y:=by
 have h1:=h.hY1;rcases Nat.eq_zero_or_pos Y with h0|h0
 ·rw[h0,Nat.zero_div]at h1;exact absurd h1 (by decide)
 ·exact h0
theorem vlt(h:Oi A Y n j):A%(Y*BB^(j+1))<Y*BB^(j+1):=Nat.mod_lt _ (Nat.mul_pos h.yp (Bu _))
theorem wlt(h:Oi A Y n j):A%(Y*BB^(j+1))/BB^j<Y*BB:=by
 rw[Nat.div_lt_iff_lt_mul (Bu j)];refine Nat.lt_of_lt_of_le h.vlt (Nat.le_of_eq ?_);rw[Nat.pow_succ,Nat.mul_comm (BB^j), ←Nat.mul_assoc]
theorem aqa(h:Oi A Y n j):A%(Y*BB^(j+1))<BB^(j+n+1):=by
 refine Nat.lt_of_lt_of_le h.vlt ?_;have:Y*BB^(j+1)≤BB^n*BB^(j+1):=Nat.mul_le_mul_right _ (Nat.le_of_lt h.hY);rw[←Nat.pow_add,show n+(j+1)=j+n+1 by omega]at this;exact this
theorem asw(h:Oi A Y n j):A%(Y*BB^(j+1))/BB^j<BB^(n+1):=by
 rw[Nat.div_lt_iff_lt_mul (Bu j), ←Nat.pow_add,show n+1+j=j+n+1 by omega];exact h.aqa
theorem asx(h:Oi A Y n j):A%(Y*BB^(j+1))/BB^j/Y=A/Y/BB^j%BB:=by
 have e:Y*BB^(j+1)=Y*BB^j*BB:=by rw[Nat.pow_succ,Nat.mul_assoc]
 rw[Nat.div_div_eq_div_mul,Nat.mul_comm (BB^j),e,Nat.mod_mul_right_div_self,Nat.div_div_eq_div_mul]
theorem amj(h:Oi A Y n j):A%(Y*BB^(j+1))%BB^j+BB^j*(A%(Y*BB^(j+1))/BB^j-A%(Y*BB^(j+1))/BB^j/Y*Y)=A%(Y*BB^j):=by
 have e:Y*BB^(j+1)=Y*BB^j*BB:=by rw[Nat.pow_succ,Nat.mul_assoc]
 have e2:A%(Y*BB^j)=A%(Y*BB^(j+1))%(Y*BB^j):=by rw[e,Nat.mod_mul_right_mod]
 rw[e2];generalize A%(Y*BB^(j+1))=V;have h1:=Nat.div_add_mod V (BB^j);have h2:=Nat.div_add_mod (V/BB^j) Y;have h3:=Nat.mod_lt V (Bu j);have h4:=Nat.mod_lt (V/BB^j) h.yp;have e3:V/BB^j-V/BB^j/Y*Y=V/BB^j%Y:=by rw[Nat.mul_comm];omega
 rw[e3];have e4:V=V%BB^j+BB^j*(V/BB^j%Y)+Y*BB^j*(V/BB^j/Y):=by
  have:Y*BB^j*(V/BB^j/Y)=BB^j*(Y*(V/BB^j/Y)):=by simp only[Nat.mul_assoc,Nat.mul_comm,Nat.mul_left_comm]
  rw[this];have h5:BB^j*(V/BB^j)=BB^j*(Y*(V/BB^j/Y))+BB^j*(V/BB^j%Y):=by
   conv=>lhs;rw[←h2]
   rw[Nat.mul_add]
  omega
 conv=>rhs;rw[e4]
 rw[Nat.add_mul_mod_self_left];refine(Nat.mod_eq_of_lt ?_).symm;have h6:BB^j*(V/BB^j%Y+1)≤BB^j*Y:=Nat.mul_le_mul_left _ h4;rw[Nat.mul_add,Nat.mul_one,Nat.mul_comm _ Y]at h6;omega
theorem asy(h:Oi A Y n j):Y/BB^(n-1)<BB:=by
 have hn:=h.hn;rw[Nat.div_lt_iff_lt_mul (Bu _),Nat.mul_comm, ←Nat.pow_succ,show(n-1).succ=n by omega];exact h.hY
theorem y2(h:Oi A Y n j):Y/BB^(n-2)=Y/BB^(n-1)*BB+Y/BB^(n-2)%BB:=by
 have hn:=h.hn;have e:Y/BB^(n-1)=Y/BB^(n-2)/BB:=by
  rw[Nat.div_div_eq_div_mul, ←Nat.pow_succ,show(n-2).succ=n-1 by omega]
 rw[e];have:=Nat.div_add_mod (Y/BB^(n-2)) BB;rw[Nat.mul_comm]at this;exact this.symm
theorem w3(h:Oi A Y n j)(W:Nat):W/BB^(n-2)=W/BB^(n-1)*BB+W/BB^(n-2)%BB:=by
 have hn:=h.hn;have e:W/BB^(n-1)=W/BB^(n-2)/BB:=by
  rw[Nat.div_div_eq_div_mul, ←Nat.pow_succ,show(n-2).succ=n-1 by omega]
 rw[e];have:=Nat.div_add_mod (W/BB^(n-2)) BB;rw[Nat.mul_comm]at this;exact this.symm
theorem high(h:Oi A Y n j)(W:Nat)(hW:W<BB^(n+1)):W/BB^n%BB*BB+W/BB^(n-1)%BB=W/BB^(n-1):=by
 have hn:=h.hn;have e:W/BB^n=W/BB^(n-1)/BB:=by
  rw[Nat.div_div_eq_div_mul, ←Nat.pow_succ,show(n-1).succ=n by omega]
 have hlt:W/BB^n<BB:=by
  rw[Nat.div_lt_iff_lt_mul (Bu _),Nat.mul_comm, ←Nat.pow_succ];exact hW
 rw[Nat.mod_eq_of_lt hlt,e];have:=Nat.div_add_mod (W/BB^(n-1)) BB;rw[Nat.mul_comm]at this;exact this
theorem hlt(h:Oi A Y n j)(W:Nat)(hW:W<Y*BB):W/BB^(n-1)<Y/BB^(n-1)*BB+BB:=by
 rw[Nat.div_lt_iff_lt_mul (Bu _)];have h1:Y<(Y/BB^(n-1)+1)*BB^(n-1):=by
  have h2:=Nat.div_add_mod Y (BB^(n-1));have h3:=Nat.mod_lt Y (Bu (n-1));rw[Nat.add_mul,Nat.one_mul,Nat.mul_comm];omega
 have h2:Y*BB≤(Y/BB^(n-1)+1)*BB^(n-1)*BB:=Nat.mul_le_mul_right _ (Nat.le_of_lt h1);have e:(Y/BB^(n-1)+1)*BB^(n-1)*BB=(Y/BB^(n-1)*BB+BB)*BB^(n-1):=by
  rw[Nat.mul_right_comm,Nat.add_mul (Y/BB^(n-1)) 1 BB,Nat.one_mul]
 omega
theorem guess(h:Oi A Y n j)(W:Nat)(hW:W<Y*BB):W/Y≤wU (Y/BB^(n-1)) (Y/BB^(n-2)%BB) (W/BB^(n-2)%BB) (W/BB^(n-1))∧wU (Y/BB^(n-1)) (Y/BB^(n-2)%BB) (W/BB^(n-2)%BB) (W/BB^(n-1))≤W/Y+1∧wU (Y/BB^(n-1)) (Y/BB^(n-2)%BB) (W/BB^(n-2)%BB) (W/BB^(n-1))<BB:=by
 have hn:=h.hn;have hg:wU (Y/BB^(n-1)) (Y/BB^(n-2)%BB) (W/BB^(n-2)%BB) (W/BB^(n-1))=min (BB-1) (W/BB^(n-2)/(Y/BB^(n-2))):=by
  unfold wU;rw[←h.w3 W, ←h.y2]
 have h1:=Nat.div_add_mod Y (BB^(n-2));have h3:=Nat.mod_lt Y (Bu (n-2));have hb:BB≤Y/BB^(n-2):=by
  rw[h.y2];have h4:=h.hY1;have h5:1≤Y/BB^(n-1):=by
   rcases Nat.eq_zero_or_pos (Y/BB^(n-1))with h0|h0
   ·rw[h0]at h4;exact absurd h4 (by decide)
   ·exact h0
  have h6:1*BB≤Y/BB^(n-1)*BB:=Nat.mul_le_mul_right _ h5;rw[Nat.one_mul]at h6;exact Nat.le_trans h6 (Nat.le_add_right _ _)
 have:=ab3 (b:=BB) (Y2:=Y/BB^(n-2)) (P:=BB^(n-2)) (W:=W) (Y:=Y) (Bu _) (F4 Y (Bu _)) (Nat.div_mul_le_self _ _) hb hW hg;refine⟨this.1,this.2.1,?_⟩;rw[hg];have:=Nat.min_le_left (BB-1) (W/BB^(n-2)/(Y/BB^(n-2)));have h7:BB-1<BB:=by decide
 omega
theorem first(h:Oi A Y n j)(W:Nat):wU (Y/BB^(n-1)) (Y/BB^(n-2)%BB) (W/BB^(n-2)%BB) (W/BB^(n-1))≤W/BB^(n-1)/(Y/BB^(n-1)):=by
 unfold wU;refine Nat.le_trans (Nat.min_le_right _ _) ?_;have h1:0<Y/BB^(n-1):=by
  have h4:=h.hY1;rcases Nat.eq_zero_or_pos (Y/BB^(n-1))with h0|h0
  ·rw[h0]at h4;exact absurd h4 (by decide)
  ·exact h0
 generalize W/BB^(n-1)=H;generalize Y/BB^(n-1)=y at*;have hw:W/BB^(n-2)%BB<BB:=Nat.mod_lt _ (by decide);generalize W/BB^(n-2)%BB=w at*
 calc (H*BB+w)/(y*BB+Y/BB^(n-2)%BB)≤(H*BB+w)/(y*BB):=Nat.div_le_div_left (Nat.le_add_right _ _) (Nat.mul_pos h1 (by decide))
  _=(H*BB+w)/BB/y:=by rw[Nat.mul_comm y,Nat.div_div_eq_div_mul]
  _=H/y:=by rw[Nat.mul_comm H,Nat.add_comm,Nat.add_mul_div_left _ _ (by decide),Nat.div_eq_of_lt hw,Nat.zero_add]
end Oi
end Go.bA
namespace Go.bA
open Go.Proofs
theorem Da{ny:Nat}{s:Int}{nx:Nat}{n:Int}{no:Nat}{j:Int}{Y X O:List Nat}(h:KS ny s nx n no j Y X O=true):
  (ny:Int)=n∧Y.length=ny+1∧nx=X.length∧no=O.length∧nx=ny+no∧2≤ny∧nx≤1000000000∧okD Y=true∧okD X=true∧okD O=true∧aC Y<BB^ny∧0≤j∧j<no∧BB≤2*Y.getD (ny-1) 0:=by
 simpa only[KS,bI,dS]using h
theorem aqb:ou prog 0 2 (.loop (aR 2 (codeOf Tryz.f257))) (N9.g 0):=by
 refine bC.PO (N:=1010) aI eH (L:=dn) (aA 0 _) Zg Zu ?_;rintro⟨⟨ny,s,nx,n,no,j,g,r,⟨⟩⟩,⟨Y,X,O,⟨⟩⟩⟩ hx;have hx:Me ((ny,s,nx,n,no,j,g,r,()),(Y,X,O,()))=true:=hx;simp only[Me,bI,dS]at hx;obtain⟨hp,h1,h2,h3,h4,h5⟩:=hx;obtain⟨rfl,a2,rfl,rfl,a5,a6,a7,a8,a9,a10,a11,a12,a13,a14⟩:=Da hp;obtain⟨j,rfl⟩: ∃k:Nat,j=k:=⟨j.toNat,by omega⟩
 obtain⟨g,rfl⟩: ∃k:Nat,g=k:=⟨g.toNat,by omega⟩
 obtain⟨r,rfl⟩: ∃k:Nat,r=k:=⟨r.toNat,by omega⟩
 simp only[Vf,Int.toNat_natCast]at h4 h5;have:=ab6 Y X O a8 a9 a10 ny O.length j _ s a6 a2 a5 (by omega) a7 a14 h4 (· =N9.res ((ny,s,X.length,(ny:Nat),O.length,(j:Nat),(g:Nat),(r:Nat),()),(Y,X,O,()))) (by
  simp only[N9,lD,akN,Vf,Int.toNat_natCast]) 2 g r rfl (by unfold BB;omega) h5 (by omega)
 exact⟨_,this⟩
theorem aqc:ou prog 0 4 (.loop (aR 4 (codeOf Tryz.f257))) (Oa.g 0):=by
 refine bC.PO (N:=1010) aI eH (L:=dn) (aA 0 _) Zh Zx ?_;rintro⟨⟨ny,s,nx,n,no,j,g,b,c,N,i,⟨⟩⟩,⟨Y,X,O,⟨⟩⟩⟩ hx;have hx:Mg ((ny,s,nx,n,no,j,g,b,c,N,i,()),(Y,X,O,()))=true:=hx;simp only[Mg,bI,dS]at hx;obtain⟨hp,h1,h2,rfl,rfl,rfl,rfl,h7⟩:=hx;obtain⟨rfl,a2,rfl,rfl,a5,a6,a7,a8,a9,a10,a11,a12,a13,a14⟩:=Da hp;obtain⟨j,rfl⟩: ∃k:Nat,j=k:=⟨j.toNat,by omega⟩
 obtain⟨g,rfl⟩: ∃k:Nat,g=k:=⟨g.toNat,by omega⟩
 have hg:g<BB:=by unfold BB;omega
 have hP:g*aC Y≤aC X/BB^j+BB^(ny+1):=by
  have:g*aC Y≤BB*BB^ny:=Nat.mul_le_mul (Nat.le_of_lt hg) (Nat.le_of_lt a11);rw[Nat.mul_comm BB, ←Nat.pow_succ]at this;exact Nat.le_trans this (Nat.le_add_left _ _)
 have:=ab7 Y O a8 a10 ny j (aC X) g X.length s (by omega) (by omega) a7 hg hP (· =Oa.res ((ny,s,X.length,(ny:Nat),O.length,(j:Nat),(g:Nat),0,0,(ny:Nat),0,()),(Y,X,O,()))) (by
  simp only[Oa,lD,akO,Int.toNat_natCast,agW g (aC Y) ny a11]) ny 0 (by omega)
 have e1:borrow (aC X/BB^j) (g*aC Y) 0=0:=by simp[borrow,Nat.mod_one]
 have e2:cD g (aC Y) 0=0:=by simp[cD,Nat.mod_one]
 have e3:dX (aC X) (Hg j ny g (aC Y) (aC X)) X.length (j+0)=X:=by
  rw[Nat.add_zero,Hg,Jz,ig X a9]
 rw[e1,e2,e3]at this;exact⟨_,this⟩
theorem aqd:ou prog 0 6 (.loop (aR 6 (codeOf Tryz.f257))) (Ob.g 0):=by
 refine bC.PO (N:=1010) aI eH (L:=dn) (aA 0 _) Zi Zy ?_;rintro⟨⟨ny,s,nx,n,no,j,g,c,N,i,⟨⟩⟩,⟨Y,X,O,⟨⟩⟩⟩ hx;have hx:Mh ((ny,s,nx,n,no,j,g,c,N,i,()),(Y,X,O,()))=true:=hx;simp only[Mh,bI,dS]at hx;obtain⟨hp,rfl,rfl,rfl⟩:=hx;obtain⟨rfl,a2,rfl,rfl,a5,a6,a7,a8,a9,a10,a11,a12,a13,a14⟩:=Da hp;obtain⟨j,rfl⟩: ∃k:Nat,j=k:=⟨j.toNat,by omega⟩
 have:=ab8 Y O a8 a10 ny j (aC X) X.length s g (by omega) (by omega) a7 (· =Ob.res ((ny,s,X.length,(ny:Nat),O.length,(j:Nat),g,0,(ny:Nat),0,()),(Y,X,O,()))) (by
  simp only[Ob,lD,akP,Int.toNat_natCast]) ny 0 (by omega)
 have e1:carry (aC X/BB^j) (aC Y) 0=0:=by simp[carry,Nat.mod_one]
 have e3:dX (aC X) (Mf j (aC Y) (aC X)) X.length (j+0)=X:=by
  rw[Nat.add_zero,Mf,Jz,ig X a9]
 rw[e1,e3]at this;exact⟨_,this⟩
theorem amk:bB prog 0 LDi (aR 0 (codeOf Tryz.f257)):=by
 refine eP (d:=λid=>beq id 2 || (beq id 4 || beq id 6)) (λid=>by unfold LDi;cases beq id 2<;>cases beq id 4<;>cases beq id 6<;>rfl) _ ?_;have hb:bW (λid=>beq id 2 || (beq id 4 || beq id 6)) (aR 0 (codeOf Tryz.f257))=[(2,.loop (aR 2 (codeOf Tryz.f257))),(4,.loop (aR 4 (codeOf Tryz.f257))),(6,.loop (aR 6 (codeOf Tryz.f257)))]:=by kernel_rfl
 rw[hb];intro p hp g hg;simp only[List.mem_cons,List.not_mem_nil,or_false]at hp;rcases hp with rfl|rfl|rfl
 ·obtain rfl:g=N9.g 0:=(Option.some.inj hg).symm
  exact aqb
 ·obtain rfl:g=Oa.g 0:=(Option.some.inj hg).symm
  exact aqc
 ·obtain rfl:g=Ob.g 0:=(Option.some.inj hg).symm
  exact aqd
end Go.bA
namespace Go.bA
open Go.Proofs
def Bv(ny:Nat)(s:Int)(nx:Nat)(n:Int)(no:Nat)(j:Int)(Y:List Nat)(X:List Nat)(O:List Nat):Tr (D0X ⊕ D0R):=
 let x1:Int:=i64.wrap (j+n)
 let x2:Int:= ↑nx
 let x3:Bool:=decide (0≤x1∧x1<x2)
 let x4:Nat:=x1.toNat
 let x5:Int:=i64.wrap (x1-1)
 let x6:Nat:=x5.toNat
 let x7:Int:=i64.wrap (n-1)
 let x8:Int:= ↑ny
 let x9:Bool:=decide (0≤x7∧x7<x8)
 let x10:Nat:=x7.toNat
 let iW:Bool:=decide (x10<Y.length)
 let kL:Int:=u64.wrap ↑(Y.getD x10 0)
 let jA:Bool:=decide (kL≠0)
 let kM:Bool:=aJ X.length (aB X)
 let mO:Bool:=aJ O.length (aB O)
 let nu:Int:=u64.wrap
  ↑(BitVec.ofInt u64.bits (u64.wrap (u64.wrap ↑(X.getD x4 0)*2^min (Int.toNat 32) u64.bits)) |||
   BitVec.ofInt u64.bits (u64.wrap ↑(X.getD x6 0))).toNat
 let jR:Int:=u64.wrap (nu.tdiv kL)
 let x18:Int:=nu.tmod kL
 let rO:List Nat:=aL Y.length (aB Y)
 let x20:List Nat:=aL X.length (aB X)
 let x21:List Nat:=aL O.length (aB O)
 let xH:Nat:=rO.length
 let x23:Nat:=x20.length
 let x24:Nat:=x21.length
 let x25:Int:= ↑(Vf n j jR x18 rO x20)
 let xL:List Nat:=aL xH (aB rO)
 let x27:List Nat:=aL x23 (aB x20)
 let x28:List Nat:=aL x24 (aB x21)
 let x29:Nat:=aC x27
 let x30:Nat:=x25.toNat
 let x31:Nat:=aC xL
 let x32:Nat:=j.toNat+ny
 let Db:List Nat:=dX x29 (Hg j.toNat ny x30 x31 x29) nx x32
 let x34:Nat:=Db.length
 let x35:Bool:=decide (x4<x34)
 let Vo:Nat:=BB^j.toNat
 let Hl:Nat:=x30*x31
 let x38:Int:=i64.wrap (i64.wrap (i64.wrap ↑(Db.getD x4 0) - ↑(borrow (x29/Vo) Hl ny))-i64.wrap ↑(Hl/BB^ny))
 let x39:Nat:=xL.length
 let x40:Bool:=aJ x39 (aB xL)
 let x41:Bool:=aJ x34 (aT (aB Db) x4 0 [IV.v (.int u32 (u32.wrap x38))].reverse)
 let Tg:Nat:=x28.length
 let x43:Int:=u64.wrap (x25-1)
 let Vp:List Nat:=aL x39 (aB xL)
 let Vq:List Nat:=aL x34 (aT (aB Db) x4 0 [IV.v (.int u32 (u32.wrap x38))].reverse)
 let Vr:List Nat:=aL Tg (aB x28)
 let KT:Nat:=aC Vq
 let x48:Nat:=aC Vp
 let PS:List Nat:=dX KT (Mf j.toNat x48 KT) nx x32
 let ZC:Nat:=PS.length
 let Xz:Bool:=decide (x4<ZC)
 let x52:Int:= ↑no
 let x53:Bool:=decide (0≤j∧j<x52)
 let x54:Nat:=Vr.length
 let x55:Nat:=Vp.length
 Tr.ite (decide (j≥0))
  (need x3
   (need (decide (x4<X.length))
    (need true
     (need (decide (0≤x5∧x5<x2))
      (need (decide (x6<X.length))
       (need x9
        (need iW
         (need jA
          (need x9
           (need iW
            (need jA
             (need (aJ Y.length (aB Y))
              (need kM
               (need mO
                (need (Me ((ny,s,nx,n,no,j,jR,x18,()),rO,x20,x21,()))
                 (need (aJ xH (aB rO))
                  (need (aJ x23 (aB x20))
                   (need (aJ x24 (aB x21))
                    (need (Mg ((ny,s,nx,n,no,j,x25,0,0,n,0,()),xL,x27,x28,()))
                     (need x3
                      (need x35
                       (need x3
                        (need x35
                         (Tr.ite (decide (x38<0))
                          (need x40
                           (need x41
                            (need (aJ Tg (aB x28))
                             (need (Mh ((ny,s,nx,n,no,j,x43,0,n,0,()),Vp,Vq,Vr,()))
                              (need x3
                               (need Xz
                                (need x3
                                 (need Xz
                                  (need x53
                                   (need (decide (j.toNat<x54))
                                    (need (aJ x55 (aB Vp))
                                     (need
                                      (aJ ZC
                                       (aT (aB PS) x4 0
                                        [IV.v
                                         (Value.int u32
                                          (u32.wrap
                                           (↑(PS.getD x4 0)+
                                            u32.wrap ↑(carry (KT/Vo) x48 ny))))].reverse))
                                      (need
                                       (aJ x54
                                        (aT (aB Vr) j.toNat 0
                                         [IV.v (.int u32 (u32.wrap x43))].reverse))
                                       (ret
                                        (Sum.inl
                                         ((ny,s,nx,n,no,i64.wrap (j-1),()),aL x55 (aB Vp),
                                           aL ZC
                                            (aT (aB PS) x4 0
                                             [IV.v
                                              (Value.int u32
                                               (u32.wrap
                                                (↑(PS.getD x4 0)+
                                                 u32.wrap ↑(carry (KT/Vo) x48 ny))))].reverse),
                                           aL x54
                                            (aT (aB Vr) j.toNat 0
                                             [IV.v (.int u32 (u32.wrap x43))].reverse),
                                           ()))))))))))))))))
                          (need x53
                           (need (decide (j.toNat<Tg))
                            (need x40
                             (need x41
                              (need
                               (aJ Tg
                                (aT (aB x28) j.toNat 0 [IV.v (.int u32 (u32.wrap x25))].reverse))
                               (ret
                                (Sum.inl
                                 ((ny,s,nx,n,no,i64.wrap (j-1),()),Vp,Vq,
                                   aL Tg
                                    (aT (aB x28) j.toNat 0
                                     [IV.v (.int u32 (u32.wrap x25))].reverse),
                                   ()))))))))))))))))))))))))))))))))
  (need kM (need mO (ret (Sum.inr ((s,nx,n,no,()),x20,x21,())))))
theorem ZE(x:D0X):(exec prog (λ_=>none) LDi 1010 (aR 0 (codeOf Tryz.f257)) (eY Oc.nIn (Oc.head x))).bind (Oc.fin 0 0)=Bv x.1.1 x.1.2.1 x.1.2.2.1 x.1.2.2.2.1 x.1.2.2.2.2.1 x.1.2.2.2.2.2.1 x.2.1 x.2.2.1 x.2.2.2.1:=by
 obtain⟨⟨ny,s,nx,n,no,j,⟨⟩⟩,⟨Y,X,O,⟨⟩⟩⟩:=x
 kernel_rfl
theorem cB(n:Nat):((n:Nat):Int).toNat=n:=by omega
theorem ab9(W P n:Nat)(hW:W<BB^(n+1))(hP:P<BB^(n+1)):W/BB^n%BB<borrow W P n+P/BB^n%BB↔W<P:=by
 have h:=yG W P n;have h2:borrow W P (n+1)=if W<P then 1 else 0:=by unfold borrow;rw[Nat.mod_eq_of_lt hW,Nat.mod_eq_of_lt hP]
 rw[h2]at h;by_cases a:W<P
 ·rw[if_pos a]at h
  by_cases b:W/BB^n%BB<borrow W P n+P/BB^n%BB
  ·exact⟨λ_=>a,λ_=>b⟩
  ·rw[if_neg b]at h;exact absurd h (by decide)
 ·rw[if_neg a]at h
  by_cases b:W/BB^n%BB<borrow W P n+P/BB^n%BB
  ·rw[if_pos b]at h;exact absurd h (by decide)
  ·exact⟨λc=>absurd c b,λc=>absurd c a⟩
theorem aml(Q j m:Nat)(hj:j<m):(bn (Q/BB^(j+1)*BB^(j+1)) m).set j (Q/BB^j%BB)=bn (Q/BB^j*BB^j) m:=by
 have h0:Q/BB^(j+1)*BB^(j+1)/BB^j%BB=0:=by
  rw[Nat.pow_succ,Nat.mul_comm (BB^j) BB, ←Nat.mul_assoc,Nat.mul_div_cancel _ (Bu j),Nat.mul_mod_left]
 rw[ZB _ m j _ hj h0 (Nat.mod_lt _ (by decide))]
 congr 1
 have e:Q/BB^(j+1)=Q/BB^j/BB:=by rw[Nat.pow_succ,Nat.div_div_eq_div_mul]
 rw[e,Nat.pow_succ];have h1:=Nat.div_add_mod (Q/BB^j) BB;have e2:Q/BB^j/BB*(BB^j*BB)=BB^j*(BB*(Q/BB^j/BB)):=by simp only[Nat.mul_assoc,Nat.mul_comm,Nat.mul_left_comm]
 rw[e2, ←Nat.mul_add,h1,Nat.mul_comm]
theorem XA{ny no:Nat}(s:Int)(j:Nat){Y X O:List Nat}(h1:Y.length=ny+1)(h2:X.length=ny+no)(h3:O.length=no)(h4:2≤ny)(h5:ny+no≤1000000000)(h6:okD Y=true)(h7:okD X=true)(h8:okD O=true)(h9:aC Y<BB^ny)(h10:j<no)(h11:BB≤2*Y.getD (ny-1) 0):
  KS ny s (ny+no) (ny:Nat) no (j:Nat) Y X O=true:=by
 simp only[KS,bI,dS];exact⟨trivial,h1,h2.symm,h3.symm,trivial,h4,h5,h6,h7,h8,h9,by omega,by omega,h11⟩
theorem ZF(Y:List Nat)(hY:okD Y=true)(A n m j:Nat)(s:Int)(hYl:Y.length=n+1)(hR:Oi A (aC Y) n j)(hj:j<m)(hn:n+m≤1000000000){R:D0X ⊕ D0R→Prop}
  (hin:R (.inl ((n,s,n+m,(n:Nat),m,(j:Int)-1,()),(Y,bn (A%(aC Y*BB^j)) (n+m),bn (A/aC Y/BB^j*BB^j) m,())))):
  (Bv n s (n+m) (n:Nat) m (j:Nat) Y (bn (A%(aC Y*BB^(j+1))) (n+m)) (bn (A/aC Y/BB^(j+1)*BB^(j+1)) m)).sat R:=by
 have n2:=hR.hn;have yl:=hR.hY;have y1l:=hR.asy;have y1b:=hR.hY1;have gY1:Y.getD (n-1) 0=aC Y/BB^(n-1):=by rw[uw hY _ (by omega),Nat.mod_eq_of_lt y1l]
 have gY2:Y.getD (n-2) 0=aC Y/BB^(n-2)%BB:=uw hY _ (by omega);have hvn:=hR.amj;have hqe:=hR.asx;have hwl:=hR.wlt;have hwt:=hR.asw;have hvt:=hR.aqa;have hqn:=aml (A/aC Y) j m hj;obtain⟨V,hV⟩: ∃V,V=A%(aC Y*BB^(j+1)):=⟨_,rfl⟩
 rw[←hV]at hvn hqe hwl hwt hvt⊢;obtain⟨W,hW⟩: ∃W,W=V/BB^j:=⟨_,rfl⟩
 have gX0:(bn V (n+m)).getD (j+n) 0=W/BB^n%BB:=by rw[rC _ _ _ (by omega),iF,hW]
 have gX1:(bn V (n+m)).getD (j+n-1) 0=W/BB^(n-1)%BB:=by rw[show j+n-1=j+(n-1)by omega,rC _ _ _ (by omega),iF,hW]
 have gX2:(bn V (n+m)).getD (j+n-2) 0=W/BB^(n-2)%BB:=by rw[show j+n-2=j+(n-2)by omega,rC _ _ _ (by omega),iF,hW]
 rw[←hW]at hvn hqe hwl hwt;have hhi:=hR.high W hwt;have hhl:=hR.hlt W hwl;obtain⟨g1,g2,g3⟩:=hR.guess W hwl;have alu:=hR.first W;have hvL:aC (bn V (n+m))=V:=d9 _ _ (Nat.lt_of_lt_of_le hvt (Nat.pow_le_pow_right (by decide) (by omega)));generalize hy1:aC Y/BB^(n-1)=y1 at*;generalize hy0:aC Y/BB^(n-2)%BB=y0 at*;generalize hH:W/BB^(n-1)=H at*;generalize hw0:W/BB^(n-2)%BB=w at*;have al:W/BB^n%BB<BB:=Nat.mod_lt _ (by decide);have bl:H%BB<BB:=Nat.mod_lt _ (by decide);have y1p:0<y1:=by unfold BB at y1b;omega
 have as5:y1<4294967296:=y1l;have w0:i64.wrap (((j:Nat):Int)+((n:Nat):Int))=((j+n:Nat):Int):=kU;have w1:i64.wrap (((j+n:Nat):Int)-1)=((j+n-1:Nat):Int):=kU;have w2:i64.wrap (((n:Nat):Int)-1)=((n-1:Nat):Int):=kU;have w3:i64.wrap (((j:Nat):Int)-1)=((j:Nat):Int)-1:=wrap_i64 (by omega);have ho:=agQ (W/BB^n%BB) (H%BB) al bl;rw[hhi]at ho;have asz:H<18446744073709551616:=by
  have:W/BB^n%BB*BB≤4294967295*BB:=Nat.mul_le_mul_right _ (Nat.le_of_lt_succ al);unfold BB at*;omega
 have u1:u64.wrap ((W/BB^n%BB:Nat):Int)=((W/BB^n%BB:Nat):Int):=mQ _ (Nat.lt_trans al (by decide));have u2:u64.wrap ((H%BB:Nat):Int)=((H%BB:Nat):Int):=mQ _ (Nat.lt_trans bl (by decide));have u3:u64.wrap ((y1:Nat):Int)=((y1:Nat):Int):=mQ _ (by omega);have d1:((H:Nat):Int).tdiv ((y1:Nat):Int)=((H/y1:Nat):Int):=(Int.ofNat_tdiv _ _).symm;have d2:((H:Nat):Int).tmod ((y1:Nat):Int)=((H%y1:Nat):Int):=(Int.ofNat_tmod _ _).symm;have d3:u64.wrap ((H/y1:Nat):Int)=((H/y1:Nat):Int):=mQ _ (Nat.lt_of_le_of_lt (Nat.div_le_self _ _) asz);have hdm:H/y1*y1+H%y1=H:=by rw[Nat.mul_comm];exact Nat.div_add_mod H y1
 have hrl:H%y1<y1:=Nat.mod_lt _ y1p;have hq:Vf (n:Nat) (j:Nat) ((H/y1:Nat):Int) ((H%y1:Nat):Int) Y (bn V (n+m))=wU y1 y0 w H:=by
  simp only[Vf,Int.toNat_natCast,gY1,gY2,gX2,hdm]
 have pD:KS n s (n+m) (n:Nat) m (j:Nat) Y (bn V (n+m)) (bn (A/aC Y/BB^(j+1)*BB^(j+1)) m)=true:=
  XA s j hYl (bN _ _) (bN _ _) n2 hn hY (bZ _ _) (bZ _ _) yl hj (by rw[gY1];exact y1b)
 have p2:Me ((n,s,n+m,(n:Nat),m,(j:Nat),((H/y1:Nat):Int),((H%y1:Nat):Int),()),(Y,bn V (n+m),bn (A/aC Y/BB^(j+1)*BB^(j+1)) m,()))=true:=by
  simp only[Me,pD,hq,bI,dS,Int.toNat_natCast,gY1,hdm];exact⟨trivial,by omega,by omega,by omega,hhl,alu⟩
 generalize hT:bn (A/aC Y/BB^(j+1)*BB^(j+1)) m=O at*;have hOl:O.length=m:=by rw[←hT];exact bN _ _
 have hOk:okD O=true:=by rw[←hT];exact bZ _ _
 have eO:aL m (aB O)=O:=by
  have:=aW O
  rwa [hOl]at this
 have eX:aL (n+m) (aB (bn V (n+m)))=bn V (n+m):=by
  have:=aW (bn V (n+m))
  rwa [bN]at this
 generalize wU y1 y0 w H=g at*;have p4:Mg ((n,s,n+m,(n:Nat),m,(j:Nat),((g:Nat):Int),0,0,(n:Nat),0,()),(Y,bn V (n+m),O,()))=true:=by
  simp only[Mg,pD,hvL,bI,dS,Int.toNat_natCast];exact⟨trivial,by omega,by unfold BB at g3;omega,trivial,trivial,trivial,trivial,hvt⟩
 have hPl:g*aC Y<BB^(n+1):=by
  rw[Nat.pow_succ,Nat.mul_comm (BB^n)];exact Nat.mul_lt_mul'' g3 yl
 have hPd:g*aC Y/BB^n<BB:=by
  rw[Nat.div_lt_iff_lt_mul (Bu n)];exact Nat.lt_of_lt_of_le hPl (Nat.le_of_eq (by rw[Nat.pow_succ,Nat.mul_comm]))
 have hsg:=ab9 W (g*aC Y) n hwt hPl;rw[Nat.mod_eq_of_lt hPd]at hsg;have gM:(dX V (Hg j n g (aC Y) V) (n+m) (j+n)).getD (j+n) 0=W/BB^n%BB:=by
  rw[kP _ _ _ _ _ (by omega),if_neg (Nat.lt_irrefl _),iF,hW]
 have hzd:Hg j n g (aC Y) V/BB^(j+n)%BB=(W/BB^n%BB+BB-borrow W (g*aC Y) n-g*aC Y/BB^n)%BB:=by
  unfold Hg;rw[Jy];unfold sbD;rw[←hW,ab4 W (g*aC Y) n n (Nat.le_trans (Nat.le_of_lt hPl) (Nat.le_add_left _ _)) (Nat.le_refl _),Nat.mod_eq_of_lt hPd]
 have hms:=oH V (Hg j n g (aC Y) V) (n+m) (j+n) (by omega);rw[hzd,Rn _ _ _ _ hvt]at hms;have hbl:=zA W (g*aC Y) n;have f1:=fA (dX V (Hg j n g (aC Y) V) (n+m) (j+n)) (j+n) ((W/BB^n%BB+BB-borrow W (g*aC Y) n-g*aC Y/BB^n)%BB) (by rw[dL];omega);rw[hms]at f1;obtain⟨Z,hZ⟩: ∃Z,Z=Hg j n g (aC Y) V%BB^(j+n+1):=⟨_,rfl⟩
 rw[←hZ]at f1;have eZ:aL (n+m) (aB (bn Z (n+m)))=bn Z (n+m):=by
  have:=aW (bn Z (n+m))
  rwa [bN]at this
 generalize ha:W/BB^n%BB=a at*;generalize hbo:borrow W (g*aC Y) n=bo at*;generalize hc:g*aC Y/BB^n=c at*;have al':a<4294967296:=al;have cl':c<4294967296:=hPd;have v1:i64.wrap ((a:Nat):Int)=((a:Nat):Int):=wrap_i64 (by omega);have v2:i64.wrap ((c:Nat):Int)=((c:Nat):Int):=wrap_i64 (by omega);have v3:i64.wrap (((a:Nat):Int)-((bo:Nat):Int))=((a:Nat):Int)-((bo:Nat):Int):=wrap_i64 (by omega);have v4:i64.wrap (((a:Nat):Int)-((bo:Nat):Int)-((c:Nat):Int))=((a:Nat):Int)-((bo:Nat):Int)-((c:Nat):Int):=wrap_i64 (by omega);have v5:u32.wrap (((a:Nat):Int)-((bo:Nat):Int)-((c:Nat):Int))=(((a+BB-bo-c)%BB:Nat):Int):=by rw[wrap_u32];unfold BB;omega
 simp only[Bv,w0,w1,w2,w3,cB,gX0,gX1,gY1,u1,u2,u3,ho,d1,d2,d3,bN,hOl,aW,eX,eO,hq,p2,p4,hvL,aO hY _,aO hOk _,aO (bZ _ _) _,dL,gM, ←hW,hbo,hc,v1,v2,v3,v4,v5,f1,eZ];refine aj (λ_=> ?_) (λh=>absurd (show(j:Int)≥0 by omega) (of_decide_eq_false h))
 repeat first
  | refine ah rfl ?_
  | refine ah (dA) ?_
 refine aj (λhlt=> ?_) (λhlt=> ?_)
 ·have hlt:=iX hlt
  have hWP:W<g*aC Y:=hsg.1 (by omega);have hgq:g=W/aC Y+1:=by
   rcases Nat.lt_or_ge (W/aC Y) g with h|h
   ·omega
   ·exfalso
    have h1:g*aC Y≤W/aC Y*aC Y:=Nat.mul_le_mul_right _ h;have h2:=Nat.div_mul_le_self W (aC Y);omega
  have hqY:W/aC Y*aC Y≤W:=Nat.div_mul_le_self _ _;have hgY:g*aC Y=W/aC Y*aC Y+aC Y:=by rw[hgq,Nat.add_mul,Nat.one_mul]
  obtain⟨D,hD⟩: ∃D,D=W+BB^(n+1)-g*aC Y:=⟨_,rfl⟩
  have hDl:D<BB^(n+1):=by omega
  have hvm:V%BB^j<BB^j:=Nat.mod_lt _ (Bu j);have hZe:Z=V%BB^j+BB^j*D:=by
   have e:Hg j n g (aC Y) V=V%BB^j+BB^j*D:=by unfold Hg sbD;rw[←hW,hD]
   rw[hZ,e,Nat.mod_eq_of_lt];have h2:BB^j*(D+1)≤BB^j*BB^(n+1):=Nat.mul_le_mul_left _ hDl;rw[Nat.mul_add,Nat.mul_one, ←Nat.pow_add,show j+(n+1)=j+n+1 by omega]at h2;omega
  have hZt:Z<BB^(j+n+1):=by rw[hZ];exact Nat.mod_lt _ (Bu _)
  have hZv:aC (bn Z (n+m))=Z:=d9 _ _ (Nat.lt_of_lt_of_le hZt (Nat.pow_le_pow_right (by decide) (by omega)));have hZm:Z%BB^j=V%BB^j:=by rw[hZe,Nat.add_mul_mod_self_left,Nat.mod_mod]
  have hZd:Z/BB^j=D:=by rw[hZe,Nat.add_mul_div_left _ _ (Bu j),Nat.div_eq_of_lt hvm,Nat.zero_add]
  have had:Mf j (aC Y) Z%BB^(j+n+1)=A%(aC Y*BB^j):=by
   have e:Mf j (aC Y) Z=V%BB^j+BB^j*(BB^(n+1)+(W-W/aC Y*aC Y)):=by
    unfold Mf;rw[hZm,hZd]
    congr 2
    omega
   rw[e,ap9 _ _ _ _ hvm (by omega),hvn]
  have hdg:=Xy j (aC Y) Z n;rw[Ez,asv yl,Nat.zero_mod,Nat.add_zero]at hdg;have hk:=Jm (Z/BB^j) (aC Y) n;have hm6:=oH Z (Mf j (aC Y) Z) (n+m) (j+n) (by omega);rw[Rn _ _ _ _ hZt,had,hdg]at hm6;have gZ:(dX Z (Mf j (aC Y) Z) (n+m) (j+n)).getD (j+n) 0=Z/BB^j/BB^n%BB:=by
   rw[kP _ _ _ _ _ (by omega),if_neg (Nat.lt_irrefl _),iF]
  have hzl:Z/BB^j/BB^n%BB<BB:=Nat.mod_lt _ (by decide);have p6:Mh ((n,s,n+m,(n:Nat),m,(j:Nat),((g-1:Nat):Int),0,(n:Nat),0,()),(Y,bn Z (n+m),O,()))=true:=by
   simp only[Mh,bI,dS];exact⟨XA s j hYl (bN _ _) hOl n2 hn hY (bZ _ _) hOk yl hj (by rw[gY1];exact y1b),trivial,trivial,trivial⟩
  simp only[hZv];generalize Z/BB^j/BB^n%BB=z at*;generalize carry (Z/BB^j) (aC Y) n=k at*;have x1:u64.wrap (((g:Nat):Int)-1)=((g-1:Nat):Int):=by
   rw[show((g:Nat):Int)-1=((g-1:Nat):Int)by omega];exact mQ _ (by unfold BB at g3;omega)
  have x2:u32.wrap ((g-1:Nat):Int)=((A/aC Y/BB^j%BB:Nat):Int):=by
   rw[Ju,Nat.mod_eq_of_lt (by omega), ←hqe];congr 1;omega
  have x3:u32.wrap ((k:Nat):Int)=((k:Nat):Int):=by rw[Ju,Nat.mod_eq_of_lt (by unfold BB;omega)]
  have x4:u32.wrap (((z:Nat):Int)+((k:Nat):Int))=(((k+z)%BB:Nat):Int):=by
   rw[←Int.natCast_add,Ju,Nat.add_comm]
  have f6:=fA (dX Z (Mf j (aC Y) Z) (n+m) (j+n)) (j+n) ((k+z)%BB) (by rw[dL];omega);rw[hm6]at f6;have fO:=fA O j (A/aC Y/BB^j%BB) (by rw[hOl];exact hj);rw[hqn]at fO;have e6:=aW (bn (A%(aC Y*BB^j)) (n+m));have e7:=aW (bn (A/aC Y/BB^j*BB^j) m);rw[bN]at e6 e7;simp only[x1,x2,x3,p6,gZ,x4,f6,fO,e6,e7,aO (bZ _ _) _]
  repeat first
   | refine ah rfl ?_
   | refine ah (dA) ?_
  exact ak hin
 ·have hlt:=of_decide_eq_false hlt
  have hWP:g*aC Y≤W:=Nat.le_of_not_lt λhh=>absurd (hsg.2 hh) (by omega)
  have hgq:g=W/aC Y:=Nat.le_antisymm ((Nat.le_div_iff_mul_le hR.yp).2 hWP) g1;have hZe:Z=A%(aC Y*BB^j):=by
   have e:Hg j n g (aC Y) V=V%BB^j+BB^j*(BB^(n+1)+(W-g*aC Y)):=by
    unfold Hg sbD;rw[←hW]
    congr 2
    omega
   rw[hZ,e,ap9 _ _ _ _ (Nat.mod_lt _ (Bu j)) (by omega),hgq];exact hvn
  have x2:u32.wrap ((g:Nat):Int)=((A/aC Y/BB^j%BB:Nat):Int):=by
   rw[Ju,Nat.mod_eq_of_lt g3, ←hqe,hgq]
  have fO:=fA O j (A/aC Y/BB^j%BB) (by rw[hOl];exact hj);rw[hqn]at fO;have e7:=aW (bn (A/aC Y/BB^j*BB^j) m);rw[bN]at e7;simp only[x2,fO,e7,hZe,aO (bZ _ _) _]
  repeat first
   | refine ah rfl ?_
   | refine ah (dA) ?_
  exact ak hin
theorem Vs(Y X O:List Nat)(hX:okD X=true)(hO:okD O=true)(n no L:Nat)(s:Int){R:D0X ⊕ D0R→Prop}(hL:X.length=L)(hl:O.length=no)
  (hq:R (.inr ((s,L,(n:Nat),no,()),(X,O,())))):(Bv n s L (n:Nat) no (-1) Y X O).sat R:=by
 have c:decide ((-1:Int)≥0)=false:=rfl;simp only[Bv,c,aW,aO hX _,aO hO _];exact aj (λh=>by cases h) (λ_=>ah rfl (ah rfl (ak hq)))
theorem acd(Y:List Nat)(hY:okD Y=true)(A n m:Nat)(s:Int)(hYl:Y.length=n+1)(hR: ∀j,Oi A (aC Y) n j)(hn:n+m≤1000000000)(Q:D0R→Prop)
  (hq:Q ((s,n+m,(n:Nat),m,()),(bn (A%aC Y) (n+m),bn (A/aC Y) m,()))): ∀(k:Nat),k≤m→
  aS (λx:D0X=>Bv x.1.1 x.1.2.1 x.1.2.2.1 x.1.2.2.2.1 x.1.2.2.2.2.1 x.1.2.2.2.2.2.1 x.2.1 x.2.2.1 x.2.2.2.1) Q (k+1) ((n,s,n+m,(n:Nat),m,(k:Int)-1,()),(Y,bn (A%(aC Y*BB^k)) (n+m),bn (A/aC Y/BB^k*BB^k) m,()))
 | 0,_=>by
   unfold aS
   change Tr.sat _ (Bv n s (n+m) (n:Nat) m (((0:Nat):Int)-1) Y (bn (A%(aC Y*BB^0)) (n+m)) (bn (A/aC Y/BB^0*BB^0) m))
   rw[Nat.pow_zero,Nat.mul_one,Nat.div_one,Nat.mul_one];exact Vs Y _ _ (bZ _ _) (bZ _ _) n m (n+m) s (bN _ _) (bN _ _) hq
 | k+1,hk=>by
   unfold aS;have e:((k+1:Nat):Int)-1=(k:Int):=by omega
   rw[e];exact ZF Y hY A n m k s hYl (hR k) (by omega) hn (acd Y hY A n m s hYl hR hn Q hq k (by omega))
end Go.bA
namespace Go.bA
open Go.Proofs
theorem amm{A Y n:Nat}(hn:2≤n)(hY:Y<BB^n)(h1:BB≤2*(Y/BB^(n-1)))(j:Nat):Oi A Y n j:=⟨hn,hY,h1⟩
theorem aqe:ou prog 0 0 (.loop (aR 0 (codeOf Tryz.f257))) (Oc.g 0):=by
 refine bC.PO (N:=1010) aI eH (L:=LDi) amk Zj ZE ?_;rintro⟨⟨ny,s,nx,n,no,j,⟨⟩⟩,⟨Y,X,O,⟨⟩⟩⟩ hx;have hx:Mi ((ny,s,nx,n,no,j,()),(Y,X,O,()))=true:=hx;simp only[Mi,bI,dS]at hx;obtain⟨hp,rfl,hO,hA⟩:=hx;obtain⟨rfl,a2,a3,a4,rfl,a6,a7,a8,a9,a10,a11,a12,a13,a14⟩:=Da hp;have gY1:Y.getD (ny-1) 0=aC Y/BB^(ny-1):=by
  rw[uw a8 _ (by omega),Nat.mod_eq_of_lt];rw[Nat.div_lt_iff_lt_mul (Bu _),Nat.mul_comm, ←Nat.pow_succ,show(ny-1).succ=ny by omega];exact a11
 rw[gY1]at a14;have:=acd Y a8 (aC X) ny no s a2 (amm a6 a11 a14) a7 (· =Oc.res ((ny,s,ny+no,(ny:Nat),no,(no:Int)-1,()),(Y,X,O,()))) (by
  simp only[Oc,lD,akQ]) no (Nat.le_refl _)
 have e1:bn (aC X%(aC Y*BB^no)) (ny+no)=X:=by
  have:=ig X a9;rw[←a3]at this;rw[Nat.mod_eq_of_lt hA,this]
 have e2:bn (aC X/aC Y/BB^no*BB^no) no=O:=by
  rw[Nat.div_div_eq_div_mul,Nat.div_eq_of_lt hA,Nat.zero_mul,hO]
 rw[e1,e2]at this;exact⟨_,this⟩
theorem aqf:ou prog 0 8 (.loop (aR 8 (codeOf Tryz.f257))) (Od.g 0):=by
 refine bC.PO (N:=1010) aI eH (L:=dn) (aA 0 _) Zk Zt ?_;rintro⟨⟨s,nx,no,nr,N,i,⟨⟩⟩,⟨X,O,R,⟨⟩⟩⟩ hx;have hx:Mj ((s,nx,no,nr,N,i,()),(X,O,R,()))=true:=hx;simp only[Mj,bI,dS]at hx;obtain⟨rfl,rfl,h4,h5,h6,h7,rfl,h9,h10,rfl,rfl,hR⟩:=hx;obtain⟨s,rfl⟩: ∃k:Nat,s=k:=⟨s.toNat,by omega⟩
 have:=ab5 X O h6 h7 s nr (by omega) h4 h5 (· =Od.res (((s:Nat),X.length,O.length,nr,(nr:Nat),0,()),(X,O,bn 0 nr,()))) (by
  simp only[Od,lD,akR,Int.toNat_natCast]) nr 0 (by omega)
 rw[vI]at this;exact⟨_,this⟩
theorem aqg:bB prog 0 LD (codeOf Tryz.f257):=by
 refine eP (d:=λid=>beq id 0 || beq id 8) (λid=>by unfold LD;cases beq id 0<;>cases beq id 8<;>rfl) _ ?_;have hb:bW (λid=>beq id 0 || beq id 8) (codeOf Tryz.f257)=[(0,.loop (aR 0 (codeOf Tryz.f257))),(8,.loop (aR 8 (codeOf Tryz.f257)))]:=by kernel_rfl
 rw[hb];intro p hp g hg;simp only[List.mem_cons,List.not_mem_nil,or_false]at hp;rcases hp with rfl|rfl
 ·obtain rfl:g=Oc.g 0:=(Option.some.inj hg).symm
  exact aqe
 ·obtain rfl:g=Od.g 0:=(Option.some.inj hg).symm
  exact aqf
end Go.bA
namespace Go.bA
open Go.Proofs
def aqh:FuncId→Option Spec:=λf=>bif beq f 256 then some (au QJ)else bif beq f 126 then some (au NQ)else bif beq f 226 then some (au Y8)else bif beq f 259 then some (eB UD)else bif beq f 260 then some (au UU)else bif beq f 287 then some (eB KSg)else bif beq f 288 then some (au KLz)else bif beq f 289 then some (eB KSh)else none
theorem agX: ∀f s,aqh f=some s→aH prog f s:=step_ok CJ.spec (step_ok zi.spec (step_ok NV.spec (step_ok GU.spec (step_ok G7.spec (step_ok ap5.spec (step_ok ap4.spec (bM ap6.spec)))))))
def MDv(a:ByteArray)(b:ByteArray):Tr AV:=
 let x1:Bool:=decide (gI b≠0)
 let x2:Int:=u64.wrap ((gI a).tdiv (gI b))
 let x3:Int:=(gI a).tmod (gI b)
 let x4:List UInt8:=a.data.toList
 let x5:List UInt8:=b.data.toList
 let x6:Int:=gq ↑(aM x4) ↑(aM x5)
 let x7:Int:= ↑(bE x5.length)
 let x8:Bool:=decide (x4.length≤1000000000)
 let x9:Bool:=aJ (bE x4.length) (aB (bn (aM x4) (bE x4.length)))
 let x10:List Nat:=aL (bE x4.length) (aB (bn (aM x4) (bE x4.length)))
 let iW:Nat:=x10.length
 let kL:Bool:=decide (bE x4.length=iW)
 let jA:Bool:=okD x10
 let kM:List Nat:=bn (aM x5) (bE x5.length)
 let mO:Int:= ↑(kM.getD (Int.toNat 0) 0)
 let nu:Bool:=decide (bE x4.length≤1000000000)
 let jR:Nat:=aC x10
 let x18:Nat:=mO.toNat
 let rO:Int:=u64.wrap ↑(jR%x18)
 let x20:Int:=i64.wrap (x7-1)
 let x21:Nat:=x20.toNat
 let xH:Int:= ↑(kM.getD x21 0)
 let x23:Int:=32 - ↑(bitLen xH.toNat)
 let x24:Bool:=decide (0≤x23)
 let x25:Bool:=decide (x23<32)
 let xL:List Nat:=aL (bE x5.length) (aB kM)
 let x27:Nat:=xL.length
 let x28:Nat:=bE x5.length+1
 let x29:Int:= ↑x28
 let x30:Nat:=bE x4.length+1
 let x31:Nat:=x7.toNat
 let x32:Int:= ↑x31
 let Db:Int:=i64.wrap (↑x30-x32)
 let x34:Int:=((4:Nat):Int)
 let x35:Int:=x34*Db
 let Vo:Nat:=2^x23.toNat
 let Hl:Nat:=Db.toNat
 let x38:List Nat:=aL x28 (aB (bn (aC xL*Vo) x28))
 let x39:List Nat:=aL x30 (aB (bn (jR*Vo) x30))
 let x40:Int:=x34*x32
 let x41:Nat:=aC x39
 let Tg:Nat:=aC x38
 let x43:List Nat:=bn (x41%Tg) x30
 let Vp:Nat:=x43.length
 let Vq:List Nat:=bn (x41/Tg) Hl
 let Vr:Nat:=Vq.length
 let KT:Nat:=x32.toNat
 let x48:List Nat:=aL Vp (aB x43)
 let PS:List Nat:=aL Vr (aB Vq)
 let ZC:Nat:=PS.length
 let Xz:List Nat:=bn (aC x48/Vo) KT
 let x52:Nat:=Xz.length
 Tr.ite (fH a&&fH b)
  (need x1
   (need (iK x2)
    (need x1
     (need (iK x3)
      (ret
       (AV.fG
        [AV.c (.v (.string ⟨⟨aD x2.toNat⟩⟩)),AV.c (.v (.string ⟨⟨aD x3.toNat⟩⟩))]))))))
  (need (canon x4)
   (need (canon x5)
    (Tr.ite (decide (x6<0)) (ret (AV.fG [AV.c (.v (.string {data:= #[]})),AV.c (.v (.string a))]))
     (need (decide (x5.length≤1000000000))
      (Tr.ite (x7==1)
       (need x8
        (need (decide ((0:Int)≤0∧0<x7))
         (need (decide (Int.toNat 0<bE x5.length))
          (need x9
           (need kL
            (need jA
             (need (decide (0<mO))
              (need (decide (mO<4294967296))
               (need nu
                (need (decide (bE x4.length≤bE x4.length))
                 (need (aJ (bE x4.length) (aB (bn (jR/x18) (bE x4.length))))
                  (need nu
                   (need (iK rO)
                    (ret
                     (AV.fG
                      [AV.c
                        (IV.v
                         (Value.string
                          {data:={toList:=aD (aC (aL (bE x4.length) (aB (bn (jR/x18) (bE x4.length)))))}})),
                       AV.c (.v (.string ⟨⟨aD rO.toNat⟩⟩))])))))))))))))))
       (need (decide (0≤x20∧x20<x7))
        (need (decide (x21<bE x5.length))
         (need true
          (need (decide (xH<4294967296))
           (need x8
            (need x9
             (need kL
              (need jA
               (need x24
                (need x25
                 (need (decide (bE x4.length≤100000000))
                  (need (aJ (bE x5.length) (aB kM))
                   (need (decide (bE x5.length=x27))
                    (need (okD xL)
                     (need x24
                      (need x25
                       (need (decide (bE x5.length≤100000000))
                        (need (decide (0≤x7∧x7≤x29))
                         (need (decide (Db=Db))
                          (need (decide (0≤Db))
                           (need (decide (Db≤9223372036854775807))
                            (need (decide (x35≤140737488355328))
                             (need (aJ x28 (aB (bn (aC xL*Vo) x28)))
                              (need (aJ x30 (aB (bn (jR*Vo) x30)))
                               (need (aJ Hl λx=>List.map IV.v [Value.int u32 0])
                                (need
                                 (Mi
                                  ((x31,x23,x30,x32,Hl,i64.wrap (↑Hl-1),()),x38,x39,
                                    aL Hl λx=>List.map IV.v [Value.int u32 0],()))
                                 (need (decide (x32=x32))
                                  (need true
                                   (need (decide (x32≤9223372036854775807))
                                    (need (decide (x40≤140737488355328))
                                     (need (aJ Vp (aB x43))
                                      (need (aJ Vr (aB Vq))
                                       (need (aJ KT λx=>List.map IV.v [Value.int u32 0])
                                        (need
                                         (Mj
                                          ((x23,x30,Hl,KT,x32,0,()),x48,PS,
                                            aL KT λx=>List.map IV.v [Value.int u32 0],()))
                                         (need (decide (Hl≤ZC))
                                          (need (aJ Hl (aB PS))
                                           (need (decide (Hl≤1000000000))
                                            (need (decide (KT≤x52))
                                             (need (aJ KT (aB Xz))
                                              (need (decide (KT≤1000000000))
                                               (ret
                                                (AV.fG
                                                 [AV.c
                                                   (IV.v
                                                    (Value.string
                                                     {
                                                      data:=
                                                       {
                                                        toList:=
                                                         aD (aC (aL Hl (aB PS)))}})),
                                                  AV.c
                                                   (IV.v
                                                    (Value.string
                                                     {
                                                      data:=
                                                       {
                                                        toList:=
                                                         aD
                                                          (aC
                                                           (aL KT
                                                            (aB
                                                             Xz)))}}))])))))))))))))))))))))))))))))))))))))))))))))))
theorem amn(a b:ByteArray):aN prog aqh LD 1010 Tryz.f257 [.c (.v (.string a)),.c (.v (.string b))]=MDv a b:=by kernel_rfl
theorem ace{l:List UInt8}(h:canon l=true)(hl:l≠ []):256^(l.length-1)≤aM l:=by
 cases l with
 | nil=>exact absurd rfl hl
 | cons c l=>
   have hc:c≠0:=by simpa[canon]using h
   have h1:1≤c.toNat:=by
    rcases Nat.eq_zero_or_pos c.toNat with h0|h0
    ·exact absurd (UInt8.toNat_inj.1 (by simpa using h0)) hc
    ·exact h0
   rw[vG];simp only[List.length_cons,Nat.add_sub_cancel];have:=Nat.mul_le_mul_right (256^l.length) h1;omega
theorem amo{l:List UInt8}(h:canon l=true)(hl:l≠ []):BB^(bE l.length-1)≤aM l:=by
 refine Nat.le_trans ?_ (ace h hl);have e:BB=256^4:=by decide
 rw[e, ←Nat.pow_mul];refine Nat.pow_le_pow_right (by decide) ?_;unfold bE;omega
theorem ZG{b n:Nat}(hn:1≤n)(hb:BB^(n-1)≤b)(hb2:b<BB^n):bitLen (b/BB^(n-1))≤32∧1≤bitLen (b/BB^(n-1))∧b*2^(32-bitLen (b/BB^(n-1)))<BB^n∧2147483648≤b*2^(32-bitLen (b/BB^(n-1)))/BB^(n-1):=by
 have hP:=Bu (n-1);have ht:b/BB^(n-1)<BB:=by
  rw[Nat.div_lt_iff_lt_mul hP,Nat.mul_comm, ←Nat.pow_succ,show(n-1).succ=n by omega];exact hb2
 have ht1:1≤b/BB^(n-1):=(Nat.le_div_iff_mul_le hP).2 (by rw[Nat.one_mul];exact hb);have hlt:=F4 b hP;have hle:=Nat.div_mul_le_self b (BB^(n-1));have hBn:BB^n=BB*BB^(n-1):=by rw[Nat.mul_comm, ←Nat.pow_succ,show(n-1).succ=n by omega]
 generalize b/BB^(n-1)=t at*;have h32:bitLen t≤32:=bitLen_le.2 ht;have h1:1≤bitLen t:=by
  rcases Nat.eq_zero_or_pos (bitLen t)with h|h
  ·have:=(bitLen_le (n:=t) (k:=0)).1 (by omega)
   rw[Nat.pow_zero]at this;omega
  ·exact h
 have hup:t<2^bitLen t:=bitLen_le.1 (Nat.le_refl _);have hlo:2^(bitLen t-1)≤t:=by
  rcases Nat.lt_or_ge t (2^(bitLen t-1))with h|h
  ·have:=bitLen_le.2 h;omega
  ·exact h
 generalize bitLen t=k at*;refine⟨h32,h1,?_,?_⟩
 ·rw[hBn]
  have e:BB=2^k*2^(32-k):=by rw[←Nat.pow_add,show k+(32-k)=32 by omega]
  have h2:(t+1)*BB^(n-1)≤2^k*BB^(n-1):=Nat.mul_le_mul_right _ hup;have h3:b*2^(32-k)<2^k*BB^(n-1)*2^(32-k):=Nat.mul_lt_mul_of_pos_right (by omega) (Nat.pow_pos (by decide));rw[Nat.mul_right_comm, ←e]at h3;exact h3
 ·rw[Nat.le_div_iff_mul_le hP]
  have e:2147483648=2^(k-1)*2^(32-k):=by rw[←Nat.pow_add,show k-1+(32-k)=31 by omega]
  have h2:2^(k-1)*BB^(n-1)≤t*BB^(n-1):=Nat.mul_le_mul_right _ hlo;have h3:2^(k-1)*BB^(n-1)*2^(32-k)≤b*2^(32-k):=Nat.mul_le_mul_right _ (by omega);rw[e,Nat.mul_right_comm];exact h3
def uP(a b:ByteArray):AV:= .fG [nQ (aD (aM a.data.toList/aM b.data.toList)),nQ (aD (aM a.data.toList%aM b.data.toList))]
theorem ZH(a b:ByteArray)(hw:(fH a&&fH b)=true)(hb:aM b.data.toList≠0):(MDv a b).sat λr=>r=uP a b:=by
 simp only[bI]at hw;have ea:=oI a hw.1;have eb:=oI b hw.2;have ha:=rP a hw.1;have hb2:=rP b hw.2;unfold uP MDv;generalize aM a.data.toList=n at*;generalize aM b.data.toList=m at*;have hq:n/m≤n:=Nat.div_le_self _ _;have hr:n%m<m:=Nat.mod_lt _ (Nat.pos_of_ne_zero hb);have e1:u64.wrap ((gI a).tdiv (gI b))=((n/m:Nat):Int):=by
  rw[ea,eb, ←Int.ofNat_tdiv,wrap_u64];generalize n/m=q at*;omega
 have e2:(gI a).tmod (gI b)=((n%m:Nat):Int):=by
  rw[ea,eb];exact(Int.ofNat_tmod n m).symm
 refine aj (λ_=>ah ?_ (ah ?_ (ah ?_ (ah ?_ (ak ?_))))) (λh=> ?_)
 ·rw[eb];exact dA
 ·rw[e1];unfold iK;generalize n/m=q at*;simp;omega
 ·rw[eb];exact dA
 ·rw[e2];unfold iK;generalize n%m=q at*;simp;omega
 ·rw[e1,e2,Int.toNat_natCast,Int.toNat_natCast];rfl
 ·rw[hw.1,hw.2]at h;cases h
theorem acf(a b:ByteArray)(hw:(fH a&&fH b)=false)(ha:canon a.data.toList=true)(hb:canon b.data.toList=true)(h:aM a.data.toList<aM b.data.toList):(MDv a b).sat λr=>r=uP a b:=by
 have hs:decide (gq ((aM a.data.toList:Nat):Int) ((aM b.data.toList:Nat):Int)<0)=true:=by
  rw[uo,if_pos h];rfl
 unfold uP MDv;refine aj (λh=>by rw[hw]at h;cases h) (λ_=>ah ha (ah hb (aj (λ_=>ak ?_) (λh=>by rw[hs]at h;cases h))));rw[Nat.div_eq_of_lt h,Nat.mod_eq_of_lt h,gB,gX _ ha];rfl
theorem agY(a b:ByteArray)(hw:(fH a&&fH b)=false)(ha:canon a.data.toList=true)(hb:canon b.data.toList=true)(la:a.data.toList.length≤100000000)(lb:b.data.toList.length≤100000000)(h:aM b.data.toList≤aM a.data.toList)(h0:aM b.data.toList≠0)(h1:bE b.data.toList.length=1):
  (MDv a b).sat λr=>r=uP a b:=by
 have hs:decide (gq ((aM a.data.toList:Nat):Int) ((aM b.data.toList:Nat):Int)<0)=false:=by
  rw[uo,if_neg (by omega)];split<;>rfl
 have hda:=qm a;have hdb:=qm b;rw[h1,Nat.pow_one]at hdb;have nl:bE a.data.toList.length≤100000000:=by unfold bE;omega
 unfold uP;have g0:(bn (aM b.data.toList) 1).getD (Int.toNat 0) 0=aM b.data.toList:=by
  show aM b.data.toList%4294967296=_
  exact Nat.mod_eq_of_lt hdb
 have eA:aL (bE a.data.toList.length) (aB (bn (aM a.data.toList) (bE a.data.toList.length)))=bn (aM a.data.toList) (bE a.data.toList.length):=by
  have:=aW (bn (aM a.data.toList) (bE a.data.toList.length))
  rwa [bN]at this
 have eQ:aL (bE a.data.toList.length) (aB (bn (aM a.data.toList/aM b.data.toList) (bE a.data.toList.length)))=bn (aM a.data.toList/aM b.data.toList) (bE a.data.toList.length):=by
  have:=aW (bn (aM a.data.toList/aM b.data.toList) (bE a.data.toList.length))
  rwa [bN]at this
 have vA:=d9 _ _ hda;have vQ:=d9 _ _ (Nat.lt_of_le_of_lt (Nat.div_le_self _ (aM b.data.toList)) hda);simp only[MDv];generalize aM a.data.toList=A at*;generalize aM b.data.toList=d at*;have hr:A%d<d:=Nat.mod_lt _ (Nat.pos_of_ne_zero h0);have hd:d<4294967296:=hdb;have x1:u64.wrap ((A%d:Nat):Int)=((A%d:Nat):Int):=mQ _ (by omega);have x2:iK ((A%d:Nat):Int)=true:=by
  unfold iK;generalize A%d=q at*;simp only[bI,dS];omega
 have x3:(((1:Nat):Int)==1)=true:=rfl;simp only[h1,g0,eA,vA,cB,eQ,vQ,bN,x1,x2,x3,aO (bZ _ _) _,bZ,hs,hw];refine aj (λh=>by cases h) (λ_=>ah ha (ah hb (aj (λh=>by cases h) (λ_=>ah (dA) (aj (λ_=> ?_) (λh=>by cases h))))))
 repeat first
  | refine ah (dA) ?_
  | refine ah (Eq.refl true) ?_
 exact ak rfl
end Go.bA
namespace Go.bA
open Go.Proofs
theorem Vt{Y n:Nat}(hn:1≤n)(h:Y<BB^n):Y/BB^(n-1)<BB:=by
 refine(Nat.div_lt_iff_lt_mul (Bu _)).2 ?_;have:BB^n=BB*BB^(n-1):=by rw[Nat.mul_comm, ←Nat.pow_succ,show(n-1).succ=n by omega]
 omega
theorem acg(V n:Nat):aL n (aB (bn V n))=bn V n:=by
 have:=aW (bn V n)
 rwa [bN]at this
theorem ach{A B na ny s:Nat}(hn:2≤ny)(hA:A<BB^na)(hBl:BB^(ny-1)≤B)(hle:B≤A)(hY:B*2^s<BB^ny)(hY1:2147483648≤B*2^s/BB^(ny-1))(hs:s<32):
  ny≤na∧A*2^s<BB^(na+1)∧A*2^s<B*2^s*BB^(na+1-ny)∧A*2^s/(B*2^s)=A/B∧A*2^s%(B*2^s)/2^s=A%B∧A*2^s%(B*2^s)<BB^ny∧A*2^s/(B*2^s)<BB^(na+1-ny)∧A%B<BB^ny:=by
 have hna:ny≤na:=by
  apply Classical.byContradiction
  intro hn;have:BB^na≤BB^(ny-1):=Nat.pow_le_pow_right (by decide) (by omega);omega
 have hps:2^s≤2147483648:=by
  calc 2^s≤2^31:=Nat.pow_le_pow_right (by decide) (by omega)
   _=2147483648:=by decide
 have hp0:0<2^s:=Nat.pow_pos (by decide);have hB0:0<B:=Nat.lt_of_lt_of_le (Bu _) hBl;have hY0:0<B*2^s:=Nat.mul_pos hB0 hp0;have h1:A*2^s<BB^na*2147483648:=by
  have h2:A*2^s<BB^na*2^s:=Nat.mul_lt_mul_of_pos_right hA hp0;exact Nat.lt_of_lt_of_le h2 (Nat.mul_le_mul_left _ hps)
 have h3:BB^na*2147483648≤B*2^s*BB^(na+1-ny):=by
  have h4:2147483648*BB^(ny-1)≤B*2^s:=(Nat.le_div_iff_mul_le (Bu _)).1 hY1;have h5:2147483648*BB^(ny-1)*BB^(na+1-ny)≤B*2^s*BB^(na+1-ny):=Nat.mul_le_mul_right _ h4;rw[Nat.mul_assoc, ←Nat.pow_add,show ny-1+(na+1-ny)=na by omega,Nat.mul_comm 2147483648]at h5;exact h5
 have hX:A*2^s<B*2^s*BB^(na+1-ny):=Nat.lt_of_lt_of_le h1 h3;have hq:A*2^s/(B*2^s)=A/B:=Nat.mul_div_mul_right A B hp0;have hr:A*2^s%(B*2^s)=A%B*2^s:=Nat.mul_mod_mul_right _ _ _;refine⟨hna,?_,hX,hq,?_,Nat.lt_trans (Nat.mod_lt _ hY0) hY,?_,?_⟩
 ·refine Nat.lt_of_lt_of_le h1 ?_
  rw[Nat.pow_succ];exact Nat.mul_le_mul_left _ (by decide)
 ·rw[hr,Nat.mul_div_cancel _ hp0]
 ·exact(Nat.div_lt_iff_lt_mul hY0).2 (by rw[Nat.mul_comm (BB^(na+1-ny))];exact hX)
 ·refine Nat.lt_of_lt_of_le (Nat.mod_lt _ hB0) (Nat.le_trans ?_ (Nat.le_of_lt hY))
  exact Nat.le_mul_of_pos_right _ hp0
theorem aci(a b:ByteArray)(hw:(fH a&&fH b)=false)(ha:canon a.data.toList=true)(hb:canon b.data.toList=true)(la:a.data.toList.length≤100000000)(lb:b.data.toList.length≤100000000)(h:aM b.data.toList≤aM a.data.toList)(h0:b.data.toList≠ [])(h1:2≤bE b.data.toList.length):
  (MDv a b).sat λr=>r=uP a b:=by
 have hs:decide (gq ((aM a.data.toList:Nat):Int) ((aM b.data.toList:Nat):Int)<0)=false:=by
  rw[uo,if_neg (by omega)];split<;>rfl
 have hda:=qm a;have hdb:=qm b;have hBl:=amo hb h0;have na9:bE a.data.toList.length≤25000001:=by unfold bE;omega
 have ny9:bE b.data.toList.length≤25000001:=by unfold bE;omega
 unfold uP;simp only[MDv];generalize aM a.data.toList=A at*;generalize aM b.data.toList=B at*;generalize hny:bE b.data.toList.length=ny at*;generalize hna:bE a.data.toList.length=na at*;obtain⟨k1,k2,k3,k4⟩:=ZG (by omega) hBl hdb;have e1:i64.wrap (((ny:Nat):Int)-1)=((ny-1:Nat):Int):=kU;have g1:(bn B ny).getD (ny-1) 0=B/BB^(ny-1):=by
  rw[rC _ _ _ (by omega),Nat.mod_eq_of_lt (Vt (by omega) hdb)]
 have tl:B/BB^(ny-1)<4294967296:=by
  exact Vt (by omega) hdb
 have e2:(32:Int)-((bitLen (B/BB^(ny-1)):Nat):Int)=((32-bitLen (B/BB^(ny-1)):Nat):Int):=by omega
 generalize B/BB^(ny-1)=t at*;have hsl:32-bitLen t<32:=by omega
 generalize 32-bitLen t=s at*;obtain⟨n1,n2,n3,n4,n5,n6,n7,n8⟩:=ach h1 hda hBl h k3 k4 hsl;have e3:i64.wrap (((na+1:Nat):Int)-((ny:Nat):Int))=((na+1-ny:Nat):Int):=kU;have e4:i64.wrap (((na+1-ny:Nat):Int)-1)=((na+1-ny:Nat):Int)-1:=wrap_i64 (by omega);have vA:=d9 _ _ hda;have vB:=d9 _ _ hdb;have vX:=d9 _ _ n2;have vY:aC (bn (B*2^s) (ny+1))=B*2^s:=d9 _ _ (Nat.lt_of_lt_of_le k3 (Nat.pow_le_pow_right (by decide) (by omega)));have vR:aC (bn (A*2^s%(B*2^s)) (na+1))=A*2^s%(B*2^s):=d9 _ _ (Nat.lt_of_lt_of_le n6 (Nat.pow_le_pow_right (by decide) (by omega)));have vQ:=d9 _ _ n7;have vr:=d9 _ _ n8;have gY:(bn (B*2^s) (ny+1)).getD (ny-1) 0=B*2^s/BB^(ny-1):=by
  rw[rC _ _ _ (by omega),Nat.mod_eq_of_lt (Vt (by omega) k3)]
 have p0:Mi ((ny,(s:Nat),na+1,(ny:Nat),na+1-ny,((na+1-ny:Nat):Int)-1,()),(bn (B*2^s) (ny+1),bn (A*2^s) (na+1),bn 0 (na+1-ny),()))=true:=by
  simp only[Mi,KS,bN,vY,vX,bZ,bI,dS,gY];refine⟨⟨trivial,trivial,trivial,trivial,by omega,h1,by omega,trivial,trivial,trivial,k3,by omega,by omega,Nat.le_trans (show BB≤2*2147483648 by decide) (Nat.mul_le_mul_left 2 k4)⟩,trivial,trivial,n3⟩
 have p8:Mj (((s:Nat),na+1,na+1-ny,ny,(ny:Nat),0,()),(bn (A*2^s%(B*2^s)) (na+1),bn (A*2^s/(B*2^s)) (na+1-ny),bn 0 ny,()))=true:=by
  simp only[Mj,bN,vR,bZ,bI,dS];exact⟨trivial,trivial,by omega,by omega,trivial,trivial,trivial,by omega,by omega,trivial,trivial,n6⟩
 have x3:(((ny:Nat):Int)==1)=false:=by
  have: ¬((ny:Nat):Int)=1:=by omega
  simpa using this
 simp only[hs,hw,x3,cB,e1,g1,e2,acg,vA,vB,e3,e4,vX,vY,Mk,FY,p0,bN,aO (bZ _ _) _,bZ,vR,p8,vQ,n5,vr];refine aj (λh=>by cases h) (λ_=>ah ha (ah hb (aj (λh=>by cases h) (λ_=>ah (dA) (aj (λh=>by cases h) (λ_=> ?_))))))
 repeat first
  | refine ah (dA) ?_
  | refine ah (Eq.refl true) ?_
 refine ak ?_;rw[n4];rfl
theorem agZ(a b:ByteArray)(ha:canon a.data.toList=true)(hb:canon b.data.toList=true)(la:a.data.toList.length≤100000000)(lb:b.data.toList.length≤100000000)(h0:aM b.data.toList≠0):(MDv a b).sat λr=>r=uP a b:=by
 cases hw:(fH a&&fH b)with
 | true=>exact ZH a b hw h0
 | false=>
   rcases Nat.lt_or_ge (aM a.data.toList) (aM b.data.toList)with h|h
   ·exact acf a b hw ha hb h
   ·have hn:b.data.toList≠ []:=λhh=>by rw[hh]at h0;exact h0 rfl
    have hl:1≤b.data.toList.length:=by
     cases hh:b.data.toList with
     | nil=>exact absurd hh hn
     | cons c l=>simp
    rcases Nat.lt_or_ge (bE b.data.toList.length) 2 with h2|h2
    ·exact agY a b hw ha hb la lb h h0 (by unfold bE at*;omega)
    ·exact aci a b hw ha hb la lb h hn h2
abbrev FSS:Form (ByteArray×ByteArray×Unit):= .cons EA (.cons EA .nil)
def amq:List AV→Option (AV×List Bool):=FSS.K (λx=>uP x.1 x.2.1) λx=> [canon x.1.data.toList,canon x.2.1.data.toList,decide (x.1.data.toList.length≤100000000),decide (x.2.1.data.toList.length≤100000000),decide (aM x.2.1.data.toList≠0)]
theorem acj:aF prog 257 amq:=
 FSS.pl (L:=LD) agX (fn:=Tryz.f257) aqg (λ_=>rfl) (M:=λx=>MDv x.1 x.2.1) (λx=>amn x.1 x.2.1)
  λx h=>agZ x.1 x.2.1 (h _ (by simp)) (h _ (by simp)) (iX (h (decide (x.1.data.toList.length≤100000000)) (by simp))) (iX (h (decide (x.2.1.data.toList.length≤100000000)) (by simp))) (iX (h (decide (aM x.2.1.data.toList≠0)) (by simp)))
end Go.bA
namespace Go.bA
open Go.Proofs
def amr:FuncId→Option Spec:=λf=>bif beq f 111 then some (au Y7)else bif beq f 193 then some (au Uw)else bif beq f 226 then some (au Y8)else none
def ams:FuncId→Option Spec:=λf=>bif beq f 226 then some (au Y8)else bif beq f 225 then some (au abH)else bif beq f 227 then some (au abJ)else bif beq f 125 then some (au NM)else none
def amt:FuncId→Option Spec:=λf=>bif beq f 224 then some (au agI)else bif beq f 125 then some (au NM)else none
def amu(p:Bool)(q:Bool)(a:ByteArray)(b:ByteArray):Tr AV:=
 let x1:List UInt8:=a.data.toList
 let x2:List UInt8:=b.data.toList
 let x3:Int:=gq ↑(aM x1) ↑(aM x2)
 .ite (!p==q) (.need (fI p a) (.need (fI q b) (.ret (.c (.v (.int i64 (gq (gq (iv p a) 0) (gq (iv q b) 0)))))))) (.need (canon x1) (.need (canon x2) (.ite p (.ret (.c (.v (.int i64 (i64.wrap (0-x3)))))) (.ret (.c (.v (.int i64 x3)))))))
def amv(p:Bool)(q:Bool)(a:ByteArray)(b:ByteArray):Tr AV:=
 let x1:List UInt8:=a.data.toList
 let x2:List UInt8:=b.data.toList
 let x3:List UInt8:=aD (aM x1+aM x2)
 let x4:Int:=gq ↑(aM x1) ↑(aM x2)
 let x5:List UInt8:=aD (aM x1-aM x2)
 let x6:List UInt8:=aD (aM x2-aM x1)
 .ite (p==q) (.need (decide (x1.length≤100000000)) (.need (decide (x2.length≤100000000)) (.ret (AV.agg [.c (.v (.bool (p&& !x3==[]))),.c (.v (.string ⟨⟨x3⟩⟩))])))) (.need (canon x1) (.need (canon x2) (.ite (decide (x4≥0)) (.need (decide (x1.length≤100000000)) (.need (decide (x2.length≤100000000)) (.need (decide (aM x2≤aM x1)) (.ret (AV.agg [.c (.v (.bool (p&& !x5==[]))),.c (.v (.string ⟨⟨x5⟩⟩))]))))) (.need (decide (x2.length≤100000000)) (.need (decide (x1.length≤100000000)) (.need (decide (aM x1≤aM x2)) (.ret (AV.agg [.c (.v (.bool (q&& !x6==[]))),.c (.v (.string ⟨⟨x6⟩⟩))]))))))))
def amw(p:Bool)(q:Bool)(a:ByteArray)(b:ByteArray):Tr AV:=
 let x1:List UInt8:=a.data.toList
 let x2:List UInt8:=b.data.toList
 let x3:List UInt8:=aD (aM x1*aM x2)
 .need (decide (x1.length≤100000000)) (.need (decide (x2.length≤100000000)) (.ret (AV.agg [.c (.v (.bool (!p==q&& !x3==[]))),.c (.v (.string ⟨⟨x3⟩⟩))])))
theorem ag0(p q:Bool)(a b:ByteArray):aN prog amr dn 1010 Tryz.f241 [.agg [.c (.v (.bool p)),.c (.v (.string a))],.agg [.c (.v (.bool q)),.c (.v (.string b))]]=amu p q a b:=by kernel_rfl
theorem ag1(p q:Bool)(a b:ByteArray):aN prog ams dn 1010 Tryz.f176 [.agg [.c (.v (.bool p)),.c (.v (.string a))],.agg [.c (.v (.bool q)),.c (.v (.string b))]]=amv p q a b:=by kernel_rfl
theorem ag2(p q:Bool)(a b:ByteArray):aN prog amt dn 1010 Tryz.f173 [.agg [.c (.v (.bool p)),.c (.v (.string a))],.agg [.c (.v (.bool q)),.c (.v (.string b))]]=amw p q a b:=by kernel_rfl
def acn:List AV→Option (AV×List Bool)
 | [.agg [.c (.v (.bool p)),.c (.v (.string a))],.agg [.c (.v (.bool q)),.c (.v (.string b))]]=>some (bR .i64 (gq (iv p a) (iv q b)),[fI p a,fI q b])
 | _=>none
def ag3:List AV→Option (AV×List Bool)
 | [.agg [.c (.v (.bool p)),.c (.v (.string a))],.agg [.c (.v (.bool q)),.c (.v (.string b))]]=>some (bY (iv p a+iv q b),[fI p a,fI q b,decide (a.data.toList.length≤100000000),decide (b.data.toList.length≤100000000)])
 | _=>none
def ZI:List AV→Option (AV×List Bool)
 | [.agg [.c (.v (.bool p)),.c (.v (.string a))],.agg [.c (.v (.bool q)),.c (.v (.string b))]]=>some (bY (iv p a*iv q b),[fI p a,fI q b,decide (a.data.toList.length≤100000000),decide (b.data.toList.length≤100000000)])
 | _=>none
theorem ag4: ∀f s,amr f=some s→aH prog f s:=step_ok NU.spec (step_ok GN.spec (bM NV.spec))
theorem ag5: ∀f s,ams f=some s→aH prog f s:=step_ok NV.spec (step_ok Xt.spec (step_ok Xv.spec (bM zf.spec)))
theorem ag6: ∀f s,amt f=some s→aH prog f s:=step_ok agO.spec (bM zf.spec)
theorem je{p:Bool}{a:ByteArray}(h:fI p a=true):canon a.data.toList=true:=by simp only[fI,bI]at h;exact h.1
theorem XB{a:ByteArray}(h:fI true a=true):0<aM a.data.toList:=by
 have hc:=je h;refine Nat.pos_of_ne_zero λhz=> ?_
 have:=(jG hc).1 hz;simp[fI,this]at h
theorem vN(n:Nat):(aD n==[])=decide (n=0):=by
 by_cases h:n=0
 ·subst h;simp[gB]
 ·rw[iB h]
  have:aD n≠ []:=λhh=>h (I6 (hh.trans gB.symm))
  simpa using this
theorem pW(p:Bool)(n:Nat):AV.agg [bJ (p&& !aD n==[]),nQ (aD n)]=bY (bif p then -(n:Int)else(n:Int)):=by
 unfold bY;rw[vN];cases p with
 | true=>
   simp only[cond_true,Int.natAbs_neg,Int.natAbs_natCast,Bool.true_and];by_cases h:n=0
   ·subst h;rfl
   ·have h2: -(n:Int)<0:=by omega
    rw[dK h2,iB h];rfl
 | false=>
   simp only[cond_false,Int.natAbs_natCast,Bool.false_and];have h2: ¬(n:Int)<0:=by omega
   rw[iB h2];rfl
theorem aco(p q:Bool)(a b:ByteArray)(ha:fI p a=true)(hb:fI q b=true):(amu p q a b).sat λr=>r=bR .i64 (gq (iv p a) (iv q b)):=by
 have na:p=true→0<aM a.data.toList:=λh=>by subst h;exact XB ha
 have nb:q=true→0<aM b.data.toList:=λh=>by subst h;exact XB hb
 unfold amu;refine aj (λhw=>ah ha (ah hb (ak ?_))) (λhw=>ah (je ha) (ah (je hb) (aj (λhp=>ak ?_) (λhp=>ak ?_))))
 ·refine congrArg (bR .i64) ?_
  generalize aM a.data.toList=x at*;cases p<;>cases q
  ·cases hw
  ·have:=nb rfl
   simp only[iv,cond_true,cond_false,gq]
   repeat' split
   all_goals omega
  ·have:=na rfl
   simp only[iv,cond_true,cond_false,gq]
   repeat' split
   all_goals omega
  ·cases hw
 ·subst hp
  cases q with
  | false=>cases hw
  | true=>
    refine congrArg (bR .i64) ?_;simp only[iv,cond_true,gq]
    repeat' split
    all_goals first|rfl|(exact absurd rfl (by omega))|(exfalso;omega)|(rw[wrap_i64 (by omega)];omega)
 ·subst hp
  cases q with
  | true=>cases hw
  | false=>rfl
theorem acp(p q:Bool)(a b:ByteArray)(ha:fI p a=true)(hb:fI q b=true)(la:a.data.toList.length≤100000000)(lb:b.data.toList.length≤100000000):(amv p q a b).sat λr=>r=bY (iv p a+iv q b):=by
 unfold amv;refine aj (λhw=>ah (dK la) (ah (dK lb) (ak ?_))) (λhw=>ah (je ha) (ah (je hb) (aj (λh0=>ah (dK la) (ah (dK lb) (ah ?_ (ak ?_)))) (λh0=>ah (dK lb) (ah (dK la) (ah ?_ (ak ?_)))))))
 ·refine(pW p _).trans (congrArg bY ?_)
  obtain rfl:p=q:=eq_of_beq hw;cases p<;>simp only[iv,cond_true,cond_false]<;>omega
 ·have h0:=iX h0
  refine dK ?_;unfold gq at h0
  split at h0
  ·omega
  ·omega
 ·have h0:=iX h0
  have hle:aM b.data.toList≤aM a.data.toList:=by
   unfold gq at h0
   split at h0
   ·omega
   ·omega
  refine(pW p _).trans (congrArg bY ?_);cases p<;>cases q<;>first|(cases hw;done)|(simp only[iv,cond_true,cond_false];omega)
 ·have h0:=of_decide_eq_false h0
  refine dK ?_;unfold gq at h0
  split at h0
  ·omega
  ·split at h0<;>omega
 ·have h0:=of_decide_eq_false h0
  have hle:aM a.data.toList≤aM b.data.toList:=by
   unfold gq at h0
   split at h0
   ·omega
   ·split at h0<;>omega
  refine(pW q _).trans (congrArg bY ?_);cases p<;>cases q<;>first|(cases hw;done)|(simp only[iv,cond_true,cond_false];omega)
theorem acr(p q:Bool)(a b:ByteArray)(la:a.data.toList.length≤100000000)(lb:b.data.toList.length≤100000000):(amw p q a b).sat λr=>r=bY (iv p a*iv q b):=by
 unfold amw;refine ah (dK la) (ah (dK lb) (ak ((pW _ _).trans (congrArg bY ?_))));cases p<;>cases q<;>simp[iv,Int.natCast_mul,Int.neg_mul,Int.mul_neg]
theorem XC:aF prog 241 acn:=by
 refine vE ag4 (fn:=Tryz.f241) ?_ ?_
 ·intro args v cs h
  unfold acn at h
  split at h
  ·cases h;rfl
  ·cases h
 ·intro args v cs h hc
  unfold acn at h
  split at h
  ·rename_i p a q b
   cases h;have h1:fI p a=true:=hc (fI p a) (by simp);have h2:fI q b=true:=hc (fI q b) (by simp);have hs:=aco p q a b h1 h2;rw[←ag0]at hs;generalize aN prog amr dn 1010 Tryz.f241 [.agg [.c (.v (.bool p)),.c (.v (.string a))],.agg [.c (.v (.bool q)),.c (.v (.string b))]]=T at hs⊢;generalize gq (iv p a) (iv q b)=z at hs⊢;exact Tr.aZ (λr hr=>⟨by subst hr;rfl,bL.of_eq hr⟩) hs
  ·cases h
theorem ag7:aF prog 176 ag3:=by
 refine vE ag5 (fn:=Tryz.f176) ?_ ?_
 ·intro args v cs h
  unfold ag3 at h
  split at h
  ·cases h;rfl
  ·cases h
 ·intro args v cs h hc
  unfold ag3 at h
  split at h
  ·rename_i p a q b
   cases h;have h1:fI p a=true:=hc (fI p a) (by simp);have h2:fI q b=true:=hc (fI q b) (by simp);have h3:a.data.toList.length≤100000000:=dec (hc (decide (a.data.toList.length≤100000000)) (by simp));have h4:b.data.toList.length≤100000000:=dec (hc (decide (b.data.toList.length≤100000000)) (by simp));have hs:=acp p q a b h1 h2 h3 h4;rw[←ag1]at hs;generalize aN prog ams dn 1010 Tryz.f176 [.agg [.c (.v (.bool p)),.c (.v (.string a))],.agg [.c (.v (.bool q)),.c (.v (.string b))]]=T at hs⊢;generalize iv p a+iv q b=z at hs⊢;exact Tr.aZ (λr hr=>⟨by subst hr;rfl,bL.of_eq hr⟩) hs
  ·cases h
theorem Oj:aF prog 173 ZI:=by
 refine vE ag6 (fn:=Tryz.f173) ?_ ?_
 ·intro args v cs h
  unfold ZI at h
  split at h
  ·cases h;rfl
  ·cases h
 ·intro args v cs h hc
  unfold ZI at h
  split at h
  ·rename_i p a q b
   cases h;have h1:fI p a=true:=hc (fI p a) (by simp);have h2:fI q b=true:=hc (fI q b) (by simp);have h3:a.data.toList.length≤100000000:=dec (hc (decide (a.data.toList.length≤100000000)) (by simp));have h4:b.data.toList.length≤100000000:=dec (hc (decide (b.data.toList.length≤100000000)) (by simp));have hs:=acr p q a b h3 h4;rw[←ag2]at hs;generalize aN prog amt dn 1010 Tryz.f173 [.agg [.c (.v (.bool p)),.c (.v (.string a))],.agg [.c (.v (.bool q)),.c (.v (.string b))]]=T at hs⊢;generalize iv p a*iv q b=z at hs⊢;exact Tr.aZ (λr hr=>⟨by subst hr;rfl,bL.of_eq hr⟩) hs
  ·cases h
end Go.bA
namespace Go.bA
open Go.Proofs
def aY(d:Nat):List UInt8:=bif beq d 1 then []else aD d
def Bw(b:ByteArray):Nat:=bif b.data.toList==[]then 1 else aM b.data.toList
def av(q:Rat):List AV:=[.c (.v (.bool (decide (q.num<0)))),nQ (aD q.num.natAbs),.c (.v (.bool false)),nQ (aY q.den)]
def oK(q:Rat):AV:= .agg (av q)
def aK:List AV→Bool
 | [.c (.v (.bool p)),.c (.v (.string a)),.c (.v (.bool q)),.c (.v (.string b))]=>fI p a&& !q&&canon b.data.toList&& !(b.data.toList==[1])&&beq (Nat.gcd (aM a.data.toList) (Bw b)) 1
 | _=>false
def ay:List AV→Rat
 | [.c (.v (.bool p)),.c (.v (.string a)),.c (.v (.bool q)),.c (.v (.string b))]=>mkRat (iv p a) (Bw b)
 | _=>0
theorem mD(z:Int):iv (decide (z<0)) ⟨⟨aD z.natAbs⟩⟩=z:=by
 unfold iv
 show(bif decide (z<0)then -(aM (aD z.natAbs):Int)else(aM (aD z.natAbs):Int))=z
 rw[iM];by_cases h:z<0
 ·rw[dK h];simp only[cond_true];omega
 ·rw[iB h];simp only[cond_false];omega
theorem kR(z:Int):fI (decide (z<0)) ⟨⟨aD z.natAbs⟩⟩=true:=by
 unfold fI
 show(canon (aD z.natAbs)&&(!decide (z<0) || !(aD z.natAbs==[])))=true
 rw[wP,vN];by_cases h:z<0
 ·rw[dK h,iB (by omega)];rfl
 ·rw[iB h];rfl
theorem zF(d:Nat)(h:d≠0):Bw ⟨⟨aY d⟩⟩=d:=by
 unfold Bw aY
 show(bif (bif beq d 1 then []else aD d)==[]then 1 else aM (bif beq d 1 then []else aD d))=d
 cases hd:beq d 1 with
 | true=>simp only[cond_true];exact(Nat.eq_of_beq_eq_true hd).symm
 | false=>
   simp only[cond_false,iM,vN,iB h]
theorem Ro:aD 1=[1]:=by
 rw[sG (by omega),show(1:Nat)/256=0 from rfl,gB];rfl
theorem JA(d:Nat):canon (aY d)=true:=by
 unfold aY;cases beq d 1 with
 | true=>rfl
 | false=>exact wP d
theorem ag8(d:Nat):aY d≠ [1]:=by
 unfold aY;cases h:beq d 1 with
 | true=>simp
 | false=>
   intro hh;simp only[cond_false]at hh;rw[←Ro]at hh;have:=I6 hh;subst this;simp at h
theorem dP(q:Rat):aK (av q)=true:=by
 show(fI (decide (q.num<0)) ⟨⟨aD q.num.natAbs⟩⟩&& !false&&canon (aY q.den)&& !(aY q.den==[1])&&beq (Nat.gcd (aM (aD q.num.natAbs)) (Bw ⟨⟨aY q.den⟩⟩)) 1)=true
 rw[kR,JA,iM,zF _ q.den_nz];have h1:(aY q.den==[1])=false:=by
  have:=ag8 q.den;simpa using this
 have h2:Nat.gcd q.num.natAbs q.den=1:=q.reduced;rw[h1,h2];rfl
theorem bS(q:Rat):ay (av q)=q:=by
 show mkRat (iv (decide (q.num<0)) ⟨⟨aD q.num.natAbs⟩⟩) (Bw ⟨⟨aY q.den⟩⟩)=q
 rw[mD,zF _ q.den_nz];exact Rat.mkRat_self q
theorem dD{l:List AV}(h:aK l=true):l=av (ay l):=by
 unfold aK at h
 split at h
 ·rename_i p a q b
  simp only[bI,Bool.not_eq_true']at h;obtain⟨⟨⟨⟨h1,h2⟩,h3⟩,h4⟩,h5⟩:=h;subst h2;have h5:=Nat.eq_of_beq_eq_true h5;have hd:Bw b≠0:=by
   unfold Bw;cases hb:(b.data.toList==[])with
   | true=>simp
   | false=>
     simp only[cond_false];intro hz;rw[(jG h3).1 hz]at hb;simp at hb
  have hn:(iv p a).natAbs=aM a.data.toList:=by cases p<;>simp[iv]
  have hc:Nat.gcd (iv p a).natAbs (Bw b)=1:=by rw[hn];exact h5
  have hq:mkRat (iv p a) (Bw b)={num:=iv p a,den:=Bw b,den_nz:=hd,reduced:=hc}:=Rat.mkRat_self {num:=iv p a,den:=Bw b,den_nz:=hd,reduced:=hc}
  show _=av (mkRat (iv p a) (Bw b))
  rw[hq];have e1:=zk h1;unfold bY at e1;injection e1 with e1;have e2:b.data.toList=aY (Bw b):=by
   unfold Bw aY;cases hb:(b.data.toList==[])with
   | true=>simp only[cond_true];simpa using hb
   | false=>
     simp only[cond_false];cases h1:beq (aM b.data.toList) 1 with
     | true=>
       have:=Nat.eq_of_beq_eq_true h1;have h6:b.data.toList=[1]:=by rw[←gX b.data.toList h3,this,Ro]
       rw[h6]at h4;simp at h4
     | false=>simp only[cond_false];exact(gX b.data.toList h3).symm
  unfold av nQ;rw[←e2]
  show _::_::[_,_]=_
  injection e1 with e3 e4;injection e4 with e4 e5;rw[e3,e4];rfl
 ·cases h
theorem fP(q:Rat):ay [.c (.v (.bool (decide (q.num<0)))),.c (.v (.string ⟨⟨aD q.num.natAbs⟩⟩)),.c (.v (.bool false)),.c (.v (.string ⟨⟨aY q.den⟩⟩))]=q:=bS q
theorem eT(q:Rat):aK [.c (.v (.bool (decide (q.num<0)))),.c (.v (.string ⟨⟨aD q.num.natAbs⟩⟩)),.c (.v (.bool false)),.c (.v (.string ⟨⟨aY q.den⟩⟩))]=true:=dP q
theorem Ol(n d:Int)(h:0<d):av (Rat.divInt n d)=[.c (.v (.bool (decide (n/(Int.gcd n d:Int)<0)))),nQ (aD (n/(Int.gcd n d:Int)).natAbs),.c (.v (.bool false)),nQ (aY (d/(Int.gcd n d:Int)).natAbs)]:=by
 have e1:(Rat.divInt n d).num=n/(Int.gcd n d:Int):=by
  rw[Rat.num_divInt,Int.sign_eq_one_of_pos h,Int.one_mul,Int.gcd_comm]
 have e2:(Rat.divInt n d).den=(d/(Int.gcd n d:Int)).natAbs:=by
  rw[Rat.den_divInt,if_neg (by omega),Int.gcd_comm];have:=Int.natAbs_ediv_of_dvd (a:=d) (b:=(Int.gcd n d:Int)) (Int.gcd_dvd_right ..);rw[this,Int.natAbs_natCast]
 unfold av;rw[e1,e2]
def hold(q:Rat):Rat:=match q.num.natAbs with
 | 0=>q
 | _+1=>q
theorem fU(q:Rat):hold q=q:=by unfold hold;split<;>rfl
theorem mX(n:Int):ay [.c (.v (.bool (decide (n<0)))),.c (.v (.string ⟨⟨aD n.natAbs⟩⟩)),.c (.v (.bool false)),.c (.v (.string {data:= #[]}))]=(n:Rat):=bS (n:Rat)
theorem kV(n:Int):aK [.c (.v (.bool (decide (n<0)))),.c (.v (.string ⟨⟨aD n.natAbs⟩⟩)),.c (.v (.bool false)),.c (.v (.string {data:= #[]}))]=true:=dP (n:Rat)
theorem iN:ay [.c (.v (.bool false)),.c (.v (.string {data:= #[]})),.c (.v (.bool false)),.c (.v (.string {data:= #[]}))]=0:=by
 have h:=bS (0:Rat);unfold av nQ at h;rw[show(0:Rat).num.natAbs=0 from rfl,gB]at h;exact h
theorem gN:aK [.c (.v (.bool false)),.c (.v (.string {data:= #[]})),.c (.v (.bool false)),.c (.v (.string {data:= #[]}))]=true:=by
 have h:=dP (0:Rat);unfold av nQ at h;rw[show(0:Rat).num.natAbs=0 from rfl,gB]at h;exact h
def oU(N D:Nat)(q:Rat):Prop:=q.num.natAbs≤N∧q.den≤D
theorem oU.mono{N D N' D':Nat}{q:Rat}(h:oU N D q)(h1:N≤N')(h2:D≤D'):oU N' D' q:=⟨Nat.le_trans h.1 h1,Nat.le_trans h.2 h2⟩
theorem oU.divInt{n d:Int}{N D:Nat}(h:0<d)(h1:n.natAbs≤N)(h2:d.natAbs≤D):oU N D (Rat.divInt n d):=by
 constructor
 ·rw[Rat.num_divInt,Int.sign_eq_one_of_pos h,Int.one_mul]
  exact Nat.le_trans (Int.natAbs_ediv_le_natAbs _ _) h1
 ·rw[Rat.den_divInt,if_neg (by omega)]
  exact Nat.le_trans (Nat.div_le_self _ _) h2
theorem oU.add{x y:Rat}{N D N' D':Nat}(h:oU N D x)(h':oU N' D' y):oU (N*D'+N'*D) (D*D') (x+y):=by
 have hx:=x.den_pos;have hy:=y.den_pos;rw[Rat.add_def'];refine oU.divInt (n:=x.num*y.den+y.num*x.den) (d:=(x.den*y.den:Nat)) (by have:=Nat.mul_pos hx hy;omega) ?_ ?_
 ·refine Nat.le_trans (Int.natAbs_add_le _ _) ?_
  rw[Int.natAbs_mul,Int.natAbs_mul,Int.natAbs_natCast,Int.natAbs_natCast];exact Nat.add_le_add (Nat.mul_le_mul h.1 h'.2) (Nat.mul_le_mul h'.1 h.2)
 ·rw[Int.natAbs_natCast]
  exact Nat.mul_le_mul h.2 h'.2
theorem oU.mul{x y:Rat}{N D N' D':Nat}(h:oU N D x)(h':oU N' D' y):oU (N*N') (D*D') (x*y):=by
 have hx:=x.den_pos;have hy:=y.den_pos;rw[Rat.mul_def'];refine oU.divInt (n:=x.num*y.num) (d:=(x.den*y.den:Nat)) (by have:=Nat.mul_pos hx hy;omega) ?_ ?_
 ·rw[Int.natAbs_mul]
  exact Nat.mul_le_mul h.1 h'.1
 ·rw[Int.natAbs_natCast]
  exact Nat.mul_le_mul h.2 h'.2
theorem oU.neg{x:Rat}{N D:Nat}(h:oU N D x):oU N D (-x):=⟨by rw[Rat.neg_num,Int.natAbs_neg];exact h.1,by rw[Rat.neg_den];exact h.2⟩
theorem oU.int(n:Int):oU n.natAbs 1 (n:Rat):=⟨Nat.le_refl _,Nat.le_refl _⟩
end Go.bA
