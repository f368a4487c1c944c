/- Helpers for the proof: no statement of its own. -/
import Derived.Test.YtclnfoepcemloaaGreatDoorT00
import Derived.Test.YtclnfoepcemloaaGreatDoorT01
set_option linter.unusedVariables false
set_option linter.unusedSimpArgs false
set_option linter.unnecessarySimpa false
set_option linter.deprecated false
set_option maxRecDepth 1000000
namespace Go.bI
open Go.Proofs
def zW(x:List Nat)(b:List UInt8)(n:Int)(i:Int):Tr (wJ ⊕ wJ):=
 let x1:Int:= ↑x.length
 let x2:Int:= ↑b.length
 let x3:Int:=IntKind.i64.wrap (IntKind.i64.wrap (x2-1)-IntKind.i64.wrap (4*i))
 let x4:Int:=IntKind.i64.wrap (x3-0)
 let x5:Nat:=x4.toNat
 let x6:Int:=IntKind.i64.wrap (0+1)
 let x7:Int:=IntKind.i64.wrap (x3-x6)
 let x8:Nat:=x7.toNat
 let x9:Int:=IntKind.i64.wrap (x6+1)
 let x10:Int:=IntKind.i64.wrap (x3-x9)
 let fI:Nat:=x10.toNat
 let fU:Int:=IntKind.i64.wrap (x9+1)
 let iM:Int:=IntKind.i64.wrap (x3-fU)
 let iR:Nat:=iM.toNat
 let jH:Int:=IntKind.i64.wrap (x3-IntKind.i64.wrap (fU+1))
 let kE:Nat:=jH.toNat
 let jD:Int:= ↑(x.getD i.toNat 0)
 let x18:List Nat:=aL x.length (aD x)
 let lW:Int:=IntKind.i64.wrap (i+1)
 let x20:List UInt8:=bytesOf b.length (fP b)
 .ite (decide (i<n)) (.need (decide (0≤i∧i<x1)) (.ite true (.need true (.need (decide (0≤x4∧x4<x2)) (.need (decide (x5<b.length)) (.ite true (.need true (.need (decide (0≤x7∧x7<x2)) (.need (decide (x8<b.length)) (.ite true (.need true (.need (decide (0≤x10∧x10<x2)) (.need (decide (fI<b.length)) (.ite true (.need true (.need (decide (0≤iM∧iM<x2)) (.need (decide (iR<b.length)) (.ite false (.need true (.need (decide (0≤jH∧jH<x2)) (.need (decide (kE<b.length)) (.fail "rounds")))) (.need (decide (b.length=b.length)) (.need (aJ x.length (aD x)) (.need (isBytes b.length (aP (aP (aP (aP (fP b) x5 0 [IV.v (.int IntKind.u8 (IntKind.u8.wrap (jD.fdiv (2^min (IntKind.i64.wrap (8*0)).toNat IntKind.u32.bits))))].reverse) x8 0 [IV.v (.int IntKind.u8 (IntKind.u8.wrap (jD.fdiv (2^min (IntKind.i64.wrap (8*x6)).toNat IntKind.u32.bits))))].reverse) fI 0 [IV.v (.int IntKind.u8 (IntKind.u8.wrap (jD.fdiv (2^min (IntKind.i64.wrap (8*x9)).toNat IntKind.u32.bits))))].reverse) iR 0 [IV.v (.int IntKind.u8 (IntKind.u8.wrap (jD.fdiv (2^min (IntKind.i64.wrap (8*fU)).toNat IntKind.u32.bits))))].reverse)) (.ret (Sum.inl {x:=x18,b:=bytesOf b.length (aP (aP (aP (aP (fP b) x5 0 [IV.v (.int IntKind.u8 (IntKind.u8.wrap (jD.fdiv (2^min (IntKind.i64.wrap (8*0)).toNat IntKind.u32.bits))))].reverse) x8 0 [IV.v (.int IntKind.u8 (IntKind.u8.wrap (jD.fdiv (2^min (IntKind.i64.wrap (8*x6)).toNat IntKind.u32.bits))))].reverse) fI 0 [IV.v (.int IntKind.u8 (IntKind.u8.wrap (jD.fdiv (2^min (IntKind.i64.wrap (8*x9)).toNat IntKind.u32.bits))))].reverse) iR 0 [IV.v (.int IntKind.u8 (IntKind.u8.wrap (jD.fdiv (2^min (IntKind.i64.wrap (8*fU)).toNat IntKind.u32.bits))))].reverse),n:=n,i:=lW}))))))))) (.need (decide (b.length=b.length)) (.need (aJ x.length (aD x)) (.need (isBytes b.length (aP (aP (aP (fP b) x5 0 [IV.v (.int IntKind.u8 (IntKind.u8.wrap (jD.fdiv (2^min (IntKind.i64.wrap (8*0)).toNat IntKind.u32.bits))))].reverse) x8 0 [IV.v (.int IntKind.u8 (IntKind.u8.wrap (jD.fdiv (2^min (IntKind.i64.wrap (8*x6)).toNat IntKind.u32.bits))))].reverse) fI 0 [IV.v (.int IntKind.u8 (IntKind.u8.wrap (jD.fdiv (2^min (IntKind.i64.wrap (8*x9)).toNat IntKind.u32.bits))))].reverse)) (.ret (Sum.inl {x:=x18,b:=bytesOf b.length (aP (aP (aP (fP b) x5 0 [IV.v (.int IntKind.u8 (IntKind.u8.wrap (jD.fdiv (2^min (IntKind.i64.wrap (8*0)).toNat IntKind.u32.bits))))].reverse) x8 0 [IV.v (.int IntKind.u8 (IntKind.u8.wrap (jD.fdiv (2^min (IntKind.i64.wrap (8*x6)).toNat IntKind.u32.bits))))].reverse) fI 0 [IV.v (.int IntKind.u8 (IntKind.u8.wrap (jD.fdiv (2^min (IntKind.i64.wrap (8*x9)).toNat IntKind.u32.bits))))].reverse),n:=n,i:=lW}))))))))) (.need (decide (b.length=b.length)) (.need (aJ x.length (aD x)) (.need (isBytes b.length (aP (aP (fP b) x5 0 [IV.v (.int IntKind.u8 (IntKind.u8.wrap (jD.fdiv (2^min (IntKind.i64.wrap (8*0)).toNat IntKind.u32.bits))))].reverse) x8 0 [IV.v (.int IntKind.u8 (IntKind.u8.wrap (jD.fdiv (2^min (IntKind.i64.wrap (8*x6)).toNat IntKind.u32.bits))))].reverse)) (.ret (Sum.inl {x:=x18,b:=bytesOf b.length (aP (aP (fP b) x5 0 [IV.v (.int IntKind.u8 (IntKind.u8.wrap (jD.fdiv (2^min (IntKind.i64.wrap (8*0)).toNat IntKind.u32.bits))))].reverse) x8 0 [IV.v (.int IntKind.u8 (IntKind.u8.wrap (jD.fdiv (2^min (IntKind.i64.wrap (8*x6)).toNat IntKind.u32.bits))))].reverse),n:=n,i:=lW}))))))))) (.need (decide (b.length=b.length)) (.need (aJ x.length (aD x)) (.need (isBytes b.length (aP (fP b) x5 0 [IV.v (.int IntKind.u8 (IntKind.u8.wrap (jD.fdiv (2^min (IntKind.i64.wrap (8*0)).toNat IntKind.u32.bits))))].reverse)) (.ret (Sum.inl {x:=x18,b:=bytesOf b.length (aP (fP b) x5 0 [IV.v (.int IntKind.u8 (IntKind.u8.wrap (jD.fdiv (2^min (IntKind.i64.wrap (8*0)).toNat IntKind.u32.bits))))].reverse),n:=n,i:=lW}))))))))) (.need (decide (b.length=b.length)) (.need (aJ x.length (aD x)) (.need (isBytes b.length (fP b)) (.ret (Sum.inl {x:=x18,b:=x20,n:=n,i:=lW}))))))) (.need (decide (b.length=b.length)) (.need (aJ x.length (aD x)) (.need (isBytes b.length (fP b)) (.ret (Sum.inr {x:=x18,b:=x20,n:=n,i:=i})))))
def aoX(x:List Nat):Tr AV:=
 let x1:List Nat:=rE (aL x.length (aD x))
 let x2:Nat:=x1.length
 let x3:Int:= ↑x2
 let x4:Int:=IntKind.i64.wrap (4*x3)
 let x5:Int:= ↑1*x4
 let x6:Nat:=x4.toNat
 let x7:List Nat:=aL x2 (aD x1)
 let x8:Nat:=x7.length
 let x9:Int:= ↑x8
 let x10:Nat:=(bytesOf x6 λx=>List.map IV.v [Value.int IntKind.u8 0]).length
 let fI:Nat:=4*x8
 let fU:List UInt8:=OQ x7
 let iM:Nat:=fU.length
 .need (aJ x.length (aD x)) (.need (decide (x.length≤1000000000)) (.ite (x3==0) (.ret (.c (.v (.string {data:= #[]})))) (.need (decide (x4=x4)) (.need (decide (0≤x4)) (.need (decide (x4≤9223372036854775807)) (.need (decide (x5≤140737488355328)) (.need (decide (x6=x6)) (.need (aJ x2 (aD x1)) (.need (isBytes x6 λx=>List.map IV.v [Value.int IntKind.u8 0]) (.need (decide (x3=x9)&&decide (0=0)&&decide (x10=fI)&&okD x7&&decide (x8≤1000000000)) (.need (decide (iM≤iM)) (.need (isBytes iM (fP fU)) (.need true (.ret (.c (.v (.string ⟨⟨List.dropWhile (λx=>x==0) (bytesOf iM (fP fU))⟩⟩)))))))))))))))))
theorem Ve(w:Way wJ)(y:wJ):(exec Tryz.prog (λ_=>none) bX 1005 (bn 0 (codeOf Tryz.f260)) (iQ (JM w).nIn ((JM w).head y))).bind ((JM w).fin 0 0)=zW y.x y.b y.n y.i:=by
 obtain⟨x,b,n,i⟩:=y
 kernel_rfl
theorem ai0(x:List Nat):aI Tryz.prog aoW aal 1005 Tryz.f260 [.c (.sl x.length 1 (aD x))]=aoX x:=by kernel_rfl
theorem zX(l:List UInt8)(k b:Nat)(hk:k<l.length)(hb:b<256):aP (fP l) k 0 [IV.v (.int .u8 (b:Int))].reverse=fP (l.set k (UInt8.ofNat b)):=by
 funext i
 unfold aP;by_cases h:i=k
 ·subst h
  rw[if_pos rfl];simp[fP,dR,List.getElem?_set_self hk];omega
 ·rw[if_neg h]
  simp[fP,dR,List.getElem?_set_ne (Ne.symm h)]
theorem Yv(d k:Nat)(hk:k<4):IntKind.u8.wrap ((d:Int).fdiv (2^min (8*k) IntKind.u32.bits))=((d/256^k%256:Nat):Int):=by
 have e1:min (8*k) IntKind.u32.bits=8*k:=by
  change min (8*k) 32=8*k
  omega
 rw[e1];have e2:((2:Int)^(8*k))=((256^k:Nat):Int):=by
  rw[show(256:Nat)=2^8 from rfl, ←Nat.pow_mul];simp
 rw[e2,lH,wrap_u8];simp
theorem avC(A B:List UInt8)(y0 y1 y2 y3 c0 c1 c2 c3:UInt8):((((A++y3::y2::y1::y0::B).set (A.length+3) c0).set (A.length+2) c1).set (A.length+1) c2).set A.length c3=A++c3::c2::c1::c0::B:=by
 simp[List.set_append]
theorem Rj(d:Nat): ∀(l:List Nat),OQ (l++[d])=be4 d++OQ l
 | []=>by simp[OQ]
 | e::l=>by simp only[List.cons_append,OQ,Rj d l,List.append_assoc]
theorem Yw: ∀(l:List Nat),(OQ l).length=4*l.length
 | []=>rfl
 | d::l=>by simp only[OQ,List.length_append,Yw l,be4,List.length_cons,List.length_nil];omega
theorem Vf(x:List Nat)(hok:okD x=true)(hx:x.length≤1000000000)(i:Nat)(hi:i<x.length)(A B:List UInt8)(y0 y1 y2 y3:UInt8)(hA:A.length+4+4*i=4*x.length)(hB:B.length=4*i){R:wJ ⊕ wJ→Prop}
  (hin:R (.inl ⟨x,A++be4 (x.getD i 0)++B,(x.length:Nat),((i+1:Nat):Int)⟩)):(zW x (A++y3::y2::y1::y0::B) (x.length:Nat) (i:Nat)).sat R:=by
 have hlen:(A++y3::y2::y1::y0::B).length=4*x.length:=by simp only[List.length_append,List.length_cons];omega
 have w1:IntKind.i64.wrap (((4*x.length:Nat):Int)-1)=((4*x.length-1:Nat):Int):=jR;have w2:IntKind.i64.wrap (4*(i:Int))=((4*i:Nat):Int):=jR;have w3:IntKind.i64.wrap (((4*x.length-1:Nat):Int)-((4*i:Nat):Int))=((A.length+3:Nat):Int):=jR;have v1:IntKind.i64.wrap (0+1)=1:=rfl;have v2:IntKind.i64.wrap (1+1)=2:=rfl;have v3:IntKind.i64.wrap (2+1)=3:=rfl;have v4:IntKind.i64.wrap (3+1)=4:=rfl;have p0:IntKind.i64.wrap (((A.length+3:Nat):Int)-0)=((A.length+3:Nat):Int):=jR;have p1:IntKind.i64.wrap (((A.length+3:Nat):Int)-1)=((A.length+2:Nat):Int):=jR;have p2:IntKind.i64.wrap (((A.length+3:Nat):Int)-2)=((A.length+1:Nat):Int):=jR;have p3:IntKind.i64.wrap (((A.length+3:Nat):Int)-3)=((A.length:Nat):Int):=jR;have w5:IntKind.i64.wrap ((i:Int)+1)=((i+1:Nat):Int):=jR;generalize hd:x.getD i 0=d at hin;have b0:IntKind.u8.wrap ((d:Int).fdiv (2^min (IntKind.i64.wrap (8*0)).toNat IntKind.u32.bits))=((d%256:Nat):Int):=by
  have:=Yv d 0 (by omega);rw[Nat.pow_zero,Nat.div_one]at this;exact this
 have b1:IntKind.u8.wrap ((d:Int).fdiv (2^min (IntKind.i64.wrap (8*1)).toNat IntKind.u32.bits))=((d/256%256:Nat):Int):=by
  have:=Yv d 1 (by omega);rw[Nat.pow_one]at this;exact this
 have b2:IntKind.u8.wrap ((d:Int).fdiv (2^min (IntKind.i64.wrap (8*2)).toNat IntKind.u32.bits))=((d/65536%256:Nat):Int):=Yv d 2 (by omega);have b3:IntKind.u8.wrap ((d:Int).fdiv (2^min (IntKind.i64.wrap (8*3)).toNat IntKind.u32.bits))=((d/16777216%256:Nat):Int):=Yv d 3 (by omega);have m (z:Nat):z%256<256:=Nat.mod_lt _ (by decide);unfold zW;simp only[hlen,w1,w2,w3,v1,v2,v3,v4,p0,p1,p2,p3,w5,Int.toNat_natCast,hd,b0,b1,b2,b3];rw[zX _ _ _ (by omega) (m _),zX _ _ _ (by rw[List.length_set];omega) (m _),zX _ _ _ (by rw[List.length_set,List.length_set];omega) (m _),zX _ _ _ (by rw[List.length_set,List.length_set,List.length_set];omega) (m _),avC];have hl2:(A++UInt8.ofNat (d/16777216%256)::UInt8.ofNat (d/65536%256)::UInt8.ofNat (d/256%256)::UInt8.ofNat (d%256)::B).length=4*x.length:=by simp only[List.length_append,List.length_cons];omega
 have e:=pQ (A++UInt8.ofNat (d/16777216%256)::UInt8.ofNat (d/65536%256)::UInt8.ofNat (d/256%256)::UInt8.ofNat (d%256)::B);rw[hl2]at e;rw[e,aW];have hin2:R (.inl ⟨x,A++UInt8.ofNat (d/16777216%256)::UInt8.ofNat (d/65536%256)::UInt8.ofNat (d/256%256)::UInt8.ofNat (d%256)::B,(x.length:Nat),((i+1:Nat):Int)⟩):=by
  have:A++be4 d++B=A++UInt8.ofNat (d/16777216%256)::UInt8.ofNat (d/65536%256)::UInt8.ofNat (d/256%256)::UInt8.ofNat (d%256)::B:=by simp[be4]
  rw[←this];exact hin
 clear e hl2 b0 b1 b2 b3 hin;refine au (λ_=>ah (bQ) ?_) (λh=>absurd (show(i:Int)<(x.length:Nat)by omega) (of_decide_eq_false h));have lv: ∀{t:Tr (wJ ⊕ wJ)} {e:Tr (wJ ⊕ wJ)} (k:Nat) (hk:k<4),t.sat R→(Tr.ite true (Tr.need true (Tr.need (decide ((0:Int)≤((A.length+k:Nat):Int)∧((A.length+k:Nat):Int)<((4*x.length:Nat):Int))) (Tr.need (decide (A.length+k<4*x.length)) t))) e).sat R:=λk hk ht=>
  au (λ_=>ah rfl (ah (bQ) (ah (bQ) ht))) (λh=>Bool.noConfusion h)
 exact lv 3 (by omega) (lv 2 (by omega) (lv 1 (by omega) (lv 0 (by omega) (au (λh=>Bool.noConfusion h) (λ_=>ah (by simp) (ah (aQ hok _) (ah (kW _ _) (av hin2))))))))
theorem aoY(l:List UInt8)(k:Nat)(h:l.length=4*(k+1)): ∃A y3 y2 y1 y0,l=A++[y3,y2,y1,y0]∧A.length=4*k:=by
 have h1:(l.drop (4*k)).length=4:=by rw[List.length_drop];omega
 match hd:l.drop (4*k),h1 with
 | [y3,y2,y1,y0],_=>
   exact⟨l.take (4*k),y3,y2,y1,y0,by rw[←hd,List.take_append_drop],by rw[List.length_take];omega⟩
theorem Yx(x:List Nat)(hok:okD x=true)(hx:x.length≤1000000000)(Q:wJ→Prop)(hq:Q ⟨x,OQ x,(x.length:Nat),(x.length:Nat)⟩): ∀(k i:Nat) (A:List UInt8),i+k=x.length→A.length=4*k→
  dJ (λy:wJ=>zW y.x y.b y.n y.i) Q (k+1) ⟨x,A++OQ (x.take i),(x.length:Nat),(i:Nat)⟩
 | 0,i,A,hi,hA=>by
   obtain rfl:i=x.length:=by omega
   obtain rfl:A=[]:=List.length_eq_zero_iff.1 (by omega);rw[List.take_length,List.nil_append];unfold dJ
   change Tr.sat _ (zW x (OQ x) (x.length:Nat) (x.length:Nat))
   unfold zW;rw[aW,pQ];exact au (λh=>absurd (j4 h) (Int.lt_irrefl _)) (λ_=>ah (by simp) (ah (aQ hok _) (ah (kW _ _) (av hq))))
 | k+1,i,A,hi,hA=>by
   obtain⟨A2,y3,y2,y1,y0,rfl,hA2⟩:=aoY A k hA;have hlt:i<x.length:=by omega
   have ih:=Yx x hok hx Q hq k (i+1) A2 (by omega) hA2;have ht:x.take (i+1)=x.take i++[x[i]]:=List.take_succ_eq_append_getElem hlt;have hg:x.getD i 0=x[i]:=by simp[dR,hlt]
   rw[ht,Rj, ←List.append_assoc, ←hg]at ih;have e:A2++[y3,y2,y1,y0]++OQ (x.take i)=A2++y3::y2::y1::y0::OQ (x.take i):=by simp
   rw[e];exact Vf x hok hx i hlt A2 (OQ (x.take i)) y0 y1 y2 y3 (by omega) (by rw[Yw,List.length_take];omega) ih
end Go.bI
namespace Go.bI
open Go.Proofs
theorem Vg:bF Tryz.prog 0 aal (codeOf Tryz.f260):=by
 refine bG (d:=λid=>Nat.beq id 0) (λid=>by unfold aal;cases Nat.beq id 0<;>rfl) _ ?_;have hb:bU (λid=>Nat.beq id 0) (codeOf Tryz.f260)=[(0,.loop (bn 0 (codeOf Tryz.f260)))]:=by kernel_rfl
 rw[hb];intro p hp g hg;simp only[List.mem_singleton]at hp;subst hp;have hh:aal 0=some ((JM BN).g 0):=rfl;rw[hh]at hg;obtain rfl:g=(JM BN).g 0:=(Option.some.inj hg).symm;refine aZ.sU (N:=1005) aj eP (L:=bX) (ak 0 _) (Vd _) (Ve BN) ?_;rintro⟨x,b,n,i⟩ hx;have hx:BN.pre ⟨x,b,n,i⟩=true:=hx;simp only[BN,cu,fT]at hx;obtain⟨⟨⟨⟨rfl,rfl⟩,h3⟩,h4⟩,h5⟩:=hx;have:=Yx x h4 h5 (· =BN.res ⟨x,b,(x.length:Nat),0⟩) rfl x.length 0 b (by omega) h3;have e:b++OQ (x.take 0)=b:=by simp[OQ]
 rw[e]at this;exact⟨_,this⟩
def aF:List Nat→Nat
 | []=>0
 | d::l=>d+4294967296*aF l
theorem BO: ∀(l:List Nat),aF (l++[0])=aF l
 | []=>rfl
 | d::l=>by simp only[List.cons_append,aF,BO l]
theorem aam(l:List Nat):aF (rE l)=aF l:=by
 induction l using Dm with
 | h0=>rfl
 | h1 l c ih=>
   by_cases hc:c=0
   ·subst hc;rw[xG,BO,ih]
   ·rw[xH l c hc]
theorem fH: ∀(k v:Nat),v<4294967296^k→aF (bB v k)=v
 | 0,v,h=>by simp at h;subst h;rfl
 | k+1,v,h=>by
   simp only[bB,aF];rw[fH k _ (by rw[Nat.pow_succ]at h;omega)];omega
theorem Rk(a b:List UInt8):aO (a++b)=aO a*256^b.length+aO b:=by
 induction b using Db with
 | h0=>simp[aO]
 | h1 b c ih=>
   rw[←List.append_assoc,mZ,mZ,ih,List.length_append,List.length_singleton,Nat.pow_succ,Nat.add_mul,Nat.mul_assoc];omega
theorem adQ(d:Nat)(h:d<4294967296):aO (be4 d)=d:=by
 have t: ∀z:Nat,(UInt8.ofNat (z%256)).toNat=z%256:=λz=>by simp[UInt8.toNat_ofNat']
 simp only[be4,aO,List.foldl_cons,List.foldl_nil,t];omega
theorem Rl: ∀(l:List Nat),okD l=true→aO (OQ l)=aF l
 | [],_=>rfl
 | d::l,h=>by
   simp only[okD,List.all_cons,cu,fT]at h;rw[OQ,Rk,Rl l h.2,adQ d h.1,aF];have:(be4 d).length=4:=rfl;rw[this];have e:(256:Nat)^4=4294967296:=by decide
   rw[e];omega
theorem MG: ∀(l:List UInt8),aA (aO l)=l.dropWhile (· ==0)
 | []=>by rw[Q7,iD];rfl
 | c::l=>by
   by_cases hc:c=0
   ·subst hc
    have:aO (0::l)=aO l:=by rw[wI];simp
    rw[this,MG l];simp
   ·have hcan:canon (c::l)=true:=by simpa[canon]using hc
    rw[jy _ hcan];simp[hc]
def Vh:List AV→Option (AV×List Bool)
 | [.c (.sl n 1 el)]=>some (oq (aA (aF (aL n el))),[aJ n el,decide (n≤1000000000)])
 | _=>none
theorem ai1: ∀f s,aoW f=some s→aR Tryz.prog f s:=step_ok aiV.spec (bS aiZ.spec)
theorem aan(l:List Nat):(rE l).length≤l.length:=by
 induction l using Dm with
 | h0=>exact Nat.le_refl _
 | h1 l c ih=>
   by_cases hc:c=0
   ·subst hc;rw[xG,List.length_append];simp;omega
   ·rw[xH l c hc];exact Nat.le_refl _
theorem adR(x:List Nat)(hok:okD x=true)(hx:x.length≤1000000000):(aoX x).sat λr=>r=oq (aA (aF x)):=by
 have hk:=adN x hok;have hl:=aan x;have hv:=aam x;unfold aoX;simp only[aW];generalize rE x=y at hk hl hv⊢;rw[←hv, ←Rl y hk,MG];have w4:IntKind.i64.wrap (4*((y.length:Nat):Int))=((4*y.length:Nat):Int):=jR;simp only[w4,aW,Int.toNat_natCast,zh,pQ];refine ah (aQ hok _) (ah (fZ hx) (au (λh=> ?_) (λh=> ?_)))
 ·have h:=eq_of_beq h
  obtain rfl:y=[]:=List.length_eq_zero_iff.1 (by omega);exact av rfl
 ·refine ah (by simp) (ah (bQ) (ah (bQ) (ah (bQ) (ah (by simp) (ah (aQ hk _) (ah ?_ (ah ?_ (ah (by simp) (ah (kW _ _) (ah rfl (av rfl)))))))))))
  ·exact List.all_eq_true.2 λ_ _=>rfl
  ·simp[hk];omega
theorem Ii:aN Tryz.prog 260 Vh:=by
 refine nk (L:=aal) aj ai1 (fn:=Tryz.f260) (c:=codeOf Tryz.f260) (by kernel_rfl) (by kernel_rfl) (aG (fn:=Tryz.f260) (c:=codeOf Tryz.f260) (by kernel_rfl) (by kernel_rfl) (by kernel_rfl)) (N:=1005) Vg ?_ ?_
 ·intro args v cs h
  unfold Vh at h
  split at h
  ·cases h;rfl
  ·cases h
 ·intro args v cs h hc
  unfold Vh at h
  split at h
  ·rename_i n el
   cases h;have h1:aJ n el=true:=hc (aJ n el) (by simp);have h2:n≤1000000000:=dec (hc (decide (n≤1000000000)) (by simp));obtain⟨e1,e2⟩:=jg h1;have hlen:=kP n el;generalize aL n el=l at e1 e2 hlen⊢;subst hlen;refine⟨[.c (.sl l.length 1 (aD l))],.cons (bM.sl e1) .nil,?_⟩;have hs:=adR l e2 h2;rw[←ai0]at hs;generalize aI Tryz.prog aoW aal 1005 Tryz.f260 [.c (.sl l.length 1 (aD l))]=T at hs⊢;generalize aA (aF l)=z at hs⊢;exact Tr.bC (λr hr=>⟨by subst hr;rfl,bM.of_eq hr⟩) hs
  ·cases h
end Go.bI
namespace Go.bI
open Go.Proofs
structure AL where
 y:List Nat
 o:List Nat
 c:Int
 n:Int
 i:Int
def Dp(x:AL):List AV×List (Option jk):=([.iP 0 x.y.length 1,.iP 1 x.o.length 1,dn .u64 x.c,dn .i64 x.n,dn .i64 x.i],[some (.arr x.y.length 1 (aD x.y) 335),some (.arr x.o.length 1 (aD x.o) 335)])
def Ij:List AV×List (Option jk)→Option (AL×List Bool)
 | ([.iP 0 m 1,.iP 1 k 1,.c (.v (.int .u64 c)),.c (.v (.int .i64 n)),.c (.v (.int .i64 i))],[some (.arr m' 1 el 335),some (.arr k' 1 ol 335)])=>some (⟨aL m el,aL k ol,c,n,i⟩,[decide (m=m'),decide (k=k'),aJ m el,aJ k ol])
 | _=>none
def JO(w:Way AL):aZ AL AL where
 nIn:={nt:=84,live:=[11,12,13,52,53]}
 rD:={nt:=84,live:=[11,12,13,52,53]}
 head:=Dp
 take:=Ij
 out:=λr=>(.normal,Dp r)
 jC:=λq=>match q with|(.normal,q)=>Ij q | _=>none
 res:=w.res
 pre:=w.pre
theorem JQ(q:List AV×List (Option jk))(x:AL)(cs:List Bool)(h:Ij q=some (x,cs))(hc: ∀p∈cs,p):eY q.1 (Dp x).1∧dz q.2 (Dp x).2:=by
 unfold Ij at h
 split at h
 ·rename_i m k c n i m' el k' ol
  simp only[fK,Prod.mk.injEq]at h;obtain⟨rfl,rfl⟩:=h;have h1:m=m':=dec (hc (decide (m=m')) (by simp));have h2:k=k':=dec (hc (decide (k=k')) (by simp));have h3:aJ m el=true:=hc (aJ m el) (by simp);have h4:aJ k ol=true:=hc (aJ k ol) (by simp);subst h1;subst h2;simp only[Dp,kP];exact⟨eY.refl _,.cons (.arr _ _ _ _ _ (jg h3).1) (.cons (.arr _ _ _ _ _ (jg h4).1) .nil)⟩
 ·cases h
theorem Vi(w:Way AL):(JO w).gI where
 take:=JQ
 jC:=by
  intro e q r cs h hc;cases e with
  | normal=>obtain⟨h1,h2⟩:=JQ q r cs h hc;exact⟨rfl,h1,h2⟩
  | exit j=>cases h
  | ret=>cases h
 split:=λr Q h=>h
abbrev BB:Nat:=4294967296
def carry(X Y i:Nat):Nat:=(X%BB^i+Y%BB^i)/BB^i
def BP:Way AL:=⟨λx=>⟨x.y,bB (aF x.o+aF x.y) x.o.length,(carry (aF x.o) (aF x.y) x.o.length:Nat),x.n,x.n⟩,
 λx=>decide (x.n=(x.o.length:Nat))&&decide (x.i=0)&&decide (x.c=0)&&okD x.y&&okD x.o&&decide (x.o.length≤1000000000)⟩
def aao:Nat→Option (St→Tr (Ex×St)):=λid=>bif Nat.beq id 0 then some ((JO BP).g 0)else none
def aoZ:FuncId→Option Spec:=λf=>bif Nat.beq f 256 then some (ay Rc)else bif Nat.beq f 261 then some (ay Ht)else bif Nat.beq f 126 then some (ay OI)else
 bif Nat.beq f 259 then some (j6 U5)else bif Nat.beq f 260 then some (ay Vh)else none
end Go.bI
namespace Go.bI
open Go.Proofs
def zY(y:List Nat)(o:List Nat)(c:Int)(n:Int)(i:Int):Tr (AL ⊕ AL):=
 let x1:Int:= ↑o.length
 let x2:Int:= ↑y.length
 let x3:Int:=IntKind.u64.wrap (c+IntKind.u64.wrap ↑(o.getD i.toNat 0))
 let x4:Int:=IntKind.u64.wrap (x3+IntKind.u64.wrap ↑(y.getD i.toNat 0))
 let x5:List Nat:=aL y.length (aD y)
 let x6:Int:=2^min (Int.toNat 32) IntKind.u64.bits
 let x7:Int:=IntKind.i64.wrap (i+1)
 .ite (decide (i<n)) (.need (decide (0≤i∧i<x1)) (.need (decide (i.toNat<o.length)) (.ite (decide (i<x2)) (.need (decide (0≤i∧i<x2)) (.need (decide (i.toNat<y.length)) (.need true (.need (decide (0≤i∧i<x1)) (.need (decide (i.toNat<o.length)) (.need (decide (y.length=y.length)) (.need (decide (o.length=o.length)) (.need (aJ y.length (aD y)) (.need (aJ o.length (aP (aD o) i.toNat 0 [IV.v (.int IntKind.u32 (IntKind.u32.wrap x4))].reverse)) (.ret (Sum.inl {y:=x5,o:=aL o.length (aP (aD o) i.toNat 0 [IV.v (.int IntKind.u32 (IntKind.u32.wrap x4))].reverse),c:=x4.fdiv x6,n:=n,i:=x7}))))))))))) (.need true (.need (decide (0≤i∧i<x1)) (.need (decide (i.toNat<o.length)) (.need (decide (y.length=y.length)) (.need (decide (o.length=o.length)) (.need (aJ y.length (aD y)) (.need (aJ o.length (aP (aD o) i.toNat 0 [IV.v (.int IntKind.u32 (IntKind.u32.wrap x3))].reverse)) (.ret (Sum.inl {y:=x5,o:=aL o.length (aP (aD o) i.toNat 0 [IV.v (.int IntKind.u32 (IntKind.u32.wrap x3))].reverse),c:=x3.fdiv x6,n:=n,i:=x7})))))))))))) (.need (decide (y.length=y.length)) (.need (decide (o.length=o.length)) (.need (aJ y.length (aD y)) (.need (aJ o.length (aD o)) (.ret (Sum.inr {y:=x5,o:=aL o.length (aD o),c:=c,n:=n,i:=i}))))))
theorem Vj(w:Way AL)(x:AL):(exec Tryz.prog (λ_=>none) bX 1005 (bn 0 (codeOf Tryz.f225)) (iQ (JO w).nIn ((JO w).head x))).bind ((JO w).fin 0 0)=zY x.y x.o x.c x.n x.i:=by
 obtain⟨y,o,c,n,i⟩:=x
 kernel_rfl
theorem gK(l:List Nat)(k b:Nat)(hk:k<l.length):aP (aD l) k 0 [IV.v (.int .u32 (b:Int))].reverse=aD (l.set k b):=by
 funext i
 unfold aP;by_cases h:i=k
 ·subst h
  rw[if_pos rfl];simp[aD,dR,List.getElem?_set_self hk]
 ·rw[if_neg h]
  simp[aD,dR,List.getElem?_set_ne (Ne.symm h)]
theorem xI: ∀(l:List Nat),okD l=true→aF l<BB^l.length
 | [],_=>by simp[aF]
 | d::l,h=>by
   simp only[okD,List.all_cons,cu,fT]at h;have:=xI l h.2;rw[aF,List.length_cons,Nat.pow_succ];unfold BB at this⊢;omega
theorem jA: ∀(l:List Nat),okD l=true→bB (aF l) l.length=l
 | [],_=>rfl
 | d::l,h=>by
   simp only[okD,List.all_cons,cu,fT]at h;have ih:=jA l h.2;have e1:(d+4294967296*aF l)%4294967296=d:=by omega
   have e2:(d+4294967296*aF l)/4294967296=aF l:=by omega
   simp only[aF,List.length_cons,bB,e1,e2,ih]
def fq(X Z n i:Nat):List Nat:=(List.range n).map λj=>if j<i then Z/BB^j%BB else X/BB^j%BB
theorem eD(X Z n i:Nat):(fq X Z n i).length=n:=by simp[fq]
theorem lJ(X Z n i j:Nat)(h:j<n):(fq X Z n i).getD j 0=if j<i then Z/BB^j%BB else X/BB^j%BB:=by
 simp[fq,dR,h]
theorem wK(X Z n:Nat):fq X Z n 0=bB X n:=by
 have:=tV (l:=fq X Z n 0) (v:=X) λj hj=>by rw[eD]at hj;rw[lJ X Z n 0 j hj];simp
 rw[eD]at this;exact this
theorem zm(X Z n:Nat):fq X Z n n=bB Z n:=by
 have:=tV (l:=fq X Z n n) (v:=Z) λj hj=>by rw[eD]at hj;rw[lJ X Z n n j hj,if_pos hj]
 rw[eD]at this;exact this
theorem pR(X Z n i:Nat)(h:i<n):(fq X Z n i).set i (Z/BB^i%BB)=fq X Z n (i+1):=by
 apply List.ext_getElem
 ·simp[fq]
 ·intro j h1 h2
  have hj:j<n:=by simpa[fq]using h2
  by_cases hji:j=i
  ·subst hji
   simp[fq]
  ·rw[List.getElem_set_ne (by omega)]
   simp only[fq,List.getElem_map,List.getElem_range];by_cases hlt:j<i
   ·rw[if_pos hlt,if_pos (by omega)]
   ·rw[if_neg hlt,if_neg (by omega)]
theorem lK(X Z n i:Nat):okD (fq X Z n i)=true:=by
 refine List.all_eq_true.2 λd hd=> ?_
 obtain⟨j,_,rfl⟩:=List.mem_map.1 hd;refine fZ ?_
 split<;>exact Nat.mod_lt _ (by decide)
theorem JR(X Y i:Nat):carry X Y i≤1:=by
 have hp:0<BB^i:=Nat.pow_pos (by decide);have h1:=Nat.mod_lt X hp;have h2:=Nat.mod_lt Y hp;unfold carry;have:(X%BB^i+Y%BB^i)/BB^i<2:=by
  rw[Nat.div_lt_iff_lt_mul hp];omega
 omega
theorem EG(X Y i:Nat):(X+Y)/BB^i%BB=(carry X Y i+X/BB^i%BB+Y/BB^i%BB)%BB:=by
 have hp:0<BB^i:=Nat.pow_pos (by decide);have e:(X+Y)/BB^i=X/BB^i+Y/BB^i+carry X Y i:=by
  unfold carry;have h1:=Nat.div_add_mod X (BB^i);have h2:=Nat.div_add_mod Y (BB^i);have:X+Y=(X%BB^i+Y%BB^i)+BB^i*(X/BB^i+Y/BB^i):=by rw[Nat.mul_add];omega
  rw[this,Nat.add_mul_div_left _ _ hp];omega
 rw[e];unfold BB;omega
theorem carry_succ(X Y i:Nat):carry X Y (i+1)=(carry X Y i+X/BB^i%BB+Y/BB^i%BB)/BB:=by
 have hp:0<BB^i:=Nat.pow_pos (by decide);unfold carry;rw[Nat.mod_pow_succ,Nat.mod_pow_succ,Nat.pow_succ, ←Nat.div_div_eq_div_mul];have e:X%BB^i+BB^i*(X/BB^i%BB)+(Y%BB^i+BB^i*(Y/BB^i%BB))=(X%BB^i+Y%BB^i)+BB^i*(X/BB^i%BB+Y/BB^i%BB):=by rw[Nat.mul_add];omega
 rw[e,Nat.add_mul_div_left _ _ hp,Nat.add_assoc]
theorem Dq{Y m i:Nat}(h:Y<BB^m)(hi:m≤i):Y/BB^i=0:=by
 have:BB^m≤BB^i:=Nat.pow_le_pow_right (by decide) hi;exact Nat.div_eq_of_lt (by omega)
theorem Vk(y:List Nat)(hy:okD y=true)(X n i:Nat)(hn:n≤1000000000)(hi:i<n){R:AL ⊕ AL→Prop}
  (hin:R (.inl ⟨y,fq X (X+aF y) n (i+1),(carry X (aF y) (i+1):Nat),(n:Nat),((i+1:Nat):Int)⟩)):
  (zY y (fq X (X+aF y) n i) (carry X (aF y) i:Nat) (n:Nat) (i:Nat)).sat R:=by
 have hc:=JR X (aF y) i;have hYl:=xI y hy;have ho:=lJ X (X+aF y) n i i hi;rw[if_neg (Nat.lt_irrefl _)]at ho;have hox:X/BB^i%BB<4294967296:=Nat.mod_lt _ (by decide);have hyx:aF y/BB^i%BB<4294967296:=Nat.mod_lt _ (by decide);have hs:=pR X (X+aF y) n i hi;have had:=EG X (aF y) i;have hcs:=carry_succ X (aF y) i;have w5:IntKind.i64.wrap ((i:Int)+1)=((i+1:Nat):Int):=jR;have hyg:y.getD i 0=aF y/BB^i%BB:=by
  by_cases hl:i<y.length
  ·have:=jA y hy
   rw[←this,mF _ _ _ hl,this]
  ·rw[Dq hYl (by omega)]
   simp[dR,List.getElem?_eq_none (Nat.le_of_not_lt hl)]
 have hyz: ¬i<y.length→aF y/BB^i%BB=0:=λh=>by rw[Dq hYl (by omega)];rfl
 generalize carry X (aF y) i=c at hc had hcs;generalize carry X (aF y) (i+1)=c' at hcs hin;generalize hO:X/BB^i%BB=ox at hox ho had hcs;generalize aF y/BB^i%BB=yx at hyx had hcs hyg hyz;have a1:IntKind.u64.wrap ((ox:Nat):Int)=((ox:Nat):Int):=by rw[wrap_u64];omega
 have a2:IntKind.u64.wrap (((c:Nat):Int)+((ox:Nat):Int))=((c+ox:Nat):Int):=by rw[wrap_u64];omega
 have a3:IntKind.u64.wrap ((yx:Nat):Int)=((yx:Nat):Int):=by rw[wrap_u64];omega
 have a4:IntKind.u64.wrap (((c+ox:Nat):Int)+((yx:Nat):Int))=((c+ox+yx:Nat):Int):=by rw[wrap_u64];omega
 have a5: ∀z:Nat,IntKind.u32.wrap ((z:Nat):Int)=((z%4294967296:Nat):Int):=λz=>by rw[wrap_u32];omega
 have a6: ∀z:Nat,((z:Nat):Int).fdiv (2^min (Int.toNat 32) IntKind.u64.bits)=((z/4294967296:Nat):Int):=λz=>lH z 4294967296
 unfold zY;simp only[Int.toNat_natCast,ho,hyg,w5,a1,a2,a3,a4,a5,a6,eD,aW];rw[gK _ _ _ (by rw[eD];exact hi),gK _ _ _ (by rw[eD];exact hi)];have key: ∀z:Nat,z=c+ox+yx→aL n (aD ((fq X (X+aF y) n i).set i (z%4294967296)))=fq X (X+aF y) n (i+1)∧aJ n (aD ((fq X (X+aF y) n i).set i (z%4294967296)))=true∧((z/4294967296:Nat):Int)=((c':Nat):Int):=by
  intro z hz;have e1:z%4294967296=(X+aF y)/BB^i%BB:=by rw[had,hz]
  rw[e1,hs];have e2:=aW (fq X (X+aF y) n (i+1));rw[eD]at e2;refine⟨e2,aQ (lK _ _ _ _) _,?_⟩;rw[hcs,hz]
 refine au (λ_=>ah (bQ) (ah (fZ hi) (au (λh=> ?_) (λh=> ?_)))) (λh=>absurd (show(i:Int)<(n:Nat)by omega) (of_decide_eq_false h))
 ·have h:=j4 h
  obtain⟨k1,k2,k3⟩:=key (c+ox+yx) rfl;rw[k1,k3];exact ah (bQ) (ah (bQ) (ah rfl (ah (bQ) (ah (fZ hi) (ah (by simp) (ah (by simp) (ah (aQ hy _) (ah k2 (av hin)))))))))
 ·have h:=of_decide_eq_false h
  have hz:=hyz (by omega);obtain⟨k1,k2,k3⟩:=key (c+ox) (by omega);rw[k1,k3];exact ah rfl (ah (bQ) (ah (fZ hi) (ah (by simp) (ah (by simp) (ah (aQ hy _) (ah k2 (av hin)))))))
theorem Yy(y:List Nat)(hy:okD y=true)(X n:Nat)(hn:n≤1000000000)(Q:AL→Prop)(hq:Q ⟨y,bB (X+aF y) n,(carry X (aF y) n:Nat),(n:Nat),(n:Nat)⟩): ∀(k i:Nat),i+k=n→
  dJ (λx:AL=>zY x.y x.o x.c x.n x.i) Q (k+1) ⟨y,fq X (X+aF y) n i,(carry X (aF y) i:Nat),(n:Nat),(i:Nat)⟩
 | 0,i,hi=>by
   obtain rfl:i=n:=by omega
   rw[zm];unfold dJ
   change Tr.sat _ (zY y (bB (X+aF y) i) (carry X (aF y) i:Nat) (i:Nat) (i:Nat))
   have e:=aW (bB (X+aF y) i);unfold zY;rw[e,aW];exact au (λh=>absurd (j4 h) (Int.lt_irrefl _)) (λ_=>ah (by simp) (ah (by simp) (ah (aQ hy _) (ah (aQ (dH _ _) _) (av hq)))))
 | k+1,i,hi=>Vk y hy X n i hn (by omega) (Yy y hy X n hn Q hq k (i+1) (by omega))
theorem Vl:bF Tryz.prog 0 aao (codeOf Tryz.f225):=by
 refine bG (d:=λid=>Nat.beq id 0) (λid=>by unfold aao;cases Nat.beq id 0<;>rfl) _ ?_;have hb:bU (λid=>Nat.beq id 0) (codeOf Tryz.f225)=[(0,.loop (bn 0 (codeOf Tryz.f225)))]:=by kernel_rfl
 rw[hb];intro p hp g hg;simp only[List.mem_singleton]at hp;subst hp;have hh:aao 0=some ((JO BP).g 0):=rfl;rw[hh]at hg;obtain rfl:g=(JO BP).g 0:=(Option.some.inj hg).symm;refine aZ.sU (N:=1005) aj eP (L:=bX) (ak 0 _) (Vi _) (Vj BP) ?_;rintro⟨y,o,c,n,i⟩ hx;have hx:BP.pre ⟨y,o,c,n,i⟩=true:=hx;simp only[BP,cu,fT]at hx;obtain⟨⟨⟨⟨⟨rfl,rfl⟩,rfl⟩,h4⟩,h5⟩,h6⟩:=hx;have:=Yy y h4 (aF o) o.length h6 (· =BP.res ⟨y,o,0,(o.length:Nat),0⟩) rfl o.length 0 (by omega);rw[wK,jA o h5]at this;have c0:carry (aF o) (aF y) 0=0:=by simp[carry,Nat.mod_one]
 rw[c0]at this;exact⟨_,this⟩
end Go.bI
namespace Go.bI
open Go.Proofs
def ao0(a:ByteArray)(b:ByteArray):Tr AV:=
 let x1:Nat:=(iZ a).toNat+(iZ b).toNat+Int.toNat 0
 let x2:Int:= ↑(x1%Extern.MathBitsCarry.m64)
 let x3:List UInt8:=a.data.toList
 let x4:List UInt8:=b.data.toList
 let x5:Int:= ↑(bJ x3.length)
 let x6:Int:= ↑(bJ x4.length)
 let x7:Int:=IntKind.i64.wrap (x6+1)
 let x8:Int:=((4:Nat):Int)
 let x9:Int:=x8*x7
 let x10:Nat:=x7.toNat
 let fI:List Nat:=bB (aO x3) (bJ x3.length)
 let fU:Nat:=min (bJ x4.length) x10
 let iM:List Nat:=bB (aO x4) (bJ x4.length)
 let iR:List IV:=List.map IV.v [Value.int IntKind.u32 0]
 let jH:Int:= ↑x10
 let kE:List Nat:=aL x10 λi=>if i<fU then aD iM i else iR
 let jD:Nat:=kE.length
 let x18:Int:= ↑jD
 let lW:List Nat:=aL (bJ x3.length) (aD fI)
 let x20:List Nat:=bB (aF kE+aF lW) jD
 let x21:Nat:=x20.length
 let lZ:Int:=IntKind.i64.wrap (x5+1)
 let x23:Int:=x8*lZ
 let x24:Nat:=lZ.toNat
 let x25:Nat:=min (bJ x3.length) x24
 let rY:Int:= ↑x24
 let x27:List Nat:=aL x24 λi=>if i<x25 then aD fI i else iR
 let x28:Nat:=x27.length
 let x29:Int:= ↑x28
 let x30:List Nat:=aL (bJ x4.length) (aD iM)
 let x31:List Nat:=bB (aF x27+aF x30) x28
 let x32:Nat:=x31.length
 .ite (iq a&&iq b) (.need true (.ite (((x1/Extern.MathBitsCarry.m64:Nat):Int)==0) (.need (jV x2) (.ret (.c (.v (.string ⟨⟨aA x2.toNat⟩⟩))))) (.need (decide (x3.length≤1000000000)) (.need (decide (x4.length≤1000000000)) (.ite (decide (x5<x6)) (.need (decide (x7=x7)) (.need (decide (0≤x7)) (.need (decide (x7≤9223372036854775807)) (.need (decide (x9≤140737488355328)) (.need (decide (x10≤x10)) (.need (decide (bJ x4.length≤bJ x4.length)) (.need (decide (bJ x3.length=bJ x3.length)) (.need (decide (x10=x10)) (.need (aJ (bJ x3.length) (aD fI)) (.need (aJ x10 λi=>if i<fU then aD iM i else iR) (.need (decide (jH=x18)&&decide ((0:Int)=0)&&decide ((0:Int)=0)&&okD lW&&okD kE&&decide (jD≤1000000000)) (.need (decide (x21≤x21)) (.need (aJ x21 (aD x20)) (.need (decide (x21≤1000000000)) (.ret (.c (.v (.string ⟨⟨aA (aF (aL x21 (aD x20)))⟩⟩)))))))))))))))))) (.need (decide (lZ=lZ)) (.need (decide (0≤lZ)) (.need (decide (lZ≤9223372036854775807)) (.need (decide (x23≤140737488355328)) (.need (decide (x24≤x24)) (.need (decide (bJ x3.length≤bJ x3.length)) (.need (decide (bJ x4.length=bJ x4.length)) (.need (decide (x24=x24)) (.need (aJ (bJ x4.length) (aD iM)) (.need (aJ x24 λi=>if i<x25 then aD fI i else iR) (.need (decide (rY=x29)&&decide ((0:Int)=0)&&decide ((0:Int)=0)&&okD x30&&okD x27&&decide (x28≤1000000000)) (.need (decide (x32≤x32)) (.need (aJ x32 (aD x31)) (.need (decide (x32≤1000000000)) (.ret (.c (.v (.string ⟨⟨aA (aF (aL x32 (aD x31)))⟩⟩))))))))))))))))))))))) (.need (decide (x3.length≤1000000000)) (.need (decide (x4.length≤1000000000)) (.ite (decide (x5<x6)) (.need (decide (x7=x7)) (.need (decide (0≤x7)) (.need (decide (x7≤9223372036854775807)) (.need (decide (x9≤140737488355328)) (.need (decide (x10≤x10)) (.need (decide (bJ x4.length≤bJ x4.length)) (.need (decide (bJ x3.length=bJ x3.length)) (.need (decide (x10=x10)) (.need (aJ (bJ x3.length) (aD fI)) (.need (aJ x10 λi=>if i<fU then aD iM i else iR) (.need (decide (jH=x18)&&decide ((0:Int)=0)&&decide ((0:Int)=0)&&okD lW&&okD kE&&decide (jD≤1000000000)) (.need (decide (x21≤x21)) (.need (aJ x21 (aD x20)) (.need (decide (x21≤1000000000)) (.ret (.c (.v (.string ⟨⟨aA (aF (aL x21 (aD x20)))⟩⟩)))))))))))))))))) (.need (decide (lZ=lZ)) (.need (decide (0≤lZ)) (.need (decide (lZ≤9223372036854775807)) (.need (decide (x23≤140737488355328)) (.need (decide (x24≤x24)) (.need (decide (bJ x3.length≤bJ x3.length)) (.need (decide (bJ x4.length=bJ x4.length)) (.need (decide (x24=x24)) (.need (aJ (bJ x4.length) (aD iM)) (.need (aJ x24 λi=>if i<x25 then aD fI i else iR) (.need (decide (rY=x29)&&decide ((0:Int)=0)&&decide ((0:Int)=0)&&okD x30&&okD x27&&decide (x28≤1000000000)) (.need (decide (x32≤x32)) (.need (aJ x32 (aD x31)) (.need (decide (x32≤1000000000)) (.ret (.c (.v (.string ⟨⟨aA (aF (aL x32 (aD x31)))⟩⟩)))))))))))))))))))))
theorem ai2(a b:ByteArray):aI Tryz.prog aoZ aao 1005 Tryz.f225 [.c (.v (.string a)),.c (.v (.string b))]=ao0 a b:=by kernel_rfl
end Go.bI
namespace Go.bI
open Go.Proofs
theorem ao1(v k:Nat):aL (k+1) (λi=>if i<k then aD (bB v k) i else List.map IV.v [Value.int IntKind.u32 0])=bB v k++[0]:=by
 apply List.ext_getElem
 ·simp[aL,bV]
 ·intro i h1 h2
  have hi:i<k+1:=by simpa[aL]using h1
  by_cases hk:i<k
  ·have hl:i<(bB v k).length:=by rw[bV];exact hk
   simp[aL,hk,aD,u32Of,dR,hl,List.getElem_append_left hl]
  ·obtain rfl:i=k:=by omega
   simp[aL,u32Of,List.getElem_append_right,bV]
theorem adS(v k:Nat):aJ (k+1) (λi=>if i<k then aD (bB v k) i else List.map IV.v [Value.int IntKind.u32 0])=true:=by
 refine List.all_eq_true.2 λi hi=> ?_
 dsimp only
 split
 ·rename_i h
  exact List.all_eq_true.1 (aQ (dH k v) k) i (List.mem_range.2 h)
 ·rfl
theorem Rm(v k:Nat)(h:v<BB^k):aF (bB v k++[0])=v:=by rw[BO,fH k v h]
theorem Yz(v k:Nat):okD (bB v k++[0])=true:=by rw[BM,dH];rfl
theorem qY(s:ByteArray):aO s.data.toList<BB^bJ s.data.toList.length:=by
 have h1:=uW s.data.toList;have h2:256^s.data.toList.length≤256^(4*bJ s.data.toList.length):=Nat.pow_le_pow_right (by decide) (by unfold bJ;omega);have h3:(256:Nat)^(4*bJ s.data.toList.length)=BB^bJ s.data.toList.length:=by
  rw[Nat.pow_mul]
 omega
theorem sum_lt{u v k l:Nat}(hu:u<BB^k)(hv:v<BB^l)(h:l≤k):u+v<BB^(k+1):=by
 have:BB^l≤BB^k:=Nat.pow_le_pow_right (by decide) h;rw[Nat.pow_succ];unfold BB at*;omega
def adT:List AV→Option (AV×List Bool)
 | [.c (.v (.string a)),.c (.v (.string b))]=>some (oq (aA (aO a.data.toList+aO b.data.toList)),[decide (a.data.toList.length≤100000000),decide (b.data.toList.length≤100000000)])
 | _=>none
theorem adU(a b:ByteArray)(ha:a.data.toList.length≤100000000)(hb:b.data.toList.length≤100000000):(ao0 a b).sat λr=>r=oq (aA (aO a.data.toList+aO b.data.toList)):=by
 have la:=qY a;have lb:=qY b;have na:bJ a.data.toList.length≤25000001:=by unfold bJ;omega
 have nb:bJ b.data.toList.length≤25000001:=by unfold bJ;omega
 have wa:IntKind.i64.wrap (((bJ a.data.toList.length:Nat):Int)+1)=((bJ a.data.toList.length+1:Nat):Int):=jR;have wb:IntKind.i64.wrap (((bJ b.data.toList.length:Nat):Int)+1)=((bJ b.data.toList.length+1:Nat):Int):=jR;have ma:min (bJ a.data.toList.length) (bJ a.data.toList.length+1)=bJ a.data.toList.length:=by omega
 have mb:min (bJ b.data.toList.length) (bJ b.data.toList.length+1)=bJ b.data.toList.length:=by omega
 have ea:aL (bJ a.data.toList.length) (aD (bB (aO a.data.toList) (bJ a.data.toList.length)))=bB (aO a.data.toList) (bJ a.data.toList.length):=by
  have:=aW (bB (aO a.data.toList) (bJ a.data.toList.length));rw[bV]at this;exact this
 have eb:aL (bJ b.data.toList.length) (aD (bB (aO b.data.toList) (bJ b.data.toList.length)))=bB (aO b.data.toList) (bJ b.data.toList.length):=by
  have:=aW (bB (aO b.data.toList) (bJ b.data.toList.length));rw[bV]at this;exact this
 have lpa:(bB (aO a.data.toList) (bJ a.data.toList.length)++[0]).length=bJ a.data.toList.length+1:=by simp[bV]
 have lpb:(bB (aO b.data.toList) (bJ b.data.toList.length)++[0]).length=bJ b.data.toList.length+1:=by simp[bV]
 have hv: ∀s:ByteArray,iq s=true→(iZ s).toNat=aO s.data.toList:=λs hs=>by
  have:s.data.toList.length≤8:=j4 hs;unfold iZ;rw[if_pos this,Int.toNat_natCast]
 have m64:Extern.MathBitsCarry.m64=18446744073709551616:=by rfl
 have z0:Int.toNat 0=0:=rfl;unfold ao0;simp only[wa,wb,Int.toNat_natCast,ma,mb,ea,eb,ao1,lpa,lpb,Rm _ _ la,Rm _ _ lb,fH _ _ la,fH _ _ lb,bV,m64,z0,Nat.add_zero];have efa:=aW (bB (aO a.data.toList+aO b.data.toList) (bJ a.data.toList.length+1));have efb:=aW (bB (aO b.data.toList+aO a.data.toList) (bJ b.data.toList.length+1));rw[bV]at efa efb;simp only[efa,efb];refine au (λhw=>ah rfl (au (λh0=> ?_) (λh0=> ?g1))) (λhw=> ?g2)
 ·rw[cu]at hw
  rw[hv a hw.1,hv b hw.2]at h0⊢;have h0:=eq_of_beq h0;have hlt:aO a.data.toList+aO b.data.toList<18446744073709551616:=by omega
  rw[Nat.mod_eq_of_lt hlt];exact ah (by simp[jV];omega) (av rfl)
 all_goals
  refine ah (bQ) (ah (bQ) (au (λhc=> ?_) (λhc=> ?_)))
  ·have hc:=j4 hc
   have hs:=sum_lt lb la (by omega);rw[fH _ _ hs,Nat.add_comm (aO b.data.toList)];refine ah (by simp) (ah (bQ) (ah (bQ) (ah (bQ) (ah (by simp) (ah (by simp) (ah (by simp) (ah (by simp) (ah (aQ (dH _ _) _) (ah (adS _ _) (ah ?_ (ah (by simp) (ah ?_ (ah (bQ) (av rfl))))))))))))))
   ·have q1:=na;have q2:=nb;simp[Yz,dH]at q1 q2⊢;omega
   ·exact aQ (dH _ _) _
  ·have hc:=of_decide_eq_false hc
   have hs:=sum_lt la lb (by omega);rw[fH _ _ hs];refine ah (by simp) (ah (bQ) (ah (bQ) (ah (bQ) (ah (by simp) (ah (by simp) (ah (by simp) (ah (by simp) (ah (aQ (dH _ _) _) (ah (adS _ _) (ah ?_ (ah (by simp) (ah ?_ (ah (bQ) (av rfl))))))))))))))
   ·have q1:=na;have q2:=nb;simp[Yz,dH]at q1 q2⊢;omega
   ·exact aQ (dH _ _) _
theorem YA:Mv Tryz.prog 261 UF:=⟨Tryz.f261,by kernel_rfl,by kernel_rfl,by kernel_rfl,by kernel_rfl,by kernel_rfl⟩
theorem ai3: ∀f s,aoZ f=some s→aR Tryz.prog f s:=step_ok Di.spec (step_ok (adp YA).spec (step_ok zS.spec (step_ok H8.spec (bS Ii.spec))))
theorem YB:aN Tryz.prog 225 adT:=by
 refine aM aj ai3 (fn:=Tryz.f225) (c:=codeOf Tryz.f225) (by kernel_rfl) (by kernel_rfl) (aG (fn:=Tryz.f225) (c:=codeOf Tryz.f225) (by kernel_rfl) (by kernel_rfl) (by kernel_rfl)) (L:=aao) (N:=1005) Vl ?_ ?_
 ·intro args v cs h
  unfold adT at h
  split at h
  ·cases h;rfl
  ·cases h
 ·intro args v cs h hc
  unfold adT at h
  split at h
  ·rename_i a b
   cases h;have h1:a.data.toList.length≤100000000:=dec (hc (decide (a.data.toList.length≤100000000)) (by simp));have h2:b.data.toList.length≤100000000:=dec (hc (decide (b.data.toList.length≤100000000)) (by simp));have hs:=adU a b h1 h2;rw[←ai2]at hs;generalize aI Tryz.prog aoZ aao 1005 Tryz.f225 [.c (.v (.string a)),.c (.v (.string b))]=T at hs⊢;generalize aA (aO a.data.toList+aO b.data.toList)=z at hs⊢;exact Tr.bC (λr hr=>⟨by subst hr;rfl,bM.of_eq hr⟩) hs
  ·cases h
end Go.bI
namespace Go.bI
open Go.Proofs
structure AO where
 y:List Nat
 o:List Nat
 c:Int
 n:Int
 i:Int
def Dr(x:AO):List AV×List (Option jk):=([.iP 0 x.y.length 1,.iP 1 x.o.length 1,dn .i64 x.c,dn .i64 x.n,dn .i64 x.i],[some (.arr x.y.length 1 (aD x.y) 335),some (.arr x.o.length 1 (aD x.o) 335)])
def Ik:List AV×List (Option jk)→Option (AO×List Bool)
 | ([.iP 0 m 1,.iP 1 k 1,.c (.v (.int .i64 c)),.c (.v (.int .i64 n)),.c (.v (.int .i64 i))],[some (.arr m' 1 el 335),some (.arr k' 1 ol 335)])=>some (⟨aL m el,aL k ol,c,n,i⟩,[decide (m=m'),decide (k=k'),aJ m el,aJ k ol])
 | _=>none
def JU(w:Way AO):aZ AO AO where
 nIn:={nt:=71,live:=[9,10,11,37,38]}
 rD:={nt:=71,live:=[9,10,11,37,38]}
 head:=Dr
 take:=Ik
 out:=λr=>(.normal,Dr r)
 jC:=λq=>match q with|(.normal,q)=>Ik q | _=>none
 res:=w.res
 pre:=w.pre
theorem JV(q:List AV×List (Option jk))(x:AO)(cs:List Bool)(h:Ik q=some (x,cs))(hc: ∀p∈cs,p):eY q.1 (Dr x).1∧dz q.2 (Dr x).2:=by
 unfold Ik at h
 split at h
 ·rename_i m k c n i m' el k' ol
  simp only[fK,Prod.mk.injEq]at h;obtain⟨rfl,rfl⟩:=h;have h1:m=m':=dec (hc (decide (m=m')) (by simp));have h2:k=k':=dec (hc (decide (k=k')) (by simp));have h3:aJ m el=true:=hc (aJ m el) (by simp);have h4:aJ k ol=true:=hc (aJ k ol) (by simp);subst h1;subst h2;simp only[Dr,kP];exact⟨eY.refl _,.cons (.arr _ _ _ _ _ (jg h3).1) (.cons (.arr _ _ _ _ _ (jg h4).1) .nil)⟩
 ·cases h
theorem Vm(w:Way AO):(JU w).gI where
 take:=JV
 jC:=by
  intro e q r cs h hc;cases e with
  | normal=>obtain⟨h1,h2⟩:=JV q r cs h hc;exact⟨rfl,h1,h2⟩
  | exit j=>cases h
  | ret=>cases h
 split:=λr Q h=>h
def borrow(X Y i:Nat):Nat:=if X%BB^i<Y%BB^i then 1 else 0
def BQ:Way AO:=⟨λx=>⟨x.y,bB (aF x.o-aF x.y) x.o.length,(borrow (aF x.o) (aF x.y) x.o.length:Nat),x.n,x.n⟩,
 λx=>decide (x.n=(x.o.length:Nat))&&decide (x.i=0)&&decide (x.c=0)&&okD x.y&&okD x.o&&decide (x.o.length≤1000000000)&&decide (aF x.y≤aF x.o)⟩
def aap:Nat→Option (St→Tr (Ex×St)):=λid=>bif Nat.beq id 0 then some ((JU BQ).g 0)else none
def ao2:FuncId→Option Spec:=λf=>bif Nat.beq f 256 then some (ay Rc)else bif Nat.beq f 126 then some (ay OI)else
 bif Nat.beq f 259 then some (j6 U5)else bif Nat.beq f 260 then some (ay Vh)else none
def adV:List AV→Option (AV×List Bool)
 | [.c (.v (.string a)),.c (.v (.string b))]=>some (oq (aA (aO a.data.toList-aO b.data.toList)),[decide (a.data.toList.length≤100000000),decide (b.data.toList.length≤100000000),decide (aO b.data.toList≤aO a.data.toList)])
 | _=>none
end Go.bI
namespace Go.bI
open Go.Proofs
def zZ(y:List Nat)(o:List Nat)(c:Int)(n:Int)(i:Int):Tr (AO ⊕ AO):=
 let x1:Int:= ↑o.length
 let x2:Int:= ↑y.length
 let x3:Int:=IntKind.i64.wrap (IntKind.i64.wrap ↑(o.getD i.toNat 0)-c)
 let x4:Int:=IntKind.i64.wrap (x3-IntKind.i64.wrap ↑(y.getD i.toNat 0))
 let x5:List Nat:=aL y.length (aD y)
 let x6:Int:=IntKind.i64.wrap (i+1)
 .ite (decide (i<n)) (.need (decide (0≤i∧i<x1)) (.need (decide (i.toNat<o.length)) (.ite (decide (i<x2)) (.need (decide (0≤i∧i<x2)) (.need (decide (i.toNat<y.length)) (.ite (decide (x4<0)) (.need (decide (0≤i∧i<x1)) (.need (decide (i.toNat<o.length)) (.need (decide (y.length=y.length)) (.need (decide (o.length=o.length)) (.need (aJ y.length (aD y)) (.need (aJ o.length (aP (aD o) i.toNat 0 [IV.v (.int IntKind.u32 (IntKind.u32.wrap (IntKind.i64.wrap (x4+4294967296))))].reverse)) (.ret (Sum.inl {y:=x5,o:=aL o.length (aP (aD o) i.toNat 0 [IV.v (.int IntKind.u32 (IntKind.u32.wrap (IntKind.i64.wrap (x4+4294967296))))].reverse),c:=1,n:=n,i:=x6})))))))) (.need (decide (0≤i∧i<x1)) (.need (decide (i.toNat<o.length)) (.need (decide (y.length=y.length)) (.need (decide (o.length=o.length)) (.need (aJ y.length (aD y)) (.need (aJ o.length (aP (aD o) i.toNat 0 [IV.v (.int IntKind.u32 (IntKind.u32.wrap x4))].reverse)) (.ret (Sum.inl {y:=x5,o:=aL o.length (aP (aD o) i.toNat 0 [IV.v (.int IntKind.u32 (IntKind.u32.wrap x4))].reverse),c:=0,n:=n,i:=x6}))))))))))) (.ite (decide (x3<0)) (.need (decide (0≤i∧i<x1)) (.need (decide (i.toNat<o.length)) (.need (decide (y.length=y.length)) (.need (decide (o.length=o.length)) (.need (aJ y.length (aD y)) (.need (aJ o.length (aP (aD o) i.toNat 0 [IV.v (.int IntKind.u32 (IntKind.u32.wrap (IntKind.i64.wrap (x3+4294967296))))].reverse)) (.ret (Sum.inl {y:=x5,o:=aL o.length (aP (aD o) i.toNat 0 [IV.v (.int IntKind.u32 (IntKind.u32.wrap (IntKind.i64.wrap (x3+4294967296))))].reverse),c:=1,n:=n,i:=x6})))))))) (.need (decide (0≤i∧i<x1)) (.need (decide (i.toNat<o.length)) (.need (decide (y.length=y.length)) (.need (decide (o.length=o.length)) (.need (aJ y.length (aD y)) (.need (aJ o.length (aP (aD o) i.toNat 0 [IV.v (.int IntKind.u32 (IntKind.u32.wrap x3))].reverse)) (.ret (Sum.inl {y:=x5,o:=aL o.length (aP (aD o) i.toNat 0 [IV.v (.int IntKind.u32 (IntKind.u32.wrap x3))].reverse),c:=0,n:=n,i:=x6})))))))))))) (.need (decide (y.length=y.length)) (.need (decide (o.length=o.length)) (.need (aJ y.length (aD y)) (.need (aJ o.length (aD o)) (.ret (Sum.inr {y:=x5,o:=aL o.length (aD o),c:=c,n:=n,i:=i}))))))
theorem Vn(w:Way AO)(x:AO):(exec Tryz.prog (λ_=>none) bX 1005 (bn 0 (codeOf Tryz.f227)) (iQ (JU w).nIn ((JU w).head x))).bind ((JU w).fin 0 0)=zZ x.y x.o x.c x.n x.i:=by
 obtain⟨y,o,c,n,i⟩:=x
 kernel_rfl
theorem z8(X Y i:Nat):borrow X Y i≤1:=by unfold borrow;split<;>omega
theorem ai4(X Y i:Nat)(h:Y≤X):(X-Y)/BB^i+Y/BB^i+borrow X Y i=X/BB^i:=by
 have hp:0<BB^i:=Nat.pow_pos (by decide);have h1:=Nat.div_add_mod X (BB^i);have h2:=Nat.div_add_mod Y (BB^i);have h3:=Nat.mod_lt X hp;have h4:=Nat.mod_lt Y hp;unfold borrow;generalize hP:BB^i=P at*;have hle:Y/P≤X/P:=Nat.div_le_div_right h;by_cases hb:X%P<Y%P
 ·rw[if_pos hb]
  have hlt:Y/P<X/P:=by
   rcases Nat.lt_or_ge (Y/P) (X/P)with h|h
   ·exact h
   ·have he:Y/P=X/P:=by omega
    rw[he]at h2;omega
  obtain⟨k,hk⟩: ∃k,X/P=Y/P+(k+1):=⟨X/P-Y/P-1,by omega⟩
  have e:X-Y=(P+X%P-Y%P)+P*k:=by
   rw[hk,Nat.mul_add,Nat.mul_add]at h1;omega
  rw[e,Nat.add_mul_div_left _ _ hp,Nat.div_eq_of_lt (show P+X%P-Y%P<P by omega)];omega
 ·rw[if_neg hb]
  obtain⟨k,hk⟩: ∃k,X/P=Y/P+k:=⟨X/P-Y/P,by omega⟩
  have e:X-Y=(X%P-Y%P)+P*k:=by
   rw[hk,Nat.mul_add]at h1;omega
  rw[e,Nat.add_mul_div_left _ _ hp,Nat.div_eq_of_lt (show X%P-Y%P<P by omega)];omega
theorem MH(X Y i:Nat)(h:Y≤X):(X-Y)/BB^i%BB=(X/BB^i%BB+BB-borrow X Y i-Y/BB^i%BB)%BB:=by
 have e:=ai4 X Y i h;have hb:=z8 X Y i;generalize (X-Y)/BB^i=a at*;generalize X/BB^i=x at*;generalize Y/BB^i=y at*;unfold BB;omega
theorem zn(X Y i:Nat):borrow X Y (i+1)=if X/BB^i%BB<borrow X Y i+Y/BB^i%BB then 1 else 0:=by
 have hp:0<BB^i:=Nat.pow_pos (by decide);have h3:=Nat.mod_lt X hp;have h4:=Nat.mod_lt Y hp;unfold borrow;rw[Nat.mod_pow_succ,Nat.mod_pow_succ];generalize X/BB^i%BB=x;generalize Y/BB^i%BB=y;generalize X%BB^i=X' at*;generalize Y%BB^i=Y' at*;generalize BB^i=P at*;have key:X'+P*x<Y'+P*y↔x<(if X'<Y' then 1 else 0)+y:=by
  rcases Nat.lt_trichotomy x y with h|h|h
  ·obtain⟨k,rfl⟩: ∃k,y=x+(k+1):=⟨y-x-1,by omega⟩
   have:P*(x+(k+1))=P*x+P*k+P:=by rw[Nat.mul_add,Nat.mul_add];omega
   constructor
   ·intro _;split<;>omega
   ·intro _;rw[this];omega
  ·subst h
   split<;>constructor<;>omega
  ·obtain⟨k,rfl⟩: ∃k,x=y+(k+1):=⟨x-y-1,by omega⟩
   have:P*(y+(k+1))=P*y+P*k+P:=by rw[Nat.mul_add,Nat.mul_add];omega
   rw[this];constructor
   ·intro _;omega
   ·intro hh;split at hh<;>omega
 by_cases hc:X'+P*x<Y'+P*y
 ·rw[if_pos hc,if_pos (key.1 hc)]
 ·rw[if_neg hc,if_neg (λh=>hc (key.2 h))]
theorem Vo(y:List Nat)(hy:okD y=true)(X n i:Nat)(hX:aF y≤X)(hn:n≤1000000000)(hi:i<n){R:AO ⊕ AO→Prop}
  (hin:R (.inl ⟨y,fq X (X-aF y) n (i+1),(borrow X (aF y) (i+1):Nat),(n:Nat),((i+1:Nat):Int)⟩)):
  (zZ y (fq X (X-aF y) n i) (borrow X (aF y) i:Nat) (n:Nat) (i:Nat)).sat R:=by
 have hc:=z8 X (aF y) i;have hYl:=xI y hy;have ho:=lJ X (X-aF y) n i i hi;rw[if_neg (Nat.lt_irrefl _)]at ho;have hox:X/BB^i%BB<4294967296:=Nat.mod_lt _ (by decide);have hyx:aF y/BB^i%BB<4294967296:=Nat.mod_lt _ (by decide);have hs:=pR X (X-aF y) n i hi;have had:=MH X (aF y) i hX;have hcs:=zn X (aF y) i;have w5:IntKind.i64.wrap ((i:Int)+1)=((i+1:Nat):Int):=jR;have hyg:y.getD i 0=aF y/BB^i%BB:=by
  by_cases hl:i<y.length
  ·have:=jA y hy
   rw[←this,mF _ _ _ hl,this]
  ·rw[Dq hYl (by omega)]
   simp[dR,List.getElem?_eq_none (Nat.le_of_not_lt hl)]
 have hyz: ¬i<y.length→aF y/BB^i%BB=0:=λh=>by rw[Dq hYl (by omega)];rfl
 generalize borrow X (aF y) i=c at hc had hcs;generalize borrow X (aF y) (i+1)=c' at hcs hin;generalize hO:X/BB^i%BB=ox at hox ho had hcs;generalize aF y/BB^i%BB=yx at hyx had hcs hyg hyz;have a1:IntKind.i64.wrap ((ox:Nat):Int)=((ox:Nat):Int):=wrap_i64 (by omega);have a2:IntKind.i64.wrap (((ox:Nat):Int)-((c:Nat):Int))=((ox:Nat):Int)-((c:Nat):Int):=wrap_i64 (by omega);have a3:IntKind.i64.wrap ((yx:Nat):Int)=((yx:Nat):Int):=wrap_i64 (by omega);have a4:IntKind.i64.wrap (((ox:Nat):Int)-((c:Nat):Int)-((yx:Nat):Int))=((ox:Nat):Int)-((c:Nat):Int)-((yx:Nat):Int):=wrap_i64 (by omega);unfold zZ;simp only[Int.toNat_natCast,ho,hyg,w5,a1,a2,a3,a4,eD,aW];have e2:=aW (fq X (X-aF y) n (i+1));rw[eD]at e2
 have key: ∀(z:Int) (b:Nat),z=(((ox+BB-c-yx)%BB:Nat):Int)→b=c'→
   Tr.sat R (Tr.need (aJ n (aP (aD (fq X (X-aF y) n i)) i 0 [IV.v (.int .u32 z)].reverse)) (Tr.ret (Sum.inl ⟨y,aL n (aP (aD (fq X (X-aF y) n i)) i 0 [IV.v (.int .u32 z)].reverse),(b:Nat),(n:Nat),((i+1:Nat):Int)⟩))):=by
  intro z b hz hb;subst hz hb;rw[gK _ _ _ (by rw[eD];exact hi), ←had,hs,e2];exact ah (aQ (lK _ _ _ _) _) (av hin)
 unfold BB at key;have k1: ∀d:Int,d=((ox:Nat):Int)-c-yx→d<0→IntKind.u32.wrap (IntKind.i64.wrap (d+4294967296))=(((ox+4294967296-c-yx)%4294967296:Nat):Int)∧1=c':=by
  intro d hd h0;constructor
  ·rw[wrap_i64 (by omega),wrap_u32];omega
  ·rw[hcs,if_pos (by omega)]
 have k2: ∀d:Int,d=((ox:Nat):Int)-c-yx→ ¬d<0→IntKind.u32.wrap d=(((ox+4294967296-c-yx)%4294967296:Nat):Int)∧0=c':=by
  intro d hd h0;constructor
  ·rw[wrap_u32];omega
  ·rw[hcs,if_neg (by omega)]
 refine au (λ_=>ah (bQ) (ah (fZ hi) (au (λh=> ?_) (λh=> ?_)))) (λh=>absurd (show(i:Int)<(n:Nat)by omega) (of_decide_eq_false h))
 ·have h:=j4 h
  refine ah (bQ) (ah (bQ) (au (λh0=> ?_) (λh0=> ?_)))
  ·obtain⟨q1,q2⟩:=k1 _ rfl (j4 h0)
   exact ah (bQ) (ah (fZ hi) (ah (by simp) (ah (by simp) (ah (aQ hy _) (key _ _ q1 q2)))))
  ·obtain⟨q1,q2⟩:=k2 _ rfl (of_decide_eq_false h0)
   exact ah (bQ) (ah (fZ hi) (ah (by simp) (ah (by simp) (ah (aQ hy _) (key _ _ q1 q2)))))
 ·have h:=of_decide_eq_false h
  have hz:=hyz (by omega);refine au (λh0=> ?_) (λh0=> ?_)
  ·obtain⟨q1,q2⟩:=k1 (((ox:Nat):Int)-c) (by omega) (j4 h0)
   exact ah (bQ) (ah (fZ hi) (ah (by simp) (ah (by simp) (ah (aQ hy _) (key _ _ q1 q2)))))
  ·obtain⟨q1,q2⟩:=k2 (((ox:Nat):Int)-c) (by omega) (of_decide_eq_false h0)
   exact ah (bQ) (ah (fZ hi) (ah (by simp) (ah (by simp) (ah (aQ hy _) (key _ _ q1 q2)))))
theorem YC(y:List Nat)(hy:okD y=true)(X n:Nat)(hX:aF y≤X)(hn:n≤1000000000)(Q:AO→Prop)(hq:Q ⟨y,bB (X-aF y) n,(borrow X (aF y) n:Nat),(n:Nat),(n:Nat)⟩): ∀(k i:Nat),i+k=n→
  dJ (λx:AO=>zZ x.y x.o x.c x.n x.i) Q (k+1) ⟨y,fq X (X-aF y) n i,(borrow X (aF y) i:Nat),(n:Nat),(i:Nat)⟩
 | 0,i,hi=>by
   obtain rfl:i=n:=by omega
   rw[zm];unfold dJ
   change Tr.sat _ (zZ y (bB (X-aF y) i) (borrow X (aF y) i:Nat) (i:Nat) (i:Nat))
   have e:=aW (bB (X-aF y) i);unfold zZ;rw[e,aW];exact au (λh=>absurd (j4 h) (Int.lt_irrefl _)) (λ_=>ah (by simp) (ah (by simp) (ah (aQ hy _) (ah (aQ (dH _ _) _) (av hq)))))
 | k+1,i,hi=>Vo y hy X n i hX hn (by omega) (YC y hy X n hX hn Q hq k (i+1) (by omega))
theorem Vp:bF Tryz.prog 0 aap (codeOf Tryz.f227):=by
 refine bG (d:=λid=>Nat.beq id 0) (λid=>by unfold aap;cases Nat.beq id 0<;>rfl) _ ?_;have hb:bU (λid=>Nat.beq id 0) (codeOf Tryz.f227)=[(0,.loop (bn 0 (codeOf Tryz.f227)))]:=by kernel_rfl
 rw[hb];intro p hp g hg;simp only[List.mem_singleton]at hp;subst hp;have hh:aap 0=some ((JU BQ).g 0):=rfl;rw[hh]at hg;obtain rfl:g=(JU BQ).g 0:=(Option.some.inj hg).symm;refine aZ.sU (N:=1005) aj eP (L:=bX) (ak 0 _) (Vm _) (Vn BQ) ?_;rintro⟨y,o,c,n,i⟩ hx;have hx:BQ.pre ⟨y,o,c,n,i⟩=true:=hx;simp only[BQ,cu,fT]at hx;obtain⟨⟨⟨⟨⟨⟨rfl,rfl⟩,rfl⟩,h4⟩,h5⟩,h6⟩,h7⟩:=hx;have:=YC y h4 (aF o) o.length h7 h6 (· =BQ.res ⟨y,o,0,(o.length:Nat),0⟩) rfl o.length 0 (by omega);rw[wK,jA o h5]at this;have c0:borrow (aF o) (aF y) 0=0:=by simp[borrow,Nat.mod_one]
 rw[c0]at this;exact⟨_,this⟩
end Go.bI
namespace Go.bI
open Go.Proofs
def ao3(a:ByteArray)(b:ByteArray):Tr AV:=
 let x1:Int:=IntKind.u64.wrap (iZ a-iZ b)
 let x2:List UInt8:=a.data.toList
 let x3:List UInt8:=b.data.toList
 let x4:Int:= ↑(bJ x2.length)
 let x5:Int:=((4:Nat):Int)*x4
 let x6:Nat:=x4.toNat
 let x7:Nat:=min (bJ x2.length) x6
 let x8:Int:= ↑x6
 let x9:List Nat:=aL x6 λi=>if i<x7 then aD (bB (aO x2) (bJ x2.length)) i else List.map IV.v [Value.int IntKind.u32 0]
 let x10:Nat:=x9.length
 let fI:Int:= ↑x10
 let fU:List Nat:=aL (bJ x3.length) (aD (bB (aO x3) (bJ x3.length)))
 let iM:Nat:=aF fU
 let iR:Nat:=aF x9
 let jH:List Nat:=bB (iR-iM) x10
 let kE:Nat:=jH.length
 .ite (iq a&&iq b) (.need (jV x1) (.ret (.c (.v (.string ⟨⟨aA x1.toNat⟩⟩))))) (.need (decide (x2.length≤1000000000)) (.need (decide (x3.length≤1000000000)) (.need (decide (x4=x4)) (.need true (.need (decide (x4≤9223372036854775807)) (.need (decide (x5≤140737488355328)) (.need (decide (x6≤x6)) (.need (decide (bJ x2.length≤bJ x2.length)) (.need (decide (bJ x3.length=bJ x3.length)) (.need (decide (x6=x6)) (.need (aJ (bJ x3.length) (aD (bB (aO x3) (bJ x3.length)))) (.need (aJ x6 λi=>if i<x7 then aD (bB (aO x2) (bJ x2.length)) i else List.map IV.v [Value.int IntKind.u32 0]) (.need (decide (x8=fI)&&decide ((0:Int)=0)&&decide ((0:Int)=0)&&okD fU&&okD x9&&decide (x10≤1000000000)&&decide (iM≤iR)) (.need (decide (kE≤kE)) (.need (aJ kE (aD jH)) (.need (decide (kE≤1000000000)) (.ret (.c (.v (.string ⟨⟨aA (aF (aL kE (aD jH)))⟩⟩))))))))))))))))))))
theorem ai5(a b:ByteArray):aI Tryz.prog ao2 aap 1005 Tryz.f227 [.c (.v (.string a)),.c (.v (.string b))]=ao3 a b:=by kernel_rfl
theorem ai6: ∀f s,ao2 f=some s→aR Tryz.prog f s:=step_ok Di.spec (step_ok zS.spec (step_ok H8.spec (bS Ii.spec)))
theorem pU(s:ByteArray)(hs:iq s=true):iZ s=((aO s.data.toList:Nat):Int):=by
 have:s.data.toList.length≤8:=j4 hs;unfold iZ;rw[if_pos this]
theorem sV(s:ByteArray)(hs:iq s=true):aO s.data.toList<18446744073709551616:=by
 have h8:s.data.toList.length≤8:=j4 hs;have:=uW s.data.toList;have h2:256^s.data.toList.length≤256^8:=Nat.pow_le_pow_right (by decide) h8;have h3:256^8=18446744073709551616:=by decide
 omega
theorem adW(a b:ByteArray)(ha:a.data.toList.length≤100000000)(hb:b.data.toList.length≤100000000)(hle:aO b.data.toList≤aO a.data.toList):(ao3 a b).sat λr=>r=oq (aA (aO a.data.toList-aO b.data.toList)):=by
 have la:=qY a;have lb:=qY b;have na:bJ a.data.toList.length≤25000001:=by unfold bJ;omega
 have nb:bJ b.data.toList.length≤25000001:=by unfold bJ;omega
 have ea:(aL (bJ a.data.toList.length) λi=>if i<bJ a.data.toList.length then aD (bB (aO a.data.toList) (bJ a.data.toList.length)) i else List.map IV.v [Value.int IntKind.u32 0])=bB (aO a.data.toList) (bJ a.data.toList.length):=by
  have:=aW (bB (aO a.data.toList) (bJ a.data.toList.length));rw[bV]at this;refine Eq.trans ?_ this;unfold aL;refine List.map_congr_left λk hk=> ?_
  exact congrArg u32Of (if_pos (List.mem_range.1 hk))
 have eb:aL (bJ b.data.toList.length) (aD (bB (aO b.data.toList) (bJ b.data.toList.length)))=bB (aO b.data.toList) (bJ b.data.toList.length):=by
  have:=aW (bB (aO b.data.toList) (bJ b.data.toList.length));rw[bV]at this;exact this
 have ia:(aJ (bJ a.data.toList.length) λi=>if i<bJ a.data.toList.length then aD (bB (aO a.data.toList) (bJ a.data.toList.length)) i else List.map IV.v [Value.int IntKind.u32 0])=true:=by
  refine List.all_eq_true.2 λk hk=> ?_
  refine(congrArg Rf (if_pos (List.mem_range.1 hk))).trans ?_;exact List.all_eq_true.1 (aQ (dH _ _) (bJ a.data.toList.length)) k hk
 unfold ao3;simp only[Int.toNat_natCast,Nat.min_self,ea,ia,eb,fH _ _ la,fH _ _ lb,bV];have efa:=aW (bB (aO a.data.toList-aO b.data.toList) (bJ a.data.toList.length));rw[bV]at efa;simp only[efa,fH _ _ (show aO a.data.toList-aO b.data.toList<BB^bJ a.data.toList.length by omega)];refine au (λhw=> ?_) (λhw=> ?_)
 ·rw[cu]at hw
  have h1:=sV a hw.1;rw[pU a hw.1,pU b hw.2];have e:IntKind.u64.wrap (((aO a.data.toList:Nat):Int)-((aO b.data.toList:Nat):Int))=((aO a.data.toList-aO b.data.toList:Nat):Int):=by rw[wrap_u64];omega
  rw[e,Int.toNat_natCast];exact ah (by simp[jV];omega) (av rfl)
 ·refine ah (bQ) (ah (bQ) (ah (by simp) (ah rfl (ah (bQ) (ah (bQ) (ah (by simp) (ah (by simp) (ah (by simp) (ah (by simp) (ah (aQ (dH _ _) _) (ah rfl (ah ?_ (ah (by simp) (ah (aQ (dH _ _) _) (ah (bQ) (av rfl))))))))))))))))
  simp only[dH,Bool.and_true,cu,fT];refine⟨⟨⟨⟨trivial,trivial⟩,trivial⟩,by omega⟩,hle⟩
theorem YD:aN Tryz.prog 227 adV:=by
 refine aM aj ai6 (fn:=Tryz.f227) (c:=codeOf Tryz.f227) (by kernel_rfl) (by kernel_rfl) (aG (fn:=Tryz.f227) (c:=codeOf Tryz.f227) (by kernel_rfl) (by kernel_rfl) (by kernel_rfl)) (L:=aap) (N:=1005) Vp ?_ ?_
 ·intro args v cs h
  unfold adV at h
  split at h
  ·cases h;rfl
  ·cases h
 ·intro args v cs h hc
  unfold adV at h
  split at h
  ·rename_i a b
   cases h;have h1:a.data.toList.length≤100000000:=dec (hc (decide (a.data.toList.length≤100000000)) (by simp));have h2:b.data.toList.length≤100000000:=dec (hc (decide (b.data.toList.length≤100000000)) (by simp));have h3:aO b.data.toList≤aO a.data.toList:=dec (hc (decide (aO b.data.toList≤aO a.data.toList)) (by simp));have hs:=adW a b h1 h2 h3;rw[←ai5]at hs;generalize aI Tryz.prog ao2 aap 1005 Tryz.f227 [.c (.v (.string a)),.c (.v (.string b))]=T at hs⊢;generalize aA (aO a.data.toList-aO b.data.toList)=z at hs⊢;exact Tr.bC (λr hr=>⟨by subst hr;rfl,bM.of_eq hr⟩) hs
  ·cases h
end Go.bI
namespace Go.bI
open Go.Proofs
structure rZ where
 y:List Nat
 o:List Nat
 i:Int
 d:Int
 c:Int
 x:List Nat
 N:Int
 I:Int
 n:Int
 k:Int
def zo(x:rZ):List AV×List (Option jk):=([.iP 0 x.y.length 1,.iP 1 x.o.length 1,dn .i64 x.i,dn .u32 x.d,dn .u64 x.c,.iP 2 x.x.length 1,dn .i64 x.N,dn .i64 x.I,dn .i64 x.n,dn .i64 x.k],[some (.arr x.y.length 1 (aD x.y) 335),some (.arr x.o.length 1 (aD x.o) 335),some (.arr x.x.length 1 (aD x.x) 335)])
def Dt:List AV×List (Option jk)→Option (rZ×List Bool)
 | ([.iP 0 my 1,.iP 1 mo 1,.c (.v (.int .i64 i)),.c (.v (.int .u32 d)),.c (.v (.int .u64 c)),.iP 2 mx 1,.c (.v (.int .i64 N)),.c (.v (.int .i64 I)),.c (.v (.int .i64 n)),.c (.v (.int .i64 k))],[some (.arr ky 1 ey 335),some (.arr ko 1 eo 335),some (.arr kx 1 ex 335)])=>some (⟨aL my ey,aL mo eo,i,d,c,aL mx ex,N,I,n,k⟩,[decide (my=ky),decide (mo=ko),decide (mx=kx),aJ my ey,aJ mo eo,aJ mx ex])
 | _=>none
def BR(w:Way rZ):aZ rZ rZ where
 nIn:={nt:=97,live:=[11,12,13,14,15,46,47,48,54,55]}
 rD:={nt:=97,live:=[11,12,13,14,15,46,47,48,54,55]}
 head:=zo
 take:=Dt
 out:=λr=>(.normal,zo r)
 jC:=λq=>match q with|(.normal,q)=>Dt q | _=>none
 res:=w.res
 pre:=w.pre
theorem Gn(q:List AV×List (Option jk))(x:rZ)(cs:List Bool)(h:Dt q=some (x,cs))(hc: ∀p∈cs,p):eY q.1 (zo x).1∧dz q.2 (zo x).2:=by
 unfold Dt at h
 split at h
 ·rename_i my mo i d c mx N I n k ky ey ko eo kx ex
  simp only[fK,Prod.mk.injEq]at h;obtain⟨rfl,rfl⟩:=h;have hy:my=ky:=dec (hc (decide (my=ky)) (by simp));have gy:aJ my ey=true:=hc (aJ my ey) (by simp);have ho:mo=ko:=dec (hc (decide (mo=ko)) (by simp));have go:aJ mo eo=true:=hc (aJ mo eo) (by simp);have hx:mx=kx:=dec (hc (decide (mx=kx)) (by simp));have gx:aJ mx ex=true:=hc (aJ mx ex) (by simp);subst hy;subst ho;subst hx;simp only[zo,kP];exact⟨eY.refl _,.cons (.arr _ _ _ _ _ (jg gy).1) (.cons (.arr _ _ _ _ _ (jg go).1) (.cons (.arr _ _ _ _ _ (jg gx).1) (.nil)))⟩
 ·cases h
theorem Rn(w:Way rZ):(BR w).gI where
 take:=Gn
 jC:=by
  intro e q r cs h hc;cases e with
  | normal=>obtain⟨h1,h2⟩:=Gn q r cs h hc;exact⟨rfl,h1,h2⟩
  | exit j=>cases h
  | ret=>cases h
 split:=λr Q h=>h
def qh(o d Y i k:Nat):Nat:=o%BB^(i+k)+d*(Y%BB^k)*BB^i
def uZ:Way rZ:=⟨λx=>⟨x.y,fq (aF x.o) (aF x.o+x.d.toNat*aF x.y*BB^x.i.toNat) x.o.length (x.i.toNat+x.y.length),x.i,x.d,(qh (aF x.o) x.d.toNat (aF x.y) x.i.toNat x.y.length/BB^(x.i.toNat+x.y.length):Nat),x.x,x.N,x.I,x.n,x.n⟩,
 λx=>decide (x.n=(x.y.length:Nat))&&decide (x.k=0)&&decide (x.c=0)&&okD x.y&&okD x.o&&okD x.x&&decide (x.o.length≤1000000000)&&decide (0≤x.i)&&decide (x.i.toNat+x.y.length≤x.o.length)&&decide (0≤x.d)&&decide (x.d<4294967296)⟩
def MI:Nat→Option (St→Tr (Ex×St)):=λid=>bif Nat.beq id 2 then some ((BR uZ).g 0)else none
structure AP where
 y:List Nat
 o:List Nat
 x:List Nat
 N:Int
 I:Int
def Du(x:AP):List AV×List (Option jk):=([.iP 0 x.y.length 1,.iP 1 x.o.length 1,.iP 2 x.x.length 1,dn .i64 x.N,dn .i64 x.I],[some (.arr x.y.length 1 (aD x.y) 335),some (.arr x.o.length 1 (aD x.o) 335),some (.arr x.x.length 1 (aD x.x) 335)])
def Il:List AV×List (Option jk)→Option (AP×List Bool)
 | ([.iP 0 my 1,.iP 1 mo 1,.iP 2 mx 1,.c (.v (.int .i64 N)),.c (.v (.int .i64 I))],[some (.arr ky 1 ey 335),some (.arr ko 1 eo 335),some (.arr kx 1 ex 335)])=>some (⟨aL my ey,aL mo eo,aL mx ex,N,I⟩,[decide (my=ky),decide (mo=ko),decide (mx=kx),aJ my ey,aJ mo eo,aJ mx ex])
 | _=>none
def JW(w:Way AP):aZ AP AP where
 nIn:={nt:=97,live:=[11,12,46,47,48]}
 rD:={nt:=97,live:=[11,12,46,47,48]}
 head:=Du
 take:=Il
 out:=λr=>(.normal,Du r)
 jC:=λq=>match q with|(.normal,q)=>Il q | _=>none
 res:=w.res
 pre:=w.pre
theorem JX(q:List AV×List (Option jk))(x:AP)(cs:List Bool)(h:Il q=some (x,cs))(hc: ∀p∈cs,p):eY q.1 (Du x).1∧dz q.2 (Du x).2:=by
 unfold Il at h
 split at h
 ·rename_i my mo mx N I ky ey ko eo kx ex
  simp only[fK,Prod.mk.injEq]at h;obtain⟨rfl,rfl⟩:=h;have hy:my=ky:=dec (hc (decide (my=ky)) (by simp));have gy:aJ my ey=true:=hc (aJ my ey) (by simp);have ho:mo=ko:=dec (hc (decide (mo=ko)) (by simp));have go:aJ mo eo=true:=hc (aJ mo eo) (by simp);have hx:mx=kx:=dec (hc (decide (mx=kx)) (by simp));have gx:aJ mx ex=true:=hc (aJ mx ex) (by simp);subst hy;subst ho;subst hx;simp only[Du,kP];exact⟨eY.refl _,.cons (.arr _ _ _ _ _ (jg gy).1) (.cons (.arr _ _ _ _ _ (jg go).1) (.cons (.arr _ _ _ _ _ (jg gx).1) (.nil)))⟩
 ·cases h
theorem Vq(w:Way AP):(JW w).gI where
 take:=JX
 jC:=by
  intro e q r cs h hc;cases e with
  | normal=>obtain⟨h1,h2⟩:=JX q r cs h hc;exact⟨rfl,h1,h2⟩
  | exit j=>cases h
  | ret=>cases h
 split:=λr Q h=>h
end Go.bI
namespace Go.bI
open Go.Proofs
def wL(y:List Nat)(o:List Nat)(i:Int)(d:Int)(c:Int)(x:List Nat)(N:Int)(I:Int)(n:Int)(k:Int):Tr (rZ ⊕ rZ):=
 let x1:Int:=IntKind.i64.wrap (i+k)
 let x2:Int:= ↑o.length
 let x3:Nat:=x1.toNat
 let x4:Int:= ↑y.length
 let x5:Int:=IntKind.u64.wrap (c+IntKind.u64.wrap (IntKind.u64.wrap ↑(o.getD x3 0)+IntKind.u64.wrap (IntKind.u64.wrap d*IntKind.u64.wrap ↑(y.getD k.toNat 0))))
 let x6:List Nat:=aL y.length (aD y)
 let x7:List Nat:=aL x.length (aD x)
 .ite (decide (k<n)) (.need (decide (0≤x1∧x1<x2)) (.need (decide (x3<o.length)) (.need (decide (0≤k∧k<x4)) (.need (decide (k.toNat<y.length)) (.need true (.need (decide (0≤x1∧x1<x2)) (.need (decide (x3<o.length)) (.need (decide (y.length=y.length)) (.need (decide (o.length=o.length)) (.need (decide (x.length=x.length)) (.need (aJ y.length (aD y)) (.need (aJ o.length (aP (aD o) x3 0 [IV.v (.int IntKind.u32 (IntKind.u32.wrap x5))].reverse)) (.need (aJ x.length (aD x)) (.ret (Sum.inl {y:=x6,o:=aL o.length (aP (aD o) x3 0 [IV.v (.int IntKind.u32 (IntKind.u32.wrap x5))].reverse),i:=i,d:=d,c:=x5.fdiv (2^min (Int.toNat 32) IntKind.u64.bits),x:=x7,N:=N,I:=I,n:=n,k:=IntKind.i64.wrap (k+1)}))))))))))))))) (.need (decide (y.length=y.length)) (.need (decide (o.length=o.length)) (.need (decide (x.length=x.length)) (.need (aJ y.length (aD y)) (.need (aJ o.length (aD o)) (.need (aJ x.length (aD x)) (.ret (Sum.inr {y:=x6,o:=aL o.length (aD o),i:=i,d:=d,c:=c,x:=x7,N:=N,I:=I,n:=n,k:=k}))))))))
theorem Ro(w:Way rZ)(x:rZ):(exec Tryz.prog (λ_=>none) bX 1005 (bn 2 (codeOf Tryz.f224)) (iQ (BR w).nIn ((BR w).head x))).bind ((BR w).fin 0 2)=wL x.y x.o x.i x.d x.c x.x x.N x.I x.n x.k:=by
 obtain⟨y,o,i,d,c,x,N,I,n,k⟩:=x
 kernel_rfl
theorem ai7(o d Y i k:Nat)(hd:d<BB):qh o d Y i k<BB*BB^(i+k):=by
 have h1:o%BB^(i+k)<BB^(i+k):=Nat.mod_lt _ (Nat.pow_pos (by decide));have h2:Y%BB^k<BB^k:=Nat.mod_lt _ (Nat.pow_pos (by decide));have h3:d*(Y%BB^k)*BB^i≤(BB-1)*BB^(i+k):=by
  calc d*(Y%BB^k)*BB^i≤((BB-1)*BB^k)*BB^i:=Nat.mul_le_mul_right _ (Nat.mul_le_mul (by omega) (by omega))
   _=(BB-1)*BB^(i+k):=by rw[Nat.mul_assoc, ←Nat.pow_add,Nat.add_comm k i]
 have h4:BB*BB^(i+k)=(BB-1)*BB^(i+k)+BB^(i+k):=by
  have:BB=(BB-1)+1:=rfl;rw[this,Nat.add_mul,Nat.one_mul];rfl
 unfold qh;omega
theorem OT(o d Y i k:Nat)(hd:d<BB):qh o d Y i k/BB^(i+k)<BB:=by
 rw[Nat.div_lt_iff_lt_mul (Nat.pow_pos (by decide))];exact ai7 o d Y i k hd
theorem aaq(o d Y i k:Nat):qh o d Y i (k+1)=qh o d Y i k+BB^(i+k)*(o/BB^(i+k)%BB+d*(Y/BB^k%BB)):=by
 unfold qh;rw[←Nat.add_assoc,Nat.mod_pow_succ,Nat.mod_pow_succ,Nat.pow_add];generalize o%(BB^i*BB^k)=a;generalize o/(BB^i*BB^k)%BB=b;generalize Y%BB^k=c;generalize Y/BB^k%BB=e;generalize BB^i=p;generalize BB^k=q;simp only[Nat.mul_add,Nat.add_mul];have e1:d*(q*e)*p=p*q*(d*e):=by simp only[Nat.mul_assoc,Nat.mul_comm,Nat.mul_left_comm]
 omega
theorem MJ(o d Y i k:Nat):qh o d Y i (k+1)/BB^(i+(k+1))=(qh o d Y i k/BB^(i+k)+(o/BB^(i+k)%BB+d*(Y/BB^k%BB)))/BB:=by
 rw[aaq, ←Nat.add_assoc,Nat.pow_succ, ←Nat.div_div_eq_div_mul,Nat.add_mul_div_left _ _ (Nat.pow_pos (by decide))]
theorem MK(o d Y i k:Nat):(o+d*Y*BB^i)/BB^(i+k)%BB=(qh o d Y i k/BB^(i+k)+(o/BB^(i+k)%BB+d*(Y/BB^k%BB)))%BB:=by
 have hp:0<BB^(i+k):=Nat.pow_pos (by decide);have e:o+d*Y*BB^i=qh o d Y i k+BB^(i+k)*(o/BB^(i+k)+d*(Y/BB^k)):=by
  have h1:=Nat.div_add_mod o (BB^(i+k));have h2:=Nat.div_add_mod Y (BB^k);unfold qh;have e2:d*Y*BB^i=d*(Y%BB^k)*BB^i+BB^(i+k)*(d*(Y/BB^k)):=by
   conv=>lhs;rw[←h2]
   rw[Nat.pow_add];generalize Y%BB^k=c;generalize Y/BB^k=e;generalize BB^i=p;generalize BB^k=q;simp only[Nat.mul_add,Nat.add_mul];have e1:d*(q*e)*p=p*q*(d*e):=by simp only[Nat.mul_assoc,Nat.mul_comm,Nat.mul_left_comm]
   omega
  rw[e2,Nat.mul_add];omega
 rw[e,Nat.add_mul_div_left _ _ hp];have e3:d*(Y/BB^k)%BB=d*(Y/BB^k%BB)%BB:=by rw[Nat.mul_mod,Nat.mul_mod d (Y/BB^k%BB),Nat.mod_mod]
 generalize qh o d Y i k/BB^(i+k)=a;generalize o/BB^(i+k)=b;generalize d*(Y/BB^k)=u at*;generalize d*(Y/BB^k%BB)=v at*;unfold BB at*;omega
theorem Rp(o d Y i m:Nat)(hY:Y<BB^m)(ho:o<BB^(i+m)):qh o d Y i m=o+d*Y*BB^i:=by
 unfold qh;rw[Nat.mod_eq_of_lt hY,Nat.mod_eq_of_lt ho]
theorem Vr(v j:Nat):v/BB^j%BB<4294967296:=Nat.mod_lt _ (by decide)
theorem wM{d e:Nat}(hd:d<4294967296)(he:e<4294967296):d*e≤18446744065119617025:=by
 calc d*e≤4294967295*4294967295:=Nat.mul_le_mul (by omega) (by omega)
  _=18446744065119617025:=by decide
theorem Rq(y x:List Nat)(hy:okD y=true)(hx:okD x=true)(X d n i k:Nat)(N I:Int)(hd:d<4294967296)(hn:n≤1000000000)(hk:k<y.length)(hi:i+y.length≤n){R:rZ ⊕ rZ→Prop}
  (hin:R (.inl ⟨y,fq X (X+d*aF y*BB^i) n (i+(k+1)),(i:Nat),(d:Nat),(qh X d (aF y) i (k+1)/BB^(i+(k+1)):Nat),x,N,I,(y.length:Nat),((k+1:Nat):Int)⟩)):
  (wL y (fq X (X+d*aF y*BB^i) n (i+k)) (i:Nat) (d:Nat) (qh X d (aF y) i k/BB^(i+k):Nat) x N I (y.length:Nat) (k:Nat)).sat R:=by
 have ho:=lJ X (X+d*aF y*BB^i) n (i+k) (i+k) (by omega);rw[if_neg (Nat.lt_irrefl _)]at ho;have hox:=Vr X (i+k);have hyx:=Vr (aF y) k;have hs:=pR X (X+d*aF y*BB^i) n (i+k) (by omega);have had:=MK X d (aF y) i k;have hcs:=MJ X d (aF y) i k;have hcl:=OT X d (aF y) i k hd;have hyg:y.getD k 0=aF y/BB^k%BB:=by
  have:=jA y hy;rw[←this,mF _ _ _ hk,this]
 have w0:IntKind.i64.wrap ((i:Int)+(k:Int))=((i+k:Nat):Int):=jR;have w1:IntKind.i64.wrap ((k:Int)+1)=((k+1:Nat):Int):=jR;generalize qh X d (aF y) i k/BB^(i+k)=c at hcl had hcs;generalize qh X d (aF y) i (k+1)/BB^(i+(k+1))=c' at hcs hin;generalize hO:X/BB^(i+k)%BB=ox at hox ho had hcs;generalize aF y/BB^k%BB=yx at hyx had hcs hyg;have hm:=wM hd hyx;unfold BB at hcl;have a1: ∀z:Nat,z<18446744073709551616→IntKind.u64.wrap ((z:Nat):Int)=((z:Nat):Int):=λz hz=>by rw[wrap_u64];omega
 have a2:IntKind.u64.wrap (((d:Nat):Int)*((yx:Nat):Int))=((d*yx:Nat):Int):=by rw[←Int.natCast_mul];exact a1 _ (by omega)
 have a3:IntKind.u64.wrap (((ox:Nat):Int)+((d*yx:Nat):Int))=((ox+d*yx:Nat):Int):=by rw[←Int.natCast_add];exact a1 _ (by omega)
 have a4:IntKind.u64.wrap (((c:Nat):Int)+((ox+d*yx:Nat):Int))=((c+(ox+d*yx):Nat):Int):=by rw[←Int.natCast_add];exact a1 _ (by omega)
 have a5:IntKind.u32.wrap ((c+(ox+d*yx):Nat):Int)=(((c+(ox+d*yx))%4294967296:Nat):Int):=by rw[wrap_u32];omega
 have a6:((c+(ox+d*yx):Nat):Int).fdiv (2^min (Int.toNat 32) IntKind.u64.bits)=(((c+(ox+d*yx))/4294967296:Nat):Int):=lH _ 4294967296;have e2:=aW (fq X (X+d*aF y*BB^i) n (i+k+1));rw[eD]at e2;unfold wL;simp only[Int.toNat_natCast,ho,hyg,w0,w1,a1 ox (by omega),a1 d (by omega),a1 yx (by omega),a2,a3,a4,a5,a6,eD,aW];rw[gK _ _ _ (by rw[eD];omega), ←had,hs,e2, ←hcs];refine au (λ_=> ?_) (λh=>absurd (show(k:Int)<(y.length:Nat)by omega) (of_decide_eq_false h));exact ah (bQ) (ah (bQ) (ah (bQ) (ah (fZ hk) (ah rfl (ah (bQ) (ah (bQ) (ah (by simp) (ah (by simp) (ah (by simp) (ah (aQ hy _) (ah (aQ (lK _ _ _ _) _) (ah (aQ hx _) (av hin)))))))))))))
theorem Rs(y x:List Nat)(hy:okD y=true)(hx:okD x=true)(X d n i:Nat)(N I:Int)(hd:d<4294967296)(hn:n≤1000000000)(hi:i+y.length≤n)(Q:rZ→Prop)
  (hq:Q ⟨y,fq X (X+d*aF y*BB^i) n (i+y.length),(i:Nat),(d:Nat),(qh X d (aF y) i y.length/BB^(i+y.length):Nat),x,N,I,(y.length:Nat),(y.length:Nat)⟩): ∀(j k:Nat),k+j=y.length→
  dJ (λx:rZ=>wL x.y x.o x.i x.d x.c x.x x.N x.I x.n x.k) Q (j+1) ⟨y,fq X (X+d*aF y*BB^i) n (i+k),(i:Nat),(d:Nat),(qh X d (aF y) i k/BB^(i+k):Nat),x,N,I,(y.length:Nat),(k:Nat)⟩
 | 0,k,hk=>by
   obtain rfl:k=y.length:=by omega
   unfold dJ
   change Tr.sat _ (wL y (fq X (X+d*aF y*BB^i) n (i+y.length)) (i:Nat) (d:Nat) (qh X d (aF y) i y.length/BB^(i+y.length):Nat) x N I (y.length:Nat) (y.length:Nat))
   have e:=aW (fq X (X+d*aF y*BB^i) n (i+y.length));unfold wL;rw[e,aW,aW];exact au (λh=>absurd (j4 h) (Int.lt_irrefl _)) (λ_=>ah (by simp) (ah (by simp) (ah (by simp) (ah (aQ hy _) (ah (aQ (lK _ _ _ _) _) (ah (aQ hx _) (av hq)))))))
 | j+1,k,hk=>Rq y x hy hx X d n i k N I hd hn (by omega) hi (Rs y x hy hx X d n i N I hd hn hi Q hq j (k+1) (by omega))
theorem adX: ∀p∈bU (λid=>Nat.beq id 2) (codeOf Tryz.f224), ∀g,MI p.1=some g→pG Tryz.prog 0 p.1 p.2 g:=by
 have hb:bU (λid=>Nat.beq id 2) (codeOf Tryz.f224)=[(2,.loop (bn 2 (codeOf Tryz.f224)))]:=by kernel_rfl
 rw[hb];intro p hp g hg;simp only[List.mem_singleton]at hp;subst hp;have hh:MI 2=some ((BR uZ).g 0):=rfl;rw[hh]at hg;obtain rfl:g=(BR uZ).g 0:=(Option.some.inj hg).symm;refine aZ.sU (N:=1005) aj eP (L:=bX) (ak 0 _) (Rn _) (Ro uZ) ?_;rintro⟨y,o,i,d,c,x,N,I,n,k⟩ hx;have hx:uZ.pre ⟨y,o,i,d,c,x,N,I,n,k⟩=true:=hx;simp only[uZ,cu,fT]at hx;obtain⟨⟨⟨⟨⟨⟨⟨⟨⟨⟨rfl,rfl⟩,rfl⟩,h4⟩,h5⟩,h6⟩,h7⟩,h8⟩,h9⟩,h10⟩,h11⟩:=hx;obtain⟨i,rfl⟩: ∃j:Nat,i=j:=⟨i.toNat,by omega⟩
 obtain⟨d,rfl⟩: ∃j:Nat,d=j:=⟨d.toNat,by omega⟩
 rw[Int.toNat_natCast]at h9;have:=Rs y x h4 h6 (aF o) d o.length i N I (by omega) h7 h9 (· =uZ.res ⟨y,o,(i:Nat),(d:Nat),0,x,N,I,(y.length:Nat),0⟩) (by simp[uZ]) y.length 0 (by omega);have e0:fq (aF o) (aF o+d*aF y*BB^i) o.length (i+0)=o:=by
  have e1:aF o+d*aF y*BB^i=aF o%BB^i+BB^i*(aF o/BB^i+d*aF y):=by
   have:=Nat.div_add_mod (aF o) (BB^i);rw[Nat.mul_add,Nat.mul_comm (BB^i) (d*aF y)];omega
  have e2:fq (aF o) (aF o+d*aF y*BB^i) o.length (i+0)=bB (aF o) o.length:=by
   rw[←wK (aF o) 0 o.length];unfold fq;refine List.map_congr_left λj hj=> ?_
   rw[if_neg (Nat.not_lt_zero j)]
   split
   ·rename_i hji
    obtain⟨m,rfl⟩: ∃m,i=j+(m+1):=⟨i-j-1,by omega⟩
    have hpj:0<BB^j:=Nat.pow_pos (by decide);have e3:d*aF y*BB^(j+(m+1))=BB^j*(BB*(d*aF y*BB^m)):=by
     rw[Nat.pow_add,Nat.pow_succ];simp only[Nat.mul_assoc,Nat.mul_comm,Nat.mul_left_comm]
    rw[e3,Nat.add_mul_div_left _ _ hpj,Nat.add_mul_mod_self_left]
   ·rfl
  rw[e2,jA o h5]
 have c0:qh (aF o) d (aF y) i 0/BB^(i+0)=0:=by
  refine Nat.div_eq_of_lt ?_;have:0<BB^i:=Nat.pow_pos (by decide);simp[qh,Nat.mod_one];exact Nat.mod_lt _ this
 rw[e0,c0]at this;exact⟨_,this⟩
theorem ai8:bF Tryz.prog 0 MI (bn 0 (codeOf Tryz.f224)):=by
 refine bG (d:=λid=>Nat.beq id 2) (λid=>by unfold MI;cases Nat.beq id 2<;>rfl) _ ?_;have hb:bU (λid=>Nat.beq id 2) (bn 0 (codeOf Tryz.f224))=bU (λid=>Nat.beq id 2) (codeOf Tryz.f224):=by kernel_rfl
 rw[hb];exact adX
end Go.bI
namespace Go.bI
open Go.Proofs
def Aa(y:List Nat)(o:List Nat)(x:List Nat)(N:Int)(I:Int):Tr (AP ⊕ AP):=
 let x1:Int:= ↑x.length
 let x2:Int:= ↑y.length
 let x3:List Nat:=aL y.length (aD y)
 let x4:Nat:=x3.length
 let x5:Int:= ↑x4
 let x6:List Nat:=aL o.length (aD o)
 let x7:List Nat:=aL x.length (aD x)
 let x8:Nat:=x6.length
 let x9:Nat:=I.toNat+x4
 let x10:Int:= ↑(x.getD I.toNat 0)
 let fI:Int:=IntKind.i64.wrap (I+x5)
 let fU:Nat:=x10.toNat
 let iM:List Nat:=fq (aF x6) (aF x6+fU*aF x3*BB^I.toNat) x8 x9
 let iR:Nat:=iM.length
 let jH:Int:= ↑iR
 let kE:Nat:=fI.toNat
 let jD:Nat:=x7.length
 .ite (decide (I<N)) (.need (decide (0≤I∧I<x1)) (.need (decide (I.toNat<x.length)) (.need (decide (y.length=y.length)) (.need (decide (o.length=o.length)) (.need (decide (x.length=x.length)) (.need (aJ y.length (aD y)) (.need (aJ o.length (aD o)) (.need (aJ x.length (aD x)) (.need (decide (x2=x5)&&decide ((0:Int)=0)&&decide ((0:Int)=0)&&okD x3&&okD x6&&okD x7&&decide (x8≤1000000000)&&decide (0≤I)&&decide (x9≤x8)&&decide (0≤x10)&&decide (x10<4294967296)) (.need (decide (0≤fI∧fI<jH)) (.need (decide (kE<iR)) (.need (decide (x4=x4)) (.need (decide (iR=iR)) (.need (decide (jD=jD)) (.need (aJ x4 (aD x3)) (.need (aJ iR (aP (aD iM) kE 0 [IV.v (.int IntKind.u32 (IntKind.u32.wrap ↑(qh (aF x6) fU (aF x3) I.toNat x4/BB^x9)))].reverse)) (.need (aJ jD (aD x7)) (.ret (Sum.inl {y:=aL x4 (aD x3),o:=aL iR (aP (aD iM) kE 0 [IV.v (.int IntKind.u32 (IntKind.u32.wrap ↑(qh (aF x6) fU (aF x3) I.toNat x4/BB^x9)))].reverse),x:=aL jD (aD x7),N:=N,I:=IntKind.i64.wrap (I+1)}))))))))))))))))))) (.need (decide (y.length=y.length)) (.need (decide (o.length=o.length)) (.need (decide (x.length=x.length)) (.need (aJ y.length (aD y)) (.need (aJ o.length (aD o)) (.need (aJ x.length (aD x)) (.ret (Sum.inr {y:=x3,o:=x6,x:=x7,N:=N,I:=I}))))))))
theorem Vs(w:Way AP)(x:AP):(exec Tryz.prog (λ_=>none) MI 1005 (bn 0 (codeOf Tryz.f224)) (iQ (JW w).nIn ((JW w).head x))).bind ((JW w).fin 0 0)=Aa x.y x.o x.x x.N x.I:=by
 obtain⟨y,o,x,N,I⟩:=x
 kernel_rfl
def BS:Way AP:=⟨λx=>⟨x.y,bB (aF x.x*aF x.y) x.o.length,x.x,x.N,x.N⟩,
 λx=>decide (x.N=(x.x.length:Nat))&&decide (x.I=0)&&okD x.y&&okD x.x&&decide (x.o=bB 0 x.o.length)&&decide (x.x.length+x.y.length+1=x.o.length)&&decide (x.o.length≤1000000000)⟩
def aar:Nat→Option (St→Tr (Ex×St)):=λid=>bif Nat.beq id 0 then some ((JW BS).g 0)else none
def ai9:List AV→Option (AV×List Bool)
 | [.c (.v (.int .u64 a)),.c (.v (.int .u64 b))]=>some (.iC [dn .u64 ((a.toNat*b.toNat/18446744073709551616:Nat):Int),dn .u64 ((a.toNat*b.toNat%18446744073709551616:Nat):Int)],[jV a,jV b])
 | _=>none
def aja:List AV→Option (AV×List Bool)
 | [.c (.v (.string a)),.c (.v (.string b))]=>some (oq (aA (aO a.data.toList*aO b.data.toList)),[decide (a.data.toList.length≤100000000),decide (b.data.toList.length≤100000000)])
 | _=>none
theorem ajb(X S n j:Nat)(hX:X<BB^j)(hS:S<BB^j):fq X S n j=bB S n:=by
 rw[←zm X S n];unfold fq;refine List.map_congr_left λk hk=> ?_
 rw[if_pos (List.mem_range.1 hk)]
 split
 ·rfl
 ·rename_i h
  have:BB^j≤BB^k:=Nat.pow_le_pow_right (by decide) (by omega);rw[Nat.div_eq_of_lt (show X<BB^k by omega),Nat.div_eq_of_lt (show S<BB^k by omega)]
theorem BU(X Y i m:Nat)(hY:Y<BB^m):X%BB^i*Y<BB^(i+m):=by
 rw[Nat.pow_add];have h1:X%BB^i<BB^i:=Nat.mod_lt _ (Nat.pow_pos (by decide));have hp:0<BB^i:=Nat.pow_pos (by decide)
 calc X%BB^i*Y≤BB^i*Y:=Nat.mul_le_mul_right _ (by omega)
  _<BB^i*BB^m:=by exact Nat.mul_lt_mul_of_pos_left hY hp
theorem adY(X Y i:Nat):X%BB^(i+1)*Y=X%BB^i*Y+X/BB^i%BB*Y*BB^i:=by
 rw[Nat.mod_pow_succ,Nat.add_mul]
 congr 1
 simp only[Nat.mul_assoc,Nat.mul_comm,Nat.mul_left_comm]
theorem Vt(y x:List Nat)(hy:okD y=true)(hx:okD x=true)(n i:Nat)(hn:n≤1000000000)(hl:x.length+y.length+1=n)(hi:i<x.length){R:AP ⊕ AP→Prop}
  (hin:R (.inl ⟨y,bB (aF x%BB^(i+1)*aF y) n,x,(x.length:Nat),((i+1:Nat):Int)⟩)):
  (Aa y (bB (aF x%BB^i*aF y) n) x (x.length:Nat) (i:Nat)).sat R:=by
 have hYl:=xI y hy;have hxg:x.getD i 0=aF x/BB^i%BB:=by
  have:=jA x hx;rw[←this,mF _ _ _ hi,this]
 have hdl:=Vr (aF x) i;have hnx:=adY (aF x) (aF y) i;have ho:=BU (aF x) (aF y) i y.length hYl;have hS:=BU (aF x) (aF y) (i+1) y.length hYl;rw[show i+1+y.length=i+y.length+1 by omega]at hS;generalize aF x/BB^i%BB=d at hxg hdl hnx;generalize aF x%BB^i*aF y=o at ho hnx⊢;have hc:=OT o d (aF y) i y.length hdl;rw[Rp o d (aF y) i y.length hYl ho, ←hnx]at hc;have hov:aF (bB o n)=o:=fH _ _ (Nat.lt_of_lt_of_le ho (Nat.pow_le_pow_right (by decide) (by omega)));have w0:IntKind.i64.wrap ((i:Int)+((y.length:Nat):Int))=((i+y.length:Nat):Int):=jR;have w1:IntKind.i64.wrap ((i:Int)+1)=((i+1:Nat):Int):=jR;have eo:=aW (bB o n);unfold Aa;rw[eo,aW,aW];simp only[bV,aW,Int.toNat_natCast,hxg,hov,w0,w1,eD,Rp o d (aF y) i y.length hYl ho, ←hnx];generalize aF x%BB^(i+1)*aF y=S at*;have hsd:S/BB^(i+y.length)%BB=S/BB^(i+y.length):=Nat.mod_eq_of_lt hc;have e1:IntKind.u32.wrap ((S/BB^(i+y.length):Nat):Int)=((S/BB^(i+y.length)%BB:Nat):Int):=by
  rw[hsd,wrap_u32];generalize S/BB^(i+y.length)=q at hc⊢;unfold BB at hc;omega
 rw[e1,gK _ _ _ (by rw[eD];omega),pR _ _ _ _ (by omega),ajb o S n (i+y.length+1) (Nat.lt_of_lt_of_le ho (Nat.pow_le_pow_right (by decide) (by omega))) hS];have e2:=aW (bB S n);rw[bV]at e2;rw[e2];refine au (λ_=> ?_) (λh=>absurd (show(i:Int)<(x.length:Nat)by omega) (of_decide_eq_false h));refine ah (bQ) (ah (fZ hi) (ah (by simp) (ah (by simp) (ah (by simp) (ah (aQ hy _) (ah (aQ (dH _ _) _) (ah (aQ hx _) (ah ?_ (ah (bQ) (ah (bQ) (ah (by simp) (ah (by simp) (ah (by simp) (ah (aQ hy _) (ah (aQ (dH _ _) _) (ah (aQ hx _) (av hin)))))))))))))))));simp only[cu,fT,dH,hy,hx,and_true,true_and];clear hc hin e1 e2 hsd hS hnx;omega
theorem YE(y x:List Nat)(hy:okD y=true)(hx:okD x=true)(n:Nat)(hn:n≤1000000000)(hl:x.length+y.length+1=n)(Q:AP→Prop)(hq:Q ⟨y,bB (aF x*aF y) n,x,(x.length:Nat),(x.length:Nat)⟩): ∀(j i:Nat),i+j=x.length→
  dJ (λx:AP=>Aa x.y x.o x.x x.N x.I) Q (j+1) ⟨y,bB (aF x%BB^i*aF y) n,x,(x.length:Nat),(i:Nat)⟩
 | 0,i,hi=>by
   obtain rfl:i=x.length:=by omega
   rw[Nat.mod_eq_of_lt (xI x hx)];unfold dJ
   change Tr.sat _ (Aa y (bB (aF x*aF y) n) x (x.length:Nat) (x.length:Nat))
   have e:=aW (bB (aF x*aF y) n);unfold Aa;rw[e,aW,aW];exact au (λh=>absurd (j4 h) (Int.lt_irrefl _)) (λ_=>ah (by simp) (ah (by simp) (ah (by simp) (ah (aQ hy _) (ah (aQ (dH _ _) _) (ah (aQ hx _) (av hq)))))))
 | j+1,i,hi=>Vt y x hy hx n i hn hl (by omega) (YE y x hy hx n hn hl Q hq j (i+1) (by omega))
theorem Vu:bF Tryz.prog 0 aar (codeOf Tryz.f224):=by
 refine bG (d:=λid=>Nat.beq id 0) (λid=>by unfold aar;cases Nat.beq id 0<;>rfl) _ ?_;have hb:bU (λid=>Nat.beq id 0) (codeOf Tryz.f224)=[(0,.loop (bn 0 (codeOf Tryz.f224)))]:=by kernel_rfl
 rw[hb];intro p hp g hg;simp only[List.mem_singleton]at hp;subst hp;have hh:aar 0=some ((JW BS).g 0):=rfl;rw[hh]at hg;obtain rfl:g=(JW BS).g 0:=(Option.some.inj hg).symm;refine aZ.sU (N:=1005) aj eP (L:=MI) ai8 (Vq _) (Vs BS) ?_;rintro⟨y,o,x,N,I⟩ hx;have hx:BS.pre ⟨y,o,x,N,I⟩=true:=hx;simp only[BS,cu,fT]at hx;obtain⟨⟨⟨⟨⟨⟨rfl,rfl⟩,h4⟩,h5⟩,h6⟩,h7⟩,h8⟩:=hx;have:=YE y x h4 h5 o.length h8 h7 (· =BS.res ⟨y,o,x,(x.length:Nat),0⟩) rfl x.length 0 (by omega);rw[Nat.pow_zero,Nat.mod_one,Nat.zero_mul, ←h6]at this;exact⟨_,this⟩
def ao4:FuncId→Option Spec:=λf=>bif Nat.beq f 256 then some (ay Rc)else bif Nat.beq f 258 then some (ay ai9)else bif Nat.beq f 126 then some (ay OI)else
 bif Nat.beq f 259 then some (j6 U5)else bif Nat.beq f 260 then some (ay Vh)else none
end Go.bI
namespace Go.bI
open Go.Proofs
def ao5(a:Int)(b:Int):Tr AV:=
 let x1:Int:=2^min (Int.toNat 32) IntKind.u64.bits
 let x2:Int:=a.fdiv x1
 let x3:Int:=b.fdiv x1
 let x4:Int:=IntKind.u64.wrap ↑(BitVec.ofInt IntKind.u64.bits b&&&BitVec.ofInt IntKind.u64.bits 4294967295).toNat
 let x5:Int:=IntKind.u64.wrap ↑(BitVec.ofInt IntKind.u64.bits a&&&BitVec.ofInt IntKind.u64.bits 4294967295).toNat
 let x6:Int:=IntKind.u64.wrap (IntKind.u64.wrap (x2*x4)+(IntKind.u64.wrap (x5*x4)).fdiv x1)
 .need true (.need true (.need true (.need true (.need true (.ret (AV.iC [.c (.v (.int IntKind.u64 (IntKind.u64.wrap (IntKind.u64.wrap (IntKind.u64.wrap (x2*x3)+x6.fdiv x1)+(IntKind.u64.wrap (IntKind.u64.wrap ↑(BitVec.ofInt IntKind.u64.bits x6&&&BitVec.ofInt IntKind.u64.bits 4294967295).toNat+IntKind.u64.wrap (x5*x3))).fdiv x1)))),.c (.v (.int IntKind.u64 (IntKind.u64.wrap (a*b))))]))))))
def ao6(a:ByteArray)(b:ByteArray):Tr AV:=
 let x1:Nat:=(iZ a).toNat*(iZ b).toNat
 let x2:Int:= ↑(x1%18446744073709551616)
 let x3:List UInt8:=a.data.toList
 let x4:List UInt8:=b.data.toList
 let x5:Int:= ↑(bJ x3.length)
 let x6:Int:=IntKind.i64.wrap (IntKind.i64.wrap (x5+ ↑(bJ x4.length))+1)
 let x7:Int:=((4:Nat):Int)*x6
 let x8:Nat:=x6.toNat
 let x9:List Nat:=aL (bJ x3.length) (aD (bB (aO x3) (bJ x3.length)))
 let x10:Nat:=x9.length
 let fI:Int:= ↑x10
 let fU:List Nat:=aL (bJ x4.length) (aD (bB (aO x4) (bJ x4.length)))
 let iM:List Nat:=aL x8 λx=>List.map IV.v [Value.int IntKind.u32 0]
 let iR:Nat:=iM.length
 let jH:List Nat:=bB 0 iR
 let kE:Nat:=x10+fU.length+1
 let jD:List Nat:=bB (aF x9*aF fU) iR
 let x18:Nat:=jD.length
 .ite (iq a&&iq b) (.need (jV (iZ a)) (.need (jV (iZ b)) (.ite (((x1/18446744073709551616:Nat):Int)==0) (.need (jV x2) (.ret (.c (.v (.string ⟨⟨aA x2.toNat⟩⟩))))) (.need (decide (x3.length≤1000000000)) (.need (decide (x4.length≤1000000000)) (.need (decide (x6=x6)) (.need (decide (0≤x6)) (.need (decide (x6≤9223372036854775807)) (.need (decide (x7≤140737488355328)) (.need (decide (bJ x4.length=bJ x4.length)) (.need (decide (x8=x8)) (.need (decide (bJ x3.length=bJ x3.length)) (.need (aJ (bJ x4.length) (aD (bB (aO x4) (bJ x4.length)))) (.need (aJ x8 λx=>List.map IV.v [Value.int IntKind.u32 0]) (.need (aJ (bJ x3.length) (aD (bB (aO x3) (bJ x3.length)))) (.need (decide (x5=fI)&&decide ((0:Int)=0)&&okD fU&&okD x9&&decide (iM=jH)&&decide (kE=iR)&&decide (iR≤1000000000)) (.need (decide (x18≤x18)) (.need (aJ x18 (aD jD)) (.need (decide (x18≤1000000000)) (.ret (.c (.v (.string ⟨⟨aA (aF (aL x18 (aD jD)))⟩⟩))))))))))))))))))))))) (.need (decide (x3.length≤1000000000)) (.need (decide (x4.length≤1000000000)) (.need (decide (x6=x6)) (.need (decide (0≤x6)) (.need (decide (x6≤9223372036854775807)) (.need (decide (x7≤140737488355328)) (.need (decide (bJ x4.length=bJ x4.length)) (.need (decide (x8=x8)) (.need (decide (bJ x3.length=bJ x3.length)) (.need (aJ (bJ x4.length) (aD (bB (aO x4) (bJ x4.length)))) (.need (aJ x8 λx=>List.map IV.v [Value.int IntKind.u32 0]) (.need (aJ (bJ x3.length) (aD (bB (aO x3) (bJ x3.length)))) (.need (decide (x5=fI)&&decide ((0:Int)=0)&&okD fU&&okD x9&&decide (iM=jH)&&decide (kE=iR)&&decide (iR≤1000000000)) (.need (decide (x18≤x18)) (.need (aJ x18 (aD jD)) (.need (decide (x18≤1000000000)) (.ret (.c (.v (.string ⟨⟨aA (aF (aL x18 (aD jD)))⟩⟩))))))))))))))))))))
theorem ajc(a b:Int):aI Tryz.prog (λ_=>none) bX 1005 Tryz.f258 [.c (.v (.int .u64 a)),.c (.v (.int .u64 b))]=ao5 a b:=by kernel_rfl
theorem ajd(a b:ByteArray):aI Tryz.prog ao4 aar 1005 Tryz.f224 [.c (.v (.string a)),.c (.v (.string b))]=ao6 a b:=by kernel_rfl
theorem OU(z:Nat)(hz:z<18446744073709551616):IntKind.u64.wrap ((BitVec.ofInt IntKind.u64.bits ((z:Nat):Int)&&&BitVec.ofInt IntKind.u64.bits 4294967295).toNat:Nat)=((z%4294967296:Nat):Int):=by
 change IntKind.u64.wrap ((BitVec.ofInt 64 ((z:Nat):Int)&&&BitVec.ofInt 64 4294967295).toNat:Nat)=_
 have e1:(BitVec.ofInt 64 ((z:Nat):Int)).toNat=z:=by rw[BitVec.toNat_ofInt];omega
 have e2:(BitVec.ofInt 64 4294967295).toNat=2^32-1:=by decide
 rw[BitVec.toNat_and,e1,e2,Nat.and_two_pow_sub_one_eq_mod,wrap_u64];omega
theorem ad1(a b:Nat)(ha:a<18446744073709551616)(hb:b<18446744073709551616):(ao5 (a:Nat) (b:Nat)).sat λr=>r= .iC [dn .u64 ((a*b/18446744073709551616:Nat):Int),dn .u64 ((a*b%18446744073709551616:Nat):Int)]:=by
 have f: ∀z:Nat,((z:Nat):Int).fdiv (2^min (Int.toNat 32) IntKind.u64.bits)=((z/4294967296:Nat):Int):=λz=>lH z 4294967296
 have w: ∀z:Nat,z<18446744073709551616→IntKind.u64.wrap ((z:Nat):Int)=((z:Nat):Int):=λz hz=>by rw[wrap_u64];omega
 have h00:=wM (Nat.mod_lt a (show 0<4294967296 by decide)) (Nat.mod_lt b (show 0<4294967296 by decide));have h10:=wM (show a/4294967296<4294967296 by omega) (Nat.mod_lt b (show 0<4294967296 by decide));have h01:=wM (Nat.mod_lt a (show 0<4294967296 by decide)) (show b/4294967296<4294967296 by omega);have h11:=wM (show a/4294967296<4294967296 by omega) (show b/4294967296<4294967296 by omega);have hab:a*b=a%4294967296*(b%4294967296)+4294967296*(a/4294967296*(b%4294967296))+4294967296*(a%4294967296*(b/4294967296))+18446744073709551616*(a/4294967296*(b/4294967296)):=by
  have h1:=Nat.div_add_mod a 4294967296;have h2:=Nat.div_add_mod b 4294967296;generalize a/4294967296=x at*;generalize a%4294967296=y at*;generalize b/4294967296=u at*;generalize b%4294967296=v at*;subst h1 h2;simp only[Nat.mul_add,Nat.add_mul];have e1:4294967296*x*(4294967296*u)=18446744073709551616*(x*u):=by rw[Nat.mul_mul_mul_comm]
  have e2:4294967296*x*v=4294967296*(x*v):=Nat.mul_assoc _ _ _;have e3:y*(4294967296*u)=4294967296*(y*u):=Nat.mul_left_comm _ _ _;omega
 have hw:IntKind.u64.wrap (((a:Nat):Int)*((b:Nat):Int))=((a*b%18446744073709551616:Nat):Int):=by rw[←Int.natCast_mul,wrap_u64];omega
 have q00:IntKind.u64.wrap (((a%4294967296:Nat):Int)*((b%4294967296:Nat):Int))=((a%4294967296*(b%4294967296):Nat):Int):=by rw[←Int.natCast_mul];exact w _ (by omega)
 have q10:IntKind.u64.wrap (((a/4294967296:Nat):Int)*((b%4294967296:Nat):Int))=((a/4294967296*(b%4294967296):Nat):Int):=by rw[←Int.natCast_mul];exact w _ (by omega)
 have q01:IntKind.u64.wrap (((a%4294967296:Nat):Int)*((b/4294967296:Nat):Int))=((a%4294967296*(b/4294967296):Nat):Int):=by rw[←Int.natCast_mul];exact w _ (by omega)
 have q11:IntKind.u64.wrap (((a/4294967296:Nat):Int)*((b/4294967296:Nat):Int))=((a/4294967296*(b/4294967296):Nat):Int):=by rw[←Int.natCast_mul];exact w _ (by omega)
 unfold ao5;simp only[f,OU a ha,OU b hb,hw,q00,q10,q01,q11];generalize a%4294967296*(b%4294967296)=p00 at*;generalize a/4294967296*(b%4294967296)=p10 at*;generalize a%4294967296*(b/4294967296)=p01 at*;generalize a/4294967296*(b/4294967296)=p11 at*;have t1:IntKind.u64.wrap (((p10:Nat):Int)+((p00/4294967296:Nat):Int))=((p10+p00/4294967296:Nat):Int):=by rw[←Int.natCast_add];exact w _ (by omega)
 simp only[t1,f,OU (p10+p00/4294967296) (by omega)];have t2:IntKind.u64.wrap ((((p10+p00/4294967296)%4294967296:Nat):Int)+((p01:Nat):Int))=(((p10+p00/4294967296)%4294967296+p01:Nat):Int):=by rw[←Int.natCast_add];exact w _ (by omega)
 simp only[t2,f];have t3:IntKind.u64.wrap (IntKind.u64.wrap (((p11:Nat):Int)+(((p10+p00/4294967296)/4294967296:Nat):Int))+((((p10+p00/4294967296)%4294967296+p01)/4294967296:Nat):Int))=((a*b/18446744073709551616:Nat):Int):=by
  rw[←Int.natCast_add,w _ (by omega), ←Int.natCast_add,w _ (by omega),hab];omega
 rw[t3];exact ah rfl (ah rfl (ah rfl (ah rfl (ah rfl (av rfl)))))
theorem aje:aN Tryz.prog 258 ai9:=by
 refine aM aj eP (fn:=Tryz.f258) (c:=codeOf Tryz.f258) (by kernel_rfl) (by kernel_rfl) (aG (fn:=Tryz.f258) (c:=codeOf Tryz.f258) (by kernel_rfl) (by kernel_rfl) (by kernel_rfl)) (L:=bX) (N:=1005) (ak _ _) ?_ ?_
 ·intro args v cs h
  unfold ai9 at h
  split at h
  ·cases h;rfl
  ·cases h
 ·intro args v cs h hc
  unfold ai9 at h
  split at h
  ·rename_i a b
   cases h;have h1:jV a=true:=hc (jV a) (by simp);have h2:jV b=true:=hc (jV b) (by simp);simp only[jV,cu,fT]at h1 h2;obtain⟨a,rfl⟩: ∃j:Nat,a=j:=⟨a.toNat,by omega⟩
   obtain⟨b,rfl⟩: ∃j:Nat,b=j:=⟨b.toNat,by omega⟩
   have hs:=ad1 a b (by omega) (by omega);rw[←ajc]at hs;generalize aI Tryz.prog (λ_=>none) bX 1005 Tryz.f258 [.c (.v (.int .u64 ((a:Nat):Int))),.c (.v (.int .u64 ((b:Nat):Int)))]=T at hs⊢;exact Tr.bC (λr hr=>⟨by subst hr;rfl,bM.of_eq hr⟩) hs
  ·cases h
theorem ajf: ∀f s,ao4 f=some s→aR Tryz.prog f s:=step_ok Di.spec (step_ok aje.spec (step_ok zS.spec (step_ok H8.spec (bS Ii.spec))))
theorem ad2(n:Nat):(aL n λx=>List.map IV.v [Value.int IntKind.u32 0])=bB 0 n:=by
 have h: ∀n,bB 0 n=List.replicate n 0:=λn=>by
  induction n with
  | zero=>rfl
  | succ n ih=>simp[bB,ih,List.replicate_succ]
 rw[h];unfold aL;exact List.map_const' .. |>.trans (by rw[List.length_range];rfl)
theorem ad3(n:Nat):(aJ n λx=>List.map IV.v [Value.int IntKind.u32 0])=true:=List.all_eq_true.2 λ_ _=>rfl
theorem Rt(a:ByteArray)(h:iq a=true):jV (iZ a)=true:=by
 have:=sV a h;rw[pU a h];simp[jV];omega
theorem ad4(a b:ByteArray)(ha:a.data.toList.length≤100000000)(hb:b.data.toList.length≤100000000):(ao6 a b).sat λr=>r=oq (aA (aO a.data.toList*aO b.data.toList)):=by
 have la:=qY a;have lb:=qY b;have na:bJ a.data.toList.length≤25000001:=by unfold bJ;omega
 have nb:bJ b.data.toList.length≤25000001:=by unfold bJ;omega
 have ea:aL (bJ a.data.toList.length) (aD (bB (aO a.data.toList) (bJ a.data.toList.length)))=bB (aO a.data.toList) (bJ a.data.toList.length):=by
  have:=aW (bB (aO a.data.toList) (bJ a.data.toList.length));rw[bV]at this;exact this
 have eb:aL (bJ b.data.toList.length) (aD (bB (aO b.data.toList) (bJ b.data.toList.length)))=bB (aO b.data.toList) (bJ b.data.toList.length):=by
  have:=aW (bB (aO b.data.toList) (bJ b.data.toList.length));rw[bV]at this;exact this
 have w1:IntKind.i64.wrap (IntKind.i64.wrap (((bJ a.data.toList.length:Nat):Int)+((bJ b.data.toList.length:Nat):Int))+1)=((bJ a.data.toList.length+bJ b.data.toList.length+1:Nat):Int):=by
  have:IntKind.i64.wrap (((bJ a.data.toList.length:Nat):Int)+((bJ b.data.toList.length:Nat):Int))=((bJ a.data.toList.length+bJ b.data.toList.length:Nat):Int):=jR;rw[this,wrap_i64 (by omega)];omega
 have hS:aO a.data.toList*aO b.data.toList<BB^(bJ a.data.toList.length+bJ b.data.toList.length+1):=by
  have h1:=BU (aO a.data.toList) (aO b.data.toList) (bJ a.data.toList.length) (bJ b.data.toList.length) lb;rw[Nat.mod_eq_of_lt la]at h1;exact Nat.lt_of_lt_of_le h1 (Nat.pow_le_pow_right (by decide) (by omega))
 have ep:=aW (bB (aO a.data.toList*aO b.data.toList) (bJ a.data.toList.length+bJ b.data.toList.length+1));rw[bV]at ep;unfold ao6;simp only[w1,ea,eb,ad2,ad3,Int.toNat_natCast,bV,fH _ _ la,fH _ _ lb,ep,fH _ _ hS];have tail: ∀{T:Tr AV},Tr.sat (λr=>r=oq (aA (aO a.data.toList*aO b.data.toList))) T→Tr.sat (λr=>r=oq (aA (aO a.data.toList*aO b.data.toList))) T:=id;refine au (λhw=>ah (Rt a (Bool.and_eq_true_iff.1 hw).1) (ah (Rt b (Bool.and_eq_true_iff.1 hw).2) (au (λh0=> ?_) (λh0=> ?g1)))) (λhw=> ?g2)
 ·rw[cu]at hw
  rw[pU a hw.1,pU b hw.2]at h0⊢;simp only[Int.toNat_natCast]at h0⊢;have h0:=eq_of_beq h0;have hlt:aO a.data.toList*aO b.data.toList<18446744073709551616:=by omega
  rw[Nat.mod_eq_of_lt hlt];exact ah (by simp[jV];omega) (av rfl)
 all_goals
  refine ah (bQ) (ah (bQ) (ah (by simp) (ah (bQ) (ah (bQ) (ah (bQ) (ah (by simp) (ah (by simp) (ah (by simp) (ah (aQ (dH _ _) _) (ah rfl (ah (aQ (dH _ _) _) (ah ?_ (ah (by simp) (ah (aQ (dH _ _) _) (ah (bQ) (av rfl))))))))))))))));simp only[dH,Bool.and_true,cu,fT,true_and,and_true,decide_true];omega
theorem ajg:aN Tryz.prog 224 aja:=by
 refine aM aj ajf (fn:=Tryz.f224) (c:=codeOf Tryz.f224) (by kernel_rfl) (by kernel_rfl) (aG (fn:=Tryz.f224) (c:=codeOf Tryz.f224) (by kernel_rfl) (by kernel_rfl) (by kernel_rfl)) (L:=aar) (N:=1005) Vu ?_ ?_
 ·intro args v cs h
  unfold aja at h
  split at h
  ·cases h;rfl
  ·cases h
 ·intro args v cs h hc
  unfold aja at h
  split at h
  ·rename_i a b
   cases h;have h1:a.data.toList.length≤100000000:=dec (hc (decide (a.data.toList.length≤100000000)) (by simp));have h2:b.data.toList.length≤100000000:=dec (hc (decide (b.data.toList.length≤100000000)) (by simp));have hs:=ad4 a b h1 h2;rw[←ajd]at hs;generalize aI Tryz.prog ao4 aar 1005 Tryz.f224 [.c (.v (.string a)),.c (.v (.string b))]=T at hs⊢;generalize aA (aO a.data.toList*aO b.data.toList)=z at hs⊢;exact Tr.bC (λr hr=>⟨by subst hr;rfl,bM.of_eq hr⟩) hs
  ·cases h
end Go.bI
namespace Go.bI
open Go.RowKit
def Ru(P:Program)(Γ:FuncId→Option Spec)(N:Nat)(fn:Func):rX:=λents args=>(wG P Γ bX N false fn ents args).run
def ad5(P:Program)(Γ:FuncId→Option Spec)(N:Nat)(ms:Bool)(fn:Func):Spec:=bif ms then j6 (Ru P Γ N fn)else adn P Γ N fn
def dW(P:Program)(base:FuncId→Option Spec)(ms:FuncId→Bool)(N:Nat):Nat→FuncId→Option Spec
 | 0=>base
 | d+1=>λf=>
   match base f with
   | some s=>some s
   | none=>
     match P.funcs[f]? with
     | some fn=>
       match fn.body with
       | some _=>bif jS fn then some (ad5 P (dW P base ms N d) N (ms f) fn)else none
       | none=>none
     | none=>none
section
variable{P:Program}{Γ:FuncId→Option Spec}{N:Nat}
theorem Rv(hm:P.follows .mixedOrders=true)(hΓ: ∀f s,Γ f=some s→aR P f s){f:FuncId}{fn:Func}{c:Code}(hf:P.funcs[f]? =some fn)(hb:fn.body=some c)(hn:jS fn=true):uT P f (Ru P Γ N fn):=by
 refine vS (L:=λ_=>bX) hm hΓ hf hb (aG hf hb hn) (N:=N) (Bg:=false) (λents args o _=>ak ents.length c) λents args o h _=> ?_
 refine Tr.bC ?_ (Tr.xD h);rintro r rfl;exact⟨bM.refl _,dz.refl _⟩
theorem aas(hm:P.follows .mixedOrders=true)(hΓ: ∀f s,Γ f=some s→aR P f s){f:FuncId}{fn:Func}{c:Code}(hf:P.funcs[f]? =some fn)(hb:fn.body=some c)(hn:jS fn=true)(ms:Bool):aR P f (ad5 P Γ N ms fn):=by
 cases ms with
 | true=>exact(Rv hm hΓ hf hb hn).spec
 | false=>exact Q6 hm hΓ hf hb hn
theorem jM(hm:P.follows .mixedOrders=true){base:FuncId→Option Spec}{ms:FuncId→Bool}(hΓ: ∀f s,base f=some s→aR P f s): ∀(d:Nat) (f:FuncId) (s:Spec),dW P base ms N d f=some s→aR P f s
 | 0,f,s,h=>hΓ f s h
 | d+1,f,s,h=>by
   unfold dW at h
   split at h
   ·rename_i s' hs'
    cases h;exact hΓ f _ hs'
   ·split at h
    ·rename_i fn hf
     split at h
     ·rename_i c hb
      cases hn:jS fn with
      | false=>rw[hn]at h;cases h
      | true=>
        rw[hn]at h;simp only[cond_true,fK]at h;subst h;exact aas hm (jM hm hΓ d) hf hb hn _
     ·cases h
    ·cases h
end
end Go.bI
namespace Go.bI
open Go.RowKit
def Tr.wN{α:Type}:Tr α→Option (α×List Bool)
 | .ret a=>some (a,[])
 | .ite c t e=>bif c then t.wN else e.wN
 | .need p t=>
   match t.wN with
   | some (a,cs)=>some (a,p::cs)
   | none=>none
 | .both _ _=>none
 | .fail _=>none
theorem Tr.wO{α:Type}: ∀{t:Tr α} {a:α} {cs:List Bool},t.wN=some (a,cs)→(∀p∈cs,p=true)→t.sat (· =a)
 | .ret a,b,cs,h,_=>by
   simp only[Tr.wN,fK,Prod.mk.injEq]at h;exact h.1
 | .ite c t e,b,cs,h,hc=>by
   cases c with
   | true=>exact⟨λ_=>Tr.wO (by simpa[Tr.wN]using h) hc,λh=>by cases h⟩
   | false=>exact⟨λh=>(by cases h),λ_=>Tr.wO (by simpa[Tr.wN]using h) hc⟩
 | .need p t,b,cs,h,hc=>by
   simp only[Tr.wN]at h
   split at h
   ·rename_i a cs' ht
    simp only[fK,Prod.mk.injEq]at h;obtain⟨rfl,rfl⟩:=h;exact⟨hc p (by simp),λ_=>Tr.wO ht λq hq=>hc q (by simp[hq])⟩
   ·cases h
 | .both _ _,b,cs,h,_=>by simp[Tr.wN]at h
 | .fail _,b,cs,h,_=>by simp[Tr.wN]at h
def Im(P:Program)(Γ:FuncId→Option Spec)(N:Nat)(fn:Func)(args:List AV):Option (AV×List Bool):=
 match (aI P Γ bX N fn args).wN with
 | some (v,cs)=>bif fu v then some (v,cs)else none
 | none=>none
def OV(P:Program)(Γ:FuncId→Option Spec)(N:Nat)(Bg:Bool)(fn:Func):rX:=λents args=>
 match (wG P Γ bX N Bg fn ents args).wN with
 | some (o,cs)=>some {val:=o.val,outs:=o.outs,new:=o.new,conds:=cs}
 | none=>none
def asV(P:Program)(Γ:FuncId→Option Spec)(N:Nat)(ms:Bool)(fn:Func):Spec:=
 bif ms then j6 (OV P Γ N false fn)else λslot m args=>
  bif Gm args then ay (Im P Γ N fn) slot m args else j6 (OV P Γ N true fn) slot m args
def AQ(P:Program)(base:FuncId→Option Spec)(ms:FuncId→Bool)(N:Nat):Nat→FuncId→Option Spec
 | 0=>base
 | d+1=>λf=>
   match base f with
   | some s=>some s
   | none=>
     match P.funcs[f]? with
     | some fn=>
       match fn.body with
       | some _=>bif jS fn then some (asV P (AQ P base ms N d) N (ms f) fn)else none
       | none=>none
     | none=>none
section
variable{P:Program}{Γ:FuncId→Option Spec}{N:Nat}
theorem Vv(hm:P.follows .mixedOrders=true)(hΓ: ∀f s,Γ f=some s→aR P f s){f:FuncId}{fn:Func}{c:Code}(hf:P.funcs[f]? =some fn)(hb:fn.body=some c)(hn:jS fn=true):aN P f (Im P Γ N fn):=by
 have hk: ∀args v cs,Im P Γ N fn args=some (v,cs)→bI.fu v=true∧(aI P Γ bX N fn args).wN=some (v,cs):=by
  intro args v cs h;unfold Im at h
  split at h
  ·rename_i u ds hu
   cases hp:bI.fu u with
   | false=>rw[hp]at h;cases h
   | true=>
     rw[hp]at h;simp only[cond_true,fK,Prod.mk.injEq]at h;obtain⟨rfl,rfl⟩:=h;exact⟨hp,hu⟩
  ·cases h
 refine aM hm hΓ hf hb (aG hf hb hn) (L:=bX) (N:=N) (ak 0 c) (λargs v cs h=>(hk args v cs h).1) λargs v cs h hc=> ?_
 refine Tr.bC ?_ (Tr.wO (hk args v cs h).2 hc);rintro r rfl;exact⟨(hk args r cs h).1,bM.refl r⟩
theorem ML(hm:P.follows .mixedOrders=true)(hΓ: ∀f s,Γ f=some s→aR P f s){f:FuncId}{fn:Func}{c:Code}(hf:P.funcs[f]? =some fn)(hb:fn.body=some c)(hn:jS fn=true)(Bg:Bool):uT P f (OV P Γ N Bg fn):=by
 refine vS (L:=λ_=>bX) hm hΓ hf hb (aG hf hb hn) (N:=N) (Bg:=Bg) (λents args o _=>ak ents.length c) λents args o h hc=> ?_
 unfold OV at h
 split at h
 ·rename_i o' cs ho
  simp only[fK]at h;subst h;refine Tr.bC ?_ (Tr.wO ho hc);rintro r rfl;exact⟨bM.refl _,dz.refl _⟩
 ·cases h
theorem ajh(hm:P.follows .mixedOrders=true)(hΓ: ∀f s,Γ f=some s→aR P f s){f:FuncId}{fn:Func}{c:Code}(hf:P.funcs[f]? =some fn)(hb:fn.body=some c)(hn:jS fn=true)(ms:Bool):aR P f (asV P Γ N ms fn):=by
 cases ms with
 | true=>exact(ML hm hΓ hf hb hn false).spec
 | false=>exact aR.pick Gm (Vv hm hΓ hf hb hn).spec (ML hm hΓ hf hb hn true).spec
theorem l7(hm:P.follows .mixedOrders=true){base:FuncId→Option Spec}{ms:FuncId→Bool}(hΓ: ∀f s,base f=some s→aR P f s): ∀(d:Nat) (f:FuncId) (s:Spec),AQ P base ms N d f=some s→aR P f s
 | 0,f,s,h=>hΓ f s h
 | d+1,f,s,h=>by
   unfold AQ at h
   split at h
   ·rename_i s' hs'
    cases h;exact hΓ f _ hs'
   ·split at h
    ·rename_i fn hf
     split at h
     ·rename_i c hb
      cases hn:jS fn with
      | false=>rw[hn]at h;cases h
      | true=>
        rw[hn]at h;simp only[cond_true,fK]at h;subst h;exact ajh hm (l7 hm hΓ d) hf hb hn _
     ·cases h
    ·cases h
end
end Go.bI
namespace Go.bI
open Go.RowKit
structure Arg (X:Type) where
 get:AV→Option (X×List Bool)
 put:X→AV
 ok: ∀a x cs,get a=some (x,cs)→(∀p∈cs,p=true)→bM a (put x)
structure Form (X:Type) where
 parse:List AV→Option (X×List Bool)
 args:X→List AV
 ok: ∀l x cs,parse l=some (x,cs)→(∀p∈cs,p=true)→eY l (args x)
def Form.nil:Form Unit where
 parse:=λl=>match l with | []=>some ((),[]) | _=>none
 args:=λ_=> []
 ok:=by
  intro l x cs h hc;cases l with
  | nil=>exact .nil
  | cons a l=>cases h
def Form.cons{X Y:Type}(A:Arg X)(F:Form Y):Form (X×Y) where
 parse:=λl=>
  match l with
  | a::l=>
    match A.get a,F.parse l with
    | some (x,cs),some (y,ds)=>some ((x,y),cs++ds)
    | _,_=>none
  | []=>none
 args:=λp=>A.put p.1::F.args p.2
 ok:=by
  intro l p cs h hc;cases l with
  | nil=>cases h
  | cons a l=>
    simp only at h
    split at h
    ·rename_i x c1 y c2 h1 h2
     simp only[fK,Prod.mk.injEq]at h;obtain⟨rfl,rfl⟩:=h;exact .cons (A.ok a x c1 h1 λp hp=>hc p (by simp[hp])) (F.ok l y c2 h2 λp hp=>hc p (by simp[hp]))
    ·cases h
def Form.map{X Y:Type}(F:Form X)(f:X→Y)(g:Y→X)(h: ∀x,g (f x)=x):Form Y where
 parse:=λl=>match F.parse l with|some (x,cs)=>some (f x,cs)|none=>none
 args:=λy=>F.args (g y)
 ok:=by
  intro l y cs hp hc
  split at hp
  ·rename_i x ds hx
   simp only[fK,Prod.mk.injEq]at hp;obtain⟨rfl,rfl⟩:=hp;rw[h];exact F.ok l x _ hx hc
  ·cases hp
def Form.K{X:Type}(F:Form X)(val:X→AV)(pre:X→List Bool):List AV→Option (AV×List Bool):=λl=>
 match F.parse l with
 | some (x,cs)=>some (val x,cs++pre x)
 | none=>none
section
variable{P:Program}{Γ:FuncId→Option Spec}{L:Nat→Option (St→Tr (Ex×St))}{N:Nat}
theorem Form.ad6{X:Type}(F:Form X){val:X→AV}{pre:X→List Bool}(hm:P.follows .mixedOrders=true)(hΓ: ∀f s,Γ f=some s→aR P f s){f:FuncId}{fn:Func}{c:Code}(hf:P.funcs[f]? =some fn)(hb:fn.body=some c)
  (hn:jS fn=true) (hl:bF P 0 L c) (hv: ∀x,bI.fu (val x)=true)
  (h: ∀x,(∀p∈pre x,p=true)→(aI P Γ L N fn (F.args x)).sat λr=>bI.fu r=true∧bM r (val x)):aN P f (F.K val pre):=by
 refine nk hm hΓ hf hb (aG hf hb hn) (L:=L) (N:=N) hl (λargs v cs hk=> ?_) λargs v cs hk hc=> ?_
 ·unfold Form.K at hk
  split at hk
  ·simp only[fK,Prod.mk.injEq]at hk
   rw[←hk.1];exact hv _
  ·cases hk
 ·unfold Form.K at hk
  split at hk
  ·rename_i x ds hx
   simp only[fK,Prod.mk.injEq]at hk;obtain⟨rfl,rfl⟩:=hk;exact⟨F.args x,F.ok args x ds hx λp hp=>hc p (by simp[hp]),h x λp hp=>hc p (by simp[hp])⟩
  ·cases hk
theorem Form.dO{X:Type}(F:Form X){val:X→AV}{pre:X→List Bool}(hm:P.follows .mixedOrders=true)(hΓ: ∀f s,Γ f=some s→aR P f s){f:FuncId}{fn:Func}{c:Code}(hf:P.funcs[f]? =some fn)(hb:fn.body=some c)
  (hn:jS fn=true) (hl:bF P 0 L c) (hv: ∀x,bI.fu (val x)=true) {M:X→Tr AV} (hM: ∀x,aI P Γ L N fn (F.args x)=M x)
  (h: ∀x,(∀p∈pre x,p=true)→(M x).sat λr=>r=val x):aN P f (F.K val pre):=
 F.ad6 hm hΓ hf hb hn hl hv λx hx=>by
  rw[hM x];exact Tr.bC (λr hr=>⟨by rw[hr];exact hv x,bM.of_eq hr⟩) (h x hx)
structure fJ (X:Type) where
 parse:List (Option jk)→List AV→Option (X×List Bool)
 ents:X→List (Option jk)
 args:X→List AV
 ok: ∀e l x cs,parse e l=some (x,cs)→(∀p∈cs,p=true)→dz e (ents x)∧eY l (args x)
def fJ.K{X:Type}(F:fJ X)(out:X→je)(pre:X→List Bool):rX:=λe l=>
 match F.parse e l with
 | some (x,cs)=>some {out x with conds:=cs++pre x}
 | none=>none
def Bj(o:je)(p:je):Prop:=bM p.val o.val∧dz (p.outs++[p.new]) (o.outs++[o.new])
theorem Bj.refl(o:je):Bj o o:=⟨bM.refl _,dz.refl _⟩
theorem fJ.anP{X:Type}(F:fJ X){out:X→je}{pre:X→List Bool}{Bg:Bool}{L:Nat→Nat→Option (St→Tr (Ex×St))}(hm:P.follows .mixedOrders=true)(hΓ: ∀f s,Γ f=some s→aR P f s){f:FuncId}{fn:Func}{c:Code}(hf:P.funcs[f]? =some fn)
  (hb:fn.body=some c) (hn:jS fn=true) (hl: ∀e l x cs,F.parse e l=some (x,cs)→bF P e.length (L e.length) c)
  (hle: ∀x e,dz e (F.ents x)→L e.length=L (F.ents x).length)
  (h: ∀x,(∀p∈pre x,p=true)→(wG P Γ (L (F.ents x).length) N Bg fn (F.ents x) (F.args x)).sat (Bj (out x))):uT P f (F.K out pre):=by
 refine yw (L:=L) hm hΓ hf hb (aG hf hb hn) (N:=N) (Bg:=Bg) (λe l o ho=> ?_) λe l o ho hc=> ?_
 ·unfold fJ.K at ho
  split at ho
  ·rename_i x cs hx
   exact hl e l x cs hx
  ·cases ho
 ·unfold fJ.K at ho
  split at ho
  ·rename_i x cs hx
   cases ho;obtain⟨h1,h2⟩:=F.ok e l x cs hx λp hp=>hc p (by simp[hp])
   refine⟨F.ents x,F.args x,h1,h2,?_⟩;rw[hle x e h1];exact h x λp hp=>hc p (by simp[hp])
  ·cases ho
def yA{X R:Type}(nIn rD:Norm)(F:fJ X)(G:fJ R)(res:X→R)(pre:X→Bool):aZ X R where
 nIn:=nIn
 rD:=rD
 head:=λx=>(F.args x,F.ents x)
 take:=λq=>F.parse q.2 q.1
 out:=λr=>(.normal,(G.args r,G.ents r))
 jC:=λq=>match q with|(.normal,q)=>G.parse q.2 q.1 | _=>none
 res:=res
 pre:=pre
theorem eG{X R:Type}(nIn rD:Norm)(F:fJ X)(G:fJ R)(res:X→R)(pre:X→Bool):(yA nIn rD F G res pre).gI where
 take:=λq x cs h hc=>⟨(F.ok q.2 q.1 x cs h hc).2,(F.ok q.2 q.1 x cs h hc).1⟩
 jC:=by
  intro e q r cs h hc;cases e with
  | normal=>exact⟨rfl,(G.ok q.2 q.1 r cs h hc).2,(G.ok q.2 q.1 r cs h hc).1⟩
  | exit j=>cases h
  | ret=>cases h
 split:=λr Q h=>h
def lpR{X R:Type}(nIn rD:Norm)(F:fJ X)(G:fJ R)(res:X→Bool×R)(pre:X→Bool):aZ X (Bool×R) where
 nIn:=nIn
 rD:=rD
 head:=λx=>(F.args x,F.ents x)
 take:=λq=>F.parse q.2 q.1
 out:=λr=>(bif r.1 then .ret else .normal,(G.args r.2,G.ents r.2))
 jC:=λq=>
  match q with
  | (.normal,q)=>match G.parse q.2 q.1 with|some (r,cs)=>some ((false,r),cs)|none=>none
  | (.ret,q)=>match G.parse q.2 q.1 with|some (r,cs)=>some ((true,r),cs)|none=>none
  | _=>none
 res:=res
 pre:=pre
 split:=λr=> .ite r.1 (.ret (true,r.2)) (.ret (false,r.2))
theorem JY{X R:Type}(nIn rD:Norm)(F:fJ X)(G:fJ R)(res:X→Bool×R)(pre:X→Bool):(lpR nIn rD F G res pre).gI where
 take:=λq x cs h hc=>⟨(F.ok q.2 q.1 x cs h hc).2,(F.ok q.2 q.1 x cs h hc).1⟩
 jC:=by
  intro e q r cs h hc;cases e with
  | normal=>
    simp only[lpR]at h
    split at h
    ·rename_i r' cs' hr
     simp only[fK,Prod.mk.injEq]at h;obtain⟨rfl,rfl⟩:=h;exact⟨rfl,(G.ok q.2 q.1 r' _ hr hc).2,(G.ok q.2 q.1 r' _ hr hc).1⟩
    ·cases h
  | exit j=>cases h
  | ret=>
    simp only[lpR]at h
    split at h
    ·rename_i r' cs' hr
     simp only[fK,Prod.mk.injEq]at h;obtain⟨rfl,rfl⟩:=h;exact⟨rfl,(G.ok q.2 q.1 r' _ hr hc).2,(G.ok q.2 q.1 r' _ hr hc).1⟩
    ·cases h
 split:=by
  intro r Q h;obtain⟨b,v⟩:=r;cases b with
  | true=>exact h.1 rfl
  | false=>exact h.2 rfl
def fJ.pure{X:Type}(F:Form X):fJ X where
 parse:=λe l=>match e with | []=>F.parse l | _=>none
 ents:=λ_=> []
 args:=F.args
 ok:=by
  intro e l x cs h hc;cases e with
  | nil=>exact⟨dz.refl _,F.ok l x cs h hc⟩
  | cons _ _=>cases h
structure nJ (X:Type) where
 parse:List (Option jk)→Option (X×List Bool)
 ents:X→List (Option jk)
 ok: ∀e x cs,parse e=some (x,cs)→(∀p∈cs,p=true)→dz e (ents x)
def fJ.with{X Y:Type}(E:nJ Y)(F:Form X):fJ (X×Y) where
 parse:=λe l=>
  match F.parse l,E.parse e with
  | some (x,cs),some (y,ds)=>some ((x,y),cs++ds)
  | _,_=>none
 ents:=λp=>E.ents p.2
 args:=λp=>F.args p.1
 ok:=by
  intro e l p cs h hc
  split at h
  ·rename_i x c1 y c2 h1 h2
   simp only[fK,Prod.mk.injEq]at h;obtain⟨rfl,rfl⟩:=h;exact⟨E.ok e y c2 h2 λp hp=>hc p (by simp[hp]),F.ok l x c1 h1 λp hp=>hc p (by simp[hp])⟩
  ·cases h
end
def bK:Arg Int where
 get:=λa=>match a with | .c (.v (.int .i64 n))=>some (n,[]) | _=>none
 put:=λn=> .c (.v (.int .i64 n))
 ok:=by
  intro a x cs h hc
  split at h
  ·cases h;exact bM.refl _
  ·cases h
def Io:Arg Bool where
 get:=λa=>match a with | .c (.v (.bool b))=>some (b,[]) | _=>none
 put:=λb=> .c (.v (.bool b))
 ok:=by
  intro a x cs h hc
  split at h
  ·cases h;exact bM.refl _
  ·cases h
def EH:Arg ByteArray where
 get:=λa=>match a with | .c (.v (.string b))=>some (b,[]) | _=>none
 put:=λb=> .c (.v (.string b))
 ok:=by
  intro a x cs h hc
  split at h
  ·cases h;exact bM.refl _
  ·cases h
def ou(b o:Nat):Arg Unit where
 get:=λa=>match a with | .ptr b' o'=>bif Nat.beq b b'&&Nat.beq o o' then some ((),[])else none | _=>none
 put:=λ_=> .ptr b o
 ok:=by
  intro a x cs h hc
  split at h
  ·rename_i b' o'
   cases hb:(Nat.beq b b'&&Nat.beq o o')with
   | false=>rw[hb]at h;cases h
   | true=>
     simp only[cu]at hb;obtain⟨h1,h2⟩:=hb;obtain rfl:b=b':=by simpa using h1
     obtain rfl:o=o':=by simpa using h2
     exact bM.refl _
  ·cases h
def OW(f b o:Nat):Arg Unit where
 get:=λa=>match a with | .fn f' [.ptr b' o']=>bif Nat.beq f f'&&(Nat.beq b b'&&Nat.beq o o')then some ((),[])else none | _=>none
 put:=λ_=> .fn f [.ptr b o]
 ok:=by
  intro a x cs h hc
  split at h
  ·rename_i f' b' o'
   cases hb:(Nat.beq f f'&&(Nat.beq b b'&&Nat.beq o o'))with
   | false=>rw[hb]at h;cases h
   | true=>
     simp only[cu]at hb;obtain⟨h0,h1,h2⟩:=hb;obtain rfl:f=f':=by simpa using h0
     obtain rfl:b=b':=by simpa using h1
     obtain rfl:o=o':=by simpa using h2
     exact bM.refl _
  ·cases h
def EI(f:Nat):Arg Unit where
 get:=λa=>match a with | .c (.v (.func (.func f') first cap))=>bif Nat.beq f f'&&(first.isEmpty&&cap.isEmpty)then some ((),[])else none | _=>none
 put:=λ_=> .c (.v (.func (.func f) #[] #[]))
 ok:=by
  intro a x cs h hc
  split at h
  ·rename_i f' first cap
   cases hb:(Nat.beq f f'&&(first.isEmpty&&cap.isEmpty))with
   | false=>rw[hb]at h;cases h
   | true=>
     simp only[cu,Array.isEmpty_iff]at hb;obtain⟨h0,rfl,rfl⟩:=hb;obtain rfl:f=f':=by simpa using h0
     exact bM.refl _
  ·cases h
def nZ(t:Nat):Arg Unit where
 get:=λa=>match a with | .c (.v (.iface t' (.agg cs)))=>bif Nat.beq t t'&&cs.isEmpty then some ((),[])else none | _=>none
 put:=λ_=> .c (.v (.iface t (.agg #[])))
 ok:=by
  intro a x cs h hc
  split at h
  ·rename_i t' es
   cases hb:(Nat.beq t t'&&es.isEmpty)with
   | false=>rw[hb]at h;cases h
   | true=>
     simp only[cu,Array.isEmpty_iff]at hb;obtain⟨h0,rfl⟩:=hb;obtain rfl:t=t':=by simpa using h0
     exact bM.refl _
  ·cases h
def sH:Arg Unit where
 get:=λa=>match a with | .agg []=>some ((),[]) | _=>none
 put:=λ_=> .agg []
 ok:=by
  intro a x cs h hc
  split at h
  ·exact bM.refl _
  ·cases h
end Go.bI
namespace Go.bI
structure Vw (X:Type) where
 get:Option jk→Option (X×List Bool)
 put:X→Option jk
 ok: ∀e x cs,get e=some (x,cs)→(∀p∈cs,p=true)→qK e (put x)
def nJ.nil:nJ Unit where
 parse:=λe=>match e with | []=>some ((),[]) | _=>none
 ents:=λ_=> []
 ok:=by
  intro e x cs h hc;cases e with
  | nil=>exact .nil
  | cons a l=>cases h
def nJ.cons{X Y:Type}(A:Vw X)(F:nJ Y):nJ (X×Y) where
 parse:=λe=>
  match e with
  | a::e=>
    match A.get a,F.parse e with
    | some (x,cs),some (y,ds)=>some ((x,y),cs++ds)
    | _,_=>none
  | []=>none
 ents:=λp=>A.put p.1::F.ents p.2
 ok:=by
  intro l p cs h hc;cases l with
  | nil=>cases h
  | cons a l=>
    simp only at h
    split at h
    ·rename_i x c1 y c2 h1 h2
     simp only[fK,Prod.mk.injEq]at h;obtain⟨rfl,rfl⟩:=h;exact .cons (A.ok a x c1 h1 λp hp=>hc p (by simp[hp])) (F.ok l y c2 h2 λp hp=>hc p (by simp[hp]))
    ·cases h
def ow:Vw (List Nat) where
 get:=λe=>match e with|some (.arr n 1 el 335)=>some (aL n el,[aJ n el]) | _=>none
 put:=λl=>some (.arr l.length 1 (aD l) 335)
 ok:=by
  intro e l cs h hc
  split at h
  ·rename_i n el
   simp only[fK,Prod.mk.injEq]at h;obtain⟨rfl,rfl⟩:=h;have g:aJ n el=true:=hc _ (by simp);rw[kP];exact .arr _ _ _ _ _ (jg g).1
  ·cases h
def gu(b sz:Nat):Arg Nat where
 get:=λa=>match a with | .iP b' n sz'=>bif Nat.beq b b'&&Nat.beq sz sz' then some (n,[])else none | _=>none
 put:=λn=> .iP b n sz
 ok:=by
  intro a n cs h hc
  split at h
  ·rename_i b' m sz'
   cases hb:(Nat.beq b b'&&Nat.beq sz sz')with
   | false=>rw[hb]at h;cases h
   | true=>
     rw[hb]at h;simp only[cond_true,fK,Prod.mk.injEq]at h;obtain⟨rfl,rfl⟩:=h;simp only[cu]at hb;obtain rfl:b=b':=by simpa using hb.1
     obtain rfl:sz=sz':=by simpa using hb.2
     exact bM.refl _
  ·cases h
def yE(k:IntKind):Arg Int where
 get:=λa=>match a with | .c (.v (.int k' n))=>if k=k' then some (n,[])else none | _=>none
 put:=λn=> .c (.v (.int k n))
 ok:=by
  intro a x cs h hc
  split at h
  ·split at h
   ·rename_i hk
    subst hk;cases h;exact bM.refl _
   ·cases h
  ·cases h
end Go.bI
namespace Go.bI
open Go.Proofs
abbrev SgX:=(Nat×Int×Int×Int×Unit)×(List Nat×Unit)
abbrev SgR:=(Int×Unit)×(List Nat×Unit)
def ad7(x:SgX):SgR:=((((aF x.2.1%x.1.2.1.toNat:Nat):Int),()),(bB (aF x.2.1/x.1.2.1.toNat) x.1.1,()))
def MN(x:SgX):Bool:=decide (x.1.1=x.2.1.length)&&(okD x.2.1&&(decide (x.1.2.2.2.1=(x.1.1:Int)-1)&&(decide (x.1.2.2.1=0)&&(decide (0<x.1.2.1)&&(decide (x.1.2.1<4294967296)&&decide (x.1.1≤1000000000))))))
def Vx:aZ SgX SgR:=yA {nt:=36,live:=[0,1,5,6]} {nt:=36,live:=[5]} (.with (.cons ow .nil) (.cons (gu 0 1) (.cons (yE .u32) (.cons (yE .u64) (.cons bK .nil))))) (.with (.cons ow .nil) (.cons (yE .u64) .nil)) ad7 MN
theorem aat:Vx.gI:=eG _ _ _ _ _ _
abbrev ShX:=(Int×Nat×Nat×Int×Int×Unit)×(List Nat×List Nat×Unit)
abbrev ShR:=(Nat×Unit)×(List Nat×List Nat×Unit)
def ad8(x:ShX):ShR:=((x.1.2.1,()),(x.2.1,bB (aF x.2.1*2^x.1.1.toNat) x.1.2.1,()))
def MO(x:ShX):Bool:=decide (x.1.2.2.1=x.2.1.length)&&(decide (x.1.2.1=x.2.2.1.length)&&(decide (x.1.2.1=x.1.2.2.1+1)&&(okD x.2.1&&(decide (x.2.2.1=bB 0 x.1.2.1)&&(decide (x.1.2.2.2.1=(x.1.2.2.1:Int))&&(decide (x.1.2.2.2.2.1=0)&&(decide (0≤x.1.1)&&(decide (x.1.1<32)&&decide (x.1.2.1≤1000000000)))))))))
def Vy:aZ ShX ShR:=yA {nt:=41,live:=[1,5,13,14,15]} {nt:=41,live:=[5]} (.with (.cons ow (.cons ow .nil)) (.cons bK (.cons (gu 1 1) (.cons (gu 0 1) (.cons bK (.cons bK .nil)))))) (.with (.cons ow (.cons ow .nil)) (.cons (gu 1 1) .nil)) ad8 MO
theorem aau:Vy.gI:=eG _ _ _ _ _ _
abbrev OX:=List Nat×List Nat×List Nat×Unit
abbrev DA(T:Type):=(Nat×Int×Nat×Int×Nat×Int×T)
def frA{T:Type}(F:Form T):Form (DA T):= .cons (gu 0 1) (.cons bK (.cons (gu 1 1) (.cons bK (.cons (gu 2 1) (.cons bK F)))))
def Gp:nJ OX:= .cons ow (.cons ow (.cons ow .nil))
def xJ(y1 y0 w H:Nat):Nat:=min (BB-1) ((H*BB+w)/(y1*BB+y0))
def Vz(n:Int)(j:Int)(g r:Int)(Y X:List Nat):Nat:=xJ (Y.getD (n.toNat-1) 0) (Y.getD (n.toNat-2) 0) (X.getD (j.toNat+n.toNat-2) 0) (g.toNat*Y.getD (n.toNat-1) 0+r.toNat)
def LC(ny:Nat)(s:Int)(nx:Nat)(n:Int)(no:Nat)(j:Int)(Y X O:List Nat):Bool:=
 decide ((ny:Int)=n)&&(decide (Y.length=ny+1)&&(decide (nx=X.length)&&(decide (no=O.length)&&(decide (nx=ny+no)&&(decide (2≤ny)&&(decide (nx≤1000000000)&&(okD Y&&(okD X&&(okD O&&(decide (aF Y<BB^ny)&&(decide (0≤j)&&(decide (j<no)&&decide (BB≤2*Y.getD (ny-1) 0)))))))))))))
abbrev D2X:=DA (Int×Int×Unit)×OX
abbrev D2R:=DA (Int×Unit)×OX
def anQ(x:D2X):D2R:=match x with
 | ((ny,s,nx,n,no,j,g,r,()),(Y,X,O,()))=>((ny,s,nx,n,no,j,((Vz n j g r Y X:Nat):Int),()),(Y,X,O,()))
def MP(x:D2X):Bool:=match x with
 | ((ny,s,nx,n,no,j,g,r,()),(Y,X,O,()))=>LC ny s nx n no j Y X O&&(decide (0≤g)&&(decide (0≤r)&&(decide (r<4294967296)&&(decide (g.toNat*Y.getD (ny-1) 0+r.toNat<Y.getD (ny-1) 0*BB+BB)&&decide (Vz n j g r Y X≤g.toNat)))))
def OY:aZ D2X D2R:=yA {nt:=304,live:=[9,12,13,14,15,16,18,19]} {nt:=304,live:=[9,12,13,14,15,16,18]} (.with Gp (frA (.cons (yE .u64) (.cons (yE .u64) .nil)))) (.with Gp (frA (.cons (yE .u64) .nil))) anQ MP
theorem aav:OY.gI:=eG _ _ _ _ _ _
def sbD(j n g Y V:Nat):Nat:=V/BB^j+BB^(n+1)-g*Y
def Ip(j n g Y V:Nat):Nat:=V%BB^j+BB^j*sbD j n g Y V
def MQ(j Y Z:Nat):Nat:=Z%BB^j+BB^j*(Z/BB^j+Y)
abbrev D4X:=DA (Int×Int×Int×Int×Int×Unit)×OX
abbrev D4R:=DA (Int×Int×Int×Unit)×OX
def anR(x:D4X):D4R:=match x with
 | ((ny,s,nx,n,no,j,g,b,c,N,i,()),(Y,X,O,()))=>((ny,s,nx,n,no,j,g,((borrow (aF X/BB^j.toNat) (g.toNat*aF Y) ny:Nat):Int),((g.toNat*aF Y/BB^ny:Nat):Int),()),(Y,fq (aF X) (Ip j.toNat ny g.toNat (aF Y) (aF X)) nx (j.toNat+ny),O,()))
def MR(x:D4X):Bool:=match x with
 | ((ny,s,nx,n,no,j,g,b,c,N,i,()),(Y,X,O,()))=>LC ny s nx n no j Y X O&&(decide (0≤g)&&(decide (g<4294967296)&&(decide (b=0)&&(decide (c=0)&&(decide (N=n)&&(decide (i=0)&&decide (aF X<BB^(j.toNat+ny+1))))))))
def OZ:aZ D4X D4R:=yA {nt:=304,live:=[9,12,13,14,15,16,18,20,21,167,168]} {nt:=304,live:=[9,12,13,14,15,16,18,20,21]} (.with Gp (frA (.cons (yE .u64) (.cons bK (.cons (yE .u64) (.cons bK (.cons bK .nil))))))) (.with Gp (frA (.cons (yE .u64) (.cons bK (.cons (yE .u64) .nil))))) anR MR
theorem aaw:OZ.gI:=eG _ _ _ _ _ _
abbrev D6X:=DA (Int×Int×Int×Int×Unit)×OX
abbrev D6R:=DA (Int×Int×Unit)×OX
def anS(x:D6X):D6R:=match x with
 | ((ny,s,nx,n,no,j,g,c,N,i,()),(Y,X,O,()))=>((ny,s,nx,n,no,j,g,((carry (aF X/BB^j.toNat) (aF Y) ny:Nat):Int),()),(Y,fq (aF X) (MQ j.toNat (aF Y) (aF X)) nx (j.toNat+ny),O,()))
def MS(x:D6X):Bool:=match x with
 | ((ny,s,nx,n,no,j,g,c,N,i,()),(Y,X,O,()))=>LC ny s nx n no j Y X O&&(decide (c=0)&&(decide (N=n)&&decide (i=0)))
def O0:aZ D6X D6R:=yA {nt:=304,live:=[9,12,13,14,15,16,18,25,230,231]} {nt:=304,live:=[9,12,13,14,15,16,18,25]} (.with Gp (frA (.cons (yE .u64) (.cons (yE .u64) (.cons bK (.cons bK .nil)))))) (.with Gp (frA (.cons (yE .u64) (.cons (yE .u64) .nil)))) anS MS
theorem aax:O0.gI:=eG _ _ _ _ _ _
def LDi:Nat→Option (St→Tr (Ex×St)):=λid=>bif Nat.beq id 2 then some (OY.g 0)else bif Nat.beq id 4 then some (OZ.g 0)else bif Nat.beq id 6 then some (O0.g 0)else none
abbrev D0X:=DA Unit×OX
abbrev D0R:=(Int×Nat×Int×Nat×Unit)×(List Nat×List Nat×Unit)
def anT(x:D0X):D0R:=match x with
 | ((ny,s,nx,n,no,j,()),(Y,X,O,()))=>((s,nx,n,no,()),(bB (aF X%aF Y) nx,bB (aF X/aF Y) no,()))
def MU(x:D0X):Bool:=match x with
 | ((ny,s,nx,n,no,j,()),(Y,X,O,()))=>LC ny s nx n no j Y X O&&(decide (j=(no:Int)-1)&&(decide (O=bB 0 no)&&decide (aF X<aF Y*BB^no)))
def O1:aZ D0X D0R:=yA {nt:=304,live:=[9,12,13,14,15,16]} {nt:=304,live:=[12,13,14,15]} (.with Gp (frA .nil)) (.with (.cons ow (.cons ow .nil)) (.cons bK (.cons (gu 0 1) (.cons bK (.cons (gu 1 1) .nil))))) anT MU
theorem aay:O1.gI:=eG _ _ _ _ _ _
abbrev D8X:=(Int×Nat×Nat×Nat×Int×Int×Unit)×OX
abbrev D8R:=(Nat×Nat×Unit)×(List Nat×List Nat×Unit)
def anU(x:D8X):D8R:=match x with
 | ((s,nx,no,nr,N,i,()),(X,O,R,()))=>((no,nr,()),(O,bB (aF X/2^s.toNat) nr,()))
def MV(x:D8X):Bool:=match x with
 | ((s,nx,no,nr,N,i,()),(X,O,R,()))=>decide (nx=X.length)&&(decide (no=O.length)&&((decide (nr<nx)&&(decide (nx≤1000000000)&&(okD X&&(okD O&&(decide (R=bB 0 nr)&&(decide (0≤s)&&(decide (s<32)&&(decide (N=(nr:Int))&&(decide (i=0)&&decide (aF X<BB^nr))))))))))))
def O3:aZ D8X D8R:=yA {nt:=304,live:=[12,13,15,27,276,277]} {nt:=304,live:=[15,27]} (.with Gp (.cons bK (.cons (gu 0 1) (.cons (gu 1 1) (.cons (gu 2 1) (.cons bK (.cons bK .nil))))))) (.with (.cons ow (.cons ow .nil)) (.cons (gu 0 1) (.cons (gu 1 1) .nil))) anU MV
theorem aaz:O3.gI:=eG _ _ _ _ _ _
def LD:Nat→Option (St→Tr (Ex×St)):=λid=>bif Nat.beq id 0 then some (O1.g 0)else bif Nat.beq id 8 then some (O3.g 0)else none
end Go.bI
namespace Go.bI
theorem BX(i:Nat):0<BB^i:=Nat.pow_pos (by decide)
theorem Dv(T w:Nat){i j:Nat}(h:j<i):(T+BB^i*w)/BB^j%BB=T/BB^j%BB:=by
 obtain⟨m,rfl⟩: ∃m,i=j+(m+1):=⟨i-j-1,by omega⟩
 have e:BB^(j+(m+1))*w=BB^j*(BB*(BB^m*w)):=by
  rw[Nat.pow_add,Nat.pow_succ];simp only[Nat.mul_assoc,Nat.mul_comm,Nat.mul_left_comm]
 rw[e,Nat.add_mul_div_left _ _ (BX j),Nat.add_mul_mod_self_left]
theorem ad9(T w i k:Nat)(h:T<BB^i):(T+BB^i*w)/BB^(i+k)=w/BB^k:=by
 rw[Nat.pow_add, ←Nat.div_div_eq_div_mul,Nat.add_mul_div_left _ _ (BX i),Nat.div_eq_of_lt h,Nat.zero_add]
theorem jI(V i k:Nat):V/BB^(i+k)=V/BB^i/BB^k:=by rw[Nat.pow_add,Nat.div_div_eq_div_mul]
theorem sI(V n i:Nat)(h:i<n):(bB V n).getD i 0=V/BB^i%BB:=mF n V i h
theorem vg{l:List Nat}(h:okD l=true)(i:Nat)(hi:i<l.length):l.getD i 0=aF l/BB^i%BB:=by
 have:=jA l h
 conv=>lhs;rw[←this]
 exact mF _ _ _ hi
theorem VA{l:List Nat}(h:okD l=true)(i:Nat):l.getD i 0<BB:=by
 by_cases hi:i<l.length
 ·rw[vg h i hi];exact Nat.mod_lt _ (by decide)
 ·have e:l.getD i 0=0:=by simp[dR,List.getElem?_eq_none (Nat.le_of_not_lt hi)]
  rw[e];decide
theorem VB(X Z n i:Nat)(h:i<n):(fq X Z n (i+1)).set i (X/BB^i%BB)=fq X Z n i:=by
 apply List.ext_getElem
 ·simp[fq]
 ·intro k h1 h2
  simp only[fq,List.getElem_set,List.getElem_map,List.getElem_range];by_cases hk:i=k
  ·subst hk;rw[if_pos rfl,if_neg (Nat.lt_irrefl _)]
  ·rw[if_neg hk]
   by_cases hk2:k<i
   ·rw[if_pos (by omega),if_pos hk2]
   ·rw[if_neg (by omega),if_neg hk2]
theorem aaA(V d i:Nat)(hd:0<d):(V/BB^(i+1)%d*BB+V/BB^i%BB)/d=V/d/BB^i%BB∧(V/BB^(i+1)%d*BB+V/BB^i%BB)%d=V/BB^i%d∧(V/BB^(i+1)%d*BB+V/BB^i%BB)/d<BB:=by
 have e0:V/BB^(i+1)=V/BB^i/BB:=by rw[Nat.pow_succ,Nat.div_div_eq_div_mul]
 have e1:V/d/BB^i=V/BB^i/d:=by rw[Nat.div_div_eq_div_mul,Nat.div_div_eq_div_mul,Nat.mul_comm]
 rw[e0,e1];generalize V/BB^i=U;have h1:=Nat.div_add_mod U BB;have h2:=Nat.div_add_mod (U/BB) d;have h3:U%BB<BB:=Nat.mod_lt _ (by decide);have h4:=Nat.mod_lt (U/BB) hd;generalize hr:U/BB%d=r at*;generalize hv:U%BB=v at*;generalize U/BB/d=q at*;have hU:U=r*BB+v+d*(q*BB):=by
  rw[←h1, ←h2,Nat.mul_add];have:BB*(d*q)=d*(q*BB):=by simp only[Nat.mul_comm,Nat.mul_left_comm,Nat.mul_assoc]
  have:BB*r=r*BB:=Nat.mul_comm _ _;omega
 have hlt:(r*BB+v)/d<BB:=by
  rw[Nat.div_lt_iff_lt_mul hd];have:(r+1)*BB≤d*BB:=Nat.mul_le_mul_right _ h4;rw[Nat.add_mul,Nat.one_mul,Nat.mul_comm d]at this;omega
 refine⟨?_,?_,hlt⟩
 ·rw[hU,Nat.add_mul_div_left _ _ hd,Nat.add_mul_mod_self_right,Nat.mod_eq_of_lt hlt]
 ·rw[hU,Nat.add_mul_mod_self_left]
theorem aaB(T w n i e0 e1:Nat)(hT:T<BB^(i+1))(hn:i+1<n)(he:T/BB^i+w=e0+BB*e1)(h0:e0<BB)(h1:e1<BB):
  ((bB T n).set i e0).set (i+1) e1=bB (T+BB^i*w) n:=by
 have hl:(((bB T n).set i e0).set (i+1) e1).length=n:=by simp[bV]
 have:=tV (l:=((bB T n).set i e0).set (i+1) e1) (v:=T+BB^i*w) λj hj=> ?_
 ·rw[hl]at this;exact this
 ·rw[hl]at hj
  change _=(T+BB^i*w)/BB^j%BB
  have e:(((bB T n).set i e0).set (i+1) e1).getD j 0=if j=i+1 then e1 else if j=i then e0 else(bB T n).getD j 0:=by
   simp only[dR,List.getElem?_set,List.length_set,bV];by_cases a:j=i+1
   ·subst a;simp[hn]
   ·rw[if_neg (Ne.symm a),if_neg a]
    by_cases b:j=i
    ·subst b;simp[hj]
    ·rw[if_neg (Ne.symm b),if_neg b]
  rw[e];have ed:(T+BB^i*w)/BB^i=e0+BB*e1:=by rw[Nat.add_mul_div_left _ _ (BX i),he]
  by_cases a:j=i+1
  ·subst a
   rw[if_pos rfl,jI,ed,Nat.pow_one,Nat.add_mul_div_left _ _ (by decide),Nat.div_eq_of_lt h0,Nat.zero_add,Nat.mod_eq_of_lt h1]
  ·rw[if_neg a]
   by_cases b:j=i
   ·subst b
    rw[if_pos rfl,ed,Nat.add_mul_mod_self_left,Nat.mod_eq_of_lt h0]
   ·rw[if_neg b,sI _ _ _ hj]
    by_cases c:j<i
    ·rw[Dv T w c]
    ·obtain⟨m,rfl⟩: ∃m,j=i+(m+2):=⟨j-i-2,by omega⟩
     have e2: ∀Z,Z/BB^(1+1+m)=Z/BB/BB/BB^m:=λZ=>by
      rw[Nat.pow_add,Nat.pow_add,Nat.pow_one, ←Nat.div_div_eq_div_mul, ←Nat.div_div_eq_div_mul]
     rw[jI (T+_),ed,show m+2=1+1+m by omega,e2 (e0+BB*e1),Nat.add_mul_div_left _ _ (by decide),Nat.div_eq_of_lt h0,Nat.zero_add,Nat.div_eq_of_lt h1,Nat.zero_div];rw[Nat.div_eq_of_lt (Nat.lt_of_lt_of_le hT (Nat.pow_le_pow_right (by decide) (by omega)))]
theorem VD(V s i:Nat):V%BB^(i+1)*2^s=V%BB^i*2^s+BB^i*(V/BB^i%BB*2^s):=by
 rw[Nat.mod_pow_succ,Nat.add_mul,Nat.mul_assoc]
theorem aea(V s i:Nat)(hs:s<32):V%BB^i*2^s<BB^(i+1)∧V%BB^i*2^s/BB^i<2^s:=by
 have h1:V%BB^i<BB^i:=Nat.mod_lt _ (BX i);have h2:V%BB^i*2^s<BB^i*2^s:=Nat.mul_lt_mul_of_pos_right h1 (Nat.pow_pos (by decide));refine⟨?_,(Nat.div_lt_iff_lt_mul (BX i)).2 (by rw[Nat.mul_comm (2^s)];exact h2)⟩;rw[Nat.pow_succ];refine Nat.lt_of_lt_of_le h2 (Nat.mul_le_mul_left _ ?_)
 calc 2^s≤2^32:=Nat.pow_le_pow_right (by decide) (by omega)
  _=BB:=by decide
theorem Rw(o v s:Nat)(hs:s<32)(ho:o<2^s):o ||| (v*2^s%BB)=o+v*2^s%BB∧o+v*2^s%BB<BB:=by
 have hb:BB=2^s*2^(32-s):=by rw[←Nat.pow_add,show s+(32-s)=32 by omega]
 have e:v*2^s%BB=2^s*(v%2^(32-s)):=by
  rw[hb,Nat.mul_comm v,Nat.mul_mod_mul_left]
 have hlt:v%2^(32-s)<2^(32-s):=Nat.mod_lt _ (Nat.pow_pos (by decide));rw[e];constructor
 ·have:=Nat.two_pow_add_eq_or_of_lt (i:=s) (b:=o) ho (v%2^(32-s))
  rw[Nat.or_comm, ←this,Nat.add_comm]
 ·have:2^s*(v%2^(32-s)+1)≤2^s*2^(32-s):=Nat.mul_le_mul_left _ hlt
  rw[←hb,Nat.mul_add,Nat.mul_one]at this;omega
theorem aeb(V s i:Nat)(hs:s<32):(V/BB^(i+1)%BB*BB+V/BB^i%BB)/2^s%BB=V/2^s/BB^i%BB:=by
 have e0:V/BB^(i+1)=V/BB^i/BB:=by rw[Nat.pow_succ,Nat.div_div_eq_div_mul]
 have e1:V/2^s/BB^i=V/BB^i/2^s:=by rw[Nat.div_div_eq_div_mul,Nat.div_div_eq_div_mul,Nat.mul_comm]
 rw[e0,e1];generalize V/BB^i=U;have h1:=Nat.div_add_mod U BB;have h2:=Nat.div_add_mod (U/BB) BB;have hb:BB=2^s*2^(32-s):=by rw[←Nat.pow_add,show s+(32-s)=32 by omega]
 have hU:U=U/BB%BB*BB+U%BB+2^s*(BB*(2^(32-s)*(U/BB/BB))):=by
  have e3:2^s*(BB*(2^(32-s)*(U/BB/BB)))=BB*(BB*(U/BB/BB)):=by
   have:2^s*(BB*(2^(32-s)*(U/BB/BB)))=(2^s*2^(32-s))*(BB*(U/BB/BB)):=by
    simp only[Nat.mul_assoc,Nat.mul_comm,Nat.mul_left_comm]
   rw[this, ←hb]
  rw[e3];have e4:BB*(U/BB)=BB*(BB*(U/BB/BB))+U/BB%BB*BB:=by
   conv=>lhs;rw[←h2]
   rw[Nat.mul_add,Nat.mul_comm BB (U/BB%BB)]
  omega
 conv=>rhs;rw[hU]
 rw[Nat.add_mul_div_left _ _ (Nat.pow_pos (by decide)),Nat.add_mul_mod_self_left]
theorem qj(z:Nat)(h:z<18446744073709551616):IntKind.u64.wrap ((z:Nat):Int)=((z:Nat):Int):=by rw[wrap_u64];omega
theorem Rx(x:Nat)(hx:x<18446744073709551616):(BitVec.ofInt 64 (x:Int)).toNat=x:=by
 rw[BitVec.toNat_ofInt];omega
theorem aji(a b:Nat)(ha:a<BB)(hb:b<BB):IntKind.u64.wrap ((BitVec.ofInt IntKind.u64.bits (IntKind.u64.wrap ((a:Int)*2^min (Int.toNat 32) IntKind.u64.bits)) ||| BitVec.ofInt IntKind.u64.bits ((b:Nat):Int)).toNat:Nat)=((a*BB+b:Nat):Int):=by
 unfold BB at*;have e1:((a:Int)*2^min (Int.toNat 32) IntKind.u64.bits)=((a*4294967296:Nat):Int):=by
  rw[Int.natCast_mul];rfl
 rw[e1,qj (a*4294967296) (by omega)]
 change IntKind.u64.wrap ((BitVec.ofInt 64 ((a*4294967296:Nat):Int) ||| BitVec.ofInt 64 ((b:Nat):Int)).toNat:Nat)=_
 rw[BitVec.toNat_or,Rx _ (by omega),Rx _ (by omega)];have e5:a*4294967296 ||| b=a*4294967296+b:=by
  have:=Nat.two_pow_add_eq_or_of_lt (i:=32) (b:=b) (by simpa using hb) a;rw[Nat.mul_comm a];exact this.symm
 rw[e5,qj _ (by omega)]
theorem avD(o v s:Nat)(hs:s<32)(ho:o<2^s):IntKind.u32.wrap ((BitVec.ofInt IntKind.u32.bits ((o:Nat):Int) ||| BitVec.ofInt IntKind.u32.bits (((v*2^s%BB:Nat)):Int)).toNat:Nat)=((o+v*2^s%BB:Nat):Int):=by
 obtain⟨h1,h2⟩:=Rw o v s hs ho;have ho2:o<BB:=by omega
 have h3:v*2^s%BB<BB:=Nat.mod_lt _ (by decide);unfold BB at*
 change IntKind.u32.wrap ((BitVec.ofInt 32 ((o:Nat):Int) ||| BitVec.ofInt 32 ((v*2^s%4294967296:Nat):Int)).toNat:Nat)=_
 rw[BitVec.toNat_or,H7 _ ho2,H7 _ h3,h1,wrap_u32];omega
theorem JZ(z:Nat):IntKind.u32.wrap ((z:Nat):Int)=((z%BB:Nat):Int):=by rw[wrap_u32];unfold BB;omega
theorem ao7(z:Nat):((z:Nat):Int).fdiv (2^min (Int.toNat 32) IntKind.u64.bits)=((z/BB:Nat):Int):=lH _ 4294967296
theorem VE(l:List Nat)(k b:Nat)(hk:k<l.length):aL l.length (aP (aD l) k 0 [IV.v (.int .u32 (b:Int))].reverse)=l.set k b:=by
 rw[gK _ _ _ hk];have:=aW (l.set k b);rw[List.length_set]at this;exact this
theorem ao8{l:List Nat}(h:okD l=true)(k b:Nat)(hk:k<l.length)(hb:b<BB):aJ l.length (aP (aD l) k 0 [IV.v (.int .u32 (b:Int))].reverse)=true:=by
 rw[gK _ _ _ hk];exact aQ (aiM h k b hb) _
end Go.bI
namespace Go.bI
open Go.Proofs
def EJ(n:Nat)(d:Int)(r:Int)(i:Int)(l:List Nat):Tr (SgX ⊕ SgR):=
 let x1:Int:= ↑n
 let x2:Bool:=decide (0≤i∧i<x1)
 let x3:Bool:=decide (i.toNat<l.length)
 let x4:Bool:=decide (IntKind.u64.wrap d≠0)
 let x5:Int:=IntKind.u64.wrap
  ↑(BitVec.ofInt IntKind.u64.bits (IntKind.u64.wrap (r*2^min (Int.toNat 32) IntKind.u64.bits)) |||
   BitVec.ofInt IntKind.u64.bits (IntKind.u64.wrap ↑(l.getD i.toNat 0))).toNat
 Tr.ite (decide (i≥0))
  (Tr.need true
   (Tr.need x2
    (Tr.need x3
     (Tr.need x4
      (Tr.need x4
       (Tr.need x2
        (Tr.need x3
         (Tr.need
          (aJ l.length
           (aP (aD l) i.toNat 0 [IV.v (.int IntKind.u32 (IntKind.u32.wrap (IntKind.u64.wrap (x5.tdiv (IntKind.u64.wrap d)))))].reverse))
          (Tr.ret
           (Sum.inl
            ((n,d,x5.tmod (IntKind.u64.wrap d),IntKind.i64.wrap (i-1),()),
              aL l.length
               (aP (aD l) i.toNat 0
                [IV.v (.int IntKind.u32 (IntKind.u32.wrap (IntKind.u64.wrap (x5.tdiv (IntKind.u64.wrap d)))))].reverse),
              ())))))))))))
  (Tr.need (aJ l.length (aD l)) (Tr.ret (Sum.inr ((r,()),aL l.length (aD l),()))))
def EK(d:Int)(m:Nat)(n:Nat)(N:Int)(i:Int)(l:List Nat)(o:List Nat):Tr (ShX ⊕ ShR):=
 let x1:Int:= ↑n
 let x2:Int:= ↑m
 let x3:Bool:=decide (0≤i∧i<x2)
 let x4:Bool:=decide (i.toNat<o.length)
 let x5:Int:=IntKind.i64.wrap (i+1)
 let x6:Nat:=x5.toNat
 let x7:Bool:=aJ l.length (aD l)
 let x8:Int:=IntKind.u64.wrap (IntKind.u64.wrap ↑(l.getD i.toNat 0)*2^min d.toNat IntKind.u64.bits)
 let x9:List Nat:=aL l.length (aD l)
 Tr.ite (decide (i<N))
  (Tr.need (decide (0≤i∧i<x1))
   (Tr.need (decide (i.toNat<l.length))
    (Tr.need (decide ¬d<0)
     (Tr.need x3
      (Tr.need x4
       (Tr.need x3
        (Tr.need x4
         (Tr.need true
          (Tr.need (decide (0≤x5∧x5<x2))
           (Tr.need (decide (x6<o.length))
            (Tr.need x7
             (Tr.need
              (aJ o.length
               (aP
                (aP (aD o) i.toNat 0
                 [IV.v
                  (Value.int IntKind.u32
                   (IntKind.u32.wrap
                    ↑(BitVec.ofInt IntKind.u32.bits ↑(o.getD i.toNat 0) |||
                     BitVec.ofInt IntKind.u32.bits (IntKind.u32.wrap x8)).toNat))].reverse)
                x6 0 [IV.v (.int IntKind.u32 (IntKind.u32.wrap (x8.fdiv (2^min (Int.toNat 32) IntKind.u64.bits))))].reverse))
              (Tr.ret
               (Sum.inl
                ((d,m,n,N,x5,()),x9,
                  aL o.length
                   (aP
                    (aP (aD o) i.toNat 0
                     [IV.v
                      (Value.int IntKind.u32
                       (IntKind.u32.wrap
                        ↑(BitVec.ofInt IntKind.u32.bits ↑(o.getD i.toNat 0) |||
                         BitVec.ofInt IntKind.u32.bits (IntKind.u32.wrap x8)).toNat))].reverse)
                    x6 0 [IV.v (.int IntKind.u32 (IntKind.u32.wrap (x8.fdiv (2^min (Int.toNat 32) IntKind.u64.bits))))].reverse),
                  ())))))))))))))))
  (Tr.need x7 (Tr.need (aJ o.length (aD o)) (Tr.ret (Sum.inr ((m,()),x9,aL o.length (aD o),())))))
theorem aaC(x:SgX):(exec Tryz.prog (λ_=>none) bX 1010 (bn 0 (codeOf Tryz.f287)) (iQ Vx.nIn (Vx.head x))).bind (Vx.fin 1 0)=EJ x.1.1 x.1.2.1 x.1.2.2.1 x.1.2.2.2.1 x.2.1:=by
 obtain⟨⟨n,d,r,i,⟨⟩⟩,⟨l,⟨⟩⟩⟩:=x
 kernel_rfl
theorem aaD(x:ShX):(exec Tryz.prog (λ_=>none) bX 1010 (bn 0 (codeOf Tryz.f289)) (iQ Vy.nIn (Vy.head x))).bind (Vy.fin 1 0)=EK x.1.1 x.1.2.1 x.1.2.2.1 x.1.2.2.2.1 x.1.2.2.2.2.1 x.2.1 x.2.2.1:=by
 obtain⟨⟨d,m,n,N,i,⟨⟩⟩,⟨l,o,⟨⟩⟩⟩:=x
 kernel_rfl
theorem aaE(V n i d:Nat)(hn:n≤1000000000)(hi:i<n)(hd:0<d)(hd2:d<4294967296){R:SgX ⊕ SgR→Prop}
  (hin:R (.inl ((n,(d:Nat),((V/BB^i%d:Nat):Int),(i:Int)-1,()),(fq (V/d) V n i,())))):
  (EJ n (d:Nat) ((V/BB^(i+1)%d:Nat):Int) (i:Nat) (fq (V/d) V n (i+1))).sat R:=by
 obtain⟨q1,q2,q3⟩:=aaA V d i hd;have hg:=lJ (V/d) V n (i+1) i hi;rw[if_pos (Nat.lt_succ_self i)]at hg;have hr:V/BB^(i+1)%d<d:=Nat.mod_lt _ hd;have hv:V/BB^i%BB<BB:=Nat.mod_lt _ (by decide);generalize V/BB^(i+1)%d=r at*;generalize hvv:V/BB^i%BB=v at*;have ho:=aji r v (by unfold BB;omega) hv;have hb:r*BB+v<18446744073709551616:=by
  have:r*BB≤4294967295*BB:=Nat.mul_le_mul_right _ (by omega);unfold BB at*;omega
 have e1:((r*BB+v:Nat):Int).tdiv ((d:Nat):Int)=(((r*BB+v)/d:Nat):Int):=(Int.ofNat_tdiv _ _).symm;have e2:((r*BB+v:Nat):Int).tmod ((d:Nat):Int)=(((r*BB+v)%d:Nat):Int):=(Int.ofNat_tmod _ _).symm;have e3:IntKind.u64.wrap (((r*BB+v)/d:Nat):Int)=(((r*BB+v)/d:Nat):Int):=qj _ (Nat.lt_of_le_of_lt (Nat.div_le_self _ _) hb);have e4:IntKind.u32.wrap (((r*BB+v)/d:Nat):Int)=(((r*BB+v)/d:Nat):Int):=by rw[JZ,Nat.mod_eq_of_lt q3]
 have e5:IntKind.i64.wrap ((i:Int)-1)=(i:Int)-1:=wrap_i64 (by omega);have e6:IntKind.u64.wrap ((v:Nat):Int)=((v:Nat):Int):=qj _ (by unfold BB at hv;omega);have e7:IntKind.u64.wrap ((d:Nat):Int)=((d:Nat):Int):=qj _ (by omega);have hlen:=eD (V/d) V n (i+1);have s1:=VE (fq (V/d) V n (i+1)) i ((r*BB+v)/d) (by rw[hlen];exact hi);have s2:=ao8 (lK (V/d) V n (i+1)) i ((r*BB+v)/d) (by rw[hlen];exact hi) q3;rw[q1]at s1 s2 e3 e4 e1;rw[VB _ _ _ _ hi]at s1;rw[q2]at e2;rw[hlen]at s1 s2;simp only[EJ,Int.toNat_natCast,hg,e6,e7,ho,e1,e2,e3,e4,e5,s1,s2,hlen];refine au (λ_=> ?_) (λh=>absurd (show(i:Int)≥0 by omega) (of_decide_eq_false h))
 repeat first
  | refine ah rfl ?_
  | refine ah (bQ) ?_
 exact av hin
theorem aec(V n d:Nat)(hV:V<BB^n)(hn:n≤1000000000)(hd:0<d)(hd2:d<4294967296)(Q:SgR→Prop)(hq:Q ((((V%d:Nat):Int),()),(bB (V/d) n,()))): ∀(k:Nat),k≤n→
  dJ (λx:SgX=>EJ x.1.1 x.1.2.1 x.1.2.2.1 x.1.2.2.2.1 x.2.1) Q (k+1) ((n,(d:Nat),((V/BB^k%d:Nat):Int),(k:Int)-1,()),(fq (V/d) V n k,()))
 | 0,_=>by
   unfold dJ
   change Tr.sat _ (EJ n (d:Nat) ((V/BB^0%d:Nat):Int) ((0:Nat)-1) (fq (V/d) V n 0))
   rw[wK,Nat.pow_zero,Nat.div_one];have e:=aW (bB (V/d) n);simp only[EJ,e,aQ (dH _ _) _];exact au (λh=>by simp at h) (λ_=>ah rfl (av hq))
 | k+1,hk=>by
   unfold dJ;have e:((k+1:Nat):Int)-1=(k:Int):=by omega
   rw[e];exact aaE V n k d hn (by omega) hd hd2 (aec V n d hV hn hd hd2 Q hq k (by omega))
def LSg:Nat→Option (St→Tr (Ex×St)):=λid=>bif Nat.beq id 0 then some (Vx.g 1)else none
theorem ajj:bF Tryz.prog 1 LSg (codeOf Tryz.f287):=by
 refine bG (d:=λid=>Nat.beq id 0) (λid=>by unfold LSg;cases Nat.beq id 0<;>rfl) _ ?_;have hb:bU (λid=>Nat.beq id 0) (codeOf Tryz.f287)=[(0,.loop (bn 0 (codeOf Tryz.f287)))]:=by kernel_rfl
 rw[hb];intro p hp g hg;simp only[List.mem_singleton]at hp;subst hp;have hh:LSg 0=some ((Vx).g 1):=rfl;rw[hh]at hg;obtain rfl:g=(Vx).g 1:=(Option.some.inj hg).symm;refine aZ.sU (N:=1010) aj eP (L:=bX) (ak 1 _) aat (λx=>aaC x) ?_;rintro⟨⟨n,d,r,i,⟨⟩⟩,⟨l,⟨⟩⟩⟩ hx;have hx:MN ((n,d,r,i,()),(l,()))=true:=hx;simp only[MN,cu,fT]at hx;obtain⟨rfl,h2,rfl,rfl,h5,h6,h7⟩:=hx;obtain⟨d,rfl⟩: ∃e:Nat,d=e:=⟨d.toNat,by omega⟩
 have hV:=xI l h2;have:=aec (aF l) l.length d hV h7 (by omega) (by omega) (· =ad7 ((l.length,(d:Nat),0,(l.length:Int)-1,()),(l,()))) (by simp[ad7]) l.length (Nat.le_refl _);rw[zm,jA l h2,Nat.div_eq_of_lt hV,Nat.zero_mod]at this;exact⟨_,this⟩
theorem aaF(V n m i s:Nat)(hm:m=n+1)(hn:m≤1000000000)(hi:i<n)(hs:s<32){R:ShX ⊕ ShR→Prop}
  (hin:R (.inl (((s:Nat),m,n,(n:Nat),((i+1:Nat):Int),()),(bB V n,bB (V%BB^(i+1)*2^s) m,())))):
  (EK (s:Nat) m n (n:Nat) (i:Nat) (bB V n) (bB (V%BB^i*2^s) m)).sat R:=by
 obtain⟨k1,k2⟩:=aea V s i hs;have hnx:=VD V s i;have hv:V/BB^i%BB<BB:=Nat.mod_lt _ (by decide);have hg:=sI V n i hi;have hT:=sI (V%BB^i*2^s) m i (by omega);have hps:2^s≤2147483648:=by
  calc 2^s≤2^31:=Nat.pow_le_pow_right (by decide) (by omega)
   _=2147483648:=by decide
 have hvw:V/BB^i%BB*2^s≤4294967295*2147483648:=Nat.mul_le_mul (Nat.le_of_lt_succ hv) hps;have hd1:V/BB^i%BB*2^s/BB<BB:=(Nat.div_lt_iff_lt_mul (by decide)).2 (Nat.lt_of_le_of_lt hvw (by decide));have hTd:V%BB^i*2^s/BB^i%BB=V%BB^i*2^s/BB^i:=Nat.mod_eq_of_lt (Nat.lt_of_lt_of_le k2 (Nat.le_trans hps (by decide)));rw[hTd]at hT;have c1:=avD (V%BB^i*2^s/BB^i) (V/BB^i%BB) s hs k2;obtain⟨_,c2⟩:=Rw (V%BB^i*2^s/BB^i) (V/BB^i%BB) s hs k2;have hset:=aaB (V%BB^i*2^s) (V/BB^i%BB*2^s) m i (V%BB^i*2^s/BB^i+V/BB^i%BB*2^s%BB) (V/BB^i%BB*2^s/BB) k1 (by omega) (by
  have:=Nat.div_add_mod (V/BB^i%BB*2^s) BB;omega) c2 hd1
 rw[←hnx]at hset;generalize V/BB^i%BB=v at*;generalize V%BB^i*2^s/BB^i=o at*;have e0:IntKind.u64.wrap ((v:Nat):Int)=((v:Nat):Int):=qj _ (by unfold BB at hv;omega);have e1:IntKind.u64.wrap (((v:Nat):Int)*2^min s IntKind.u64.bits)=((v*2^s:Nat):Int):=by
  have:min s IntKind.u64.bits=s:=by change min s 64=s;omega
  rw[this,show((2:Int)^s)=((2^s:Nat):Int)by simp, ←Int.natCast_mul,qj _ (by omega)]
 have e2:IntKind.u32.wrap ((v*2^s:Nat):Int)=((v*2^s%BB:Nat):Int):=JZ _;have e3:IntKind.u32.wrap (((v*2^s/BB:Nat)):Int)=((v*2^s/BB:Nat):Int):=by rw[JZ,Nat.mod_eq_of_lt hd1]
 have e4:IntKind.i64.wrap ((i:Int)+1)=((i+1:Nat):Int):=jR;have l1:=bV m (V%BB^i*2^s);have l2:=bV n V;have f1:=gK (bB (V%BB^i*2^s) m) i (o+v*2^s%BB) (by rw[l1];omega);have f2:=gK ((bB (V%BB^i*2^s) m).set i (o+v*2^s%BB)) (i+1) (v*2^s/BB) (by rw[List.length_set,l1];omega);have e9:=aW (bB (V%BB^(i+1)*2^s) m);have e8:=aW (bB V n);rw[bV]at e9 e8;simp only[EK,Int.toNat_natCast,hg,hT,e0,e1,e2,c1,ao7,e3,e4,f1,f2,hset,e9,e8,l1,l2,aQ (dH _ _) _];refine au (λ_=> ?_) (λh=>absurd (show(i:Int)<(n:Nat)by omega) (of_decide_eq_false h))
 repeat first
  | refine ah rfl ?_
  | refine ah (bQ) ?_
 exact av hin
theorem aed(V n m s:Nat)(hV:V<BB^n)(hm:m=n+1)(hn:m≤1000000000)(hs:s<32)(Q:ShR→Prop)(hq:Q ((m,()),(bB V n,bB (V*2^s) m,()))): ∀(k i:Nat),i+k=n→
  dJ (λx:ShX=>EK x.1.1 x.1.2.1 x.1.2.2.1 x.1.2.2.2.1 x.1.2.2.2.2.1 x.2.1 x.2.2.1) Q (k+1) (((s:Nat),m,n,(n:Nat),(i:Nat),()),(bB V n,bB (V%BB^i*2^s) m,()))
 | 0,i,h=>by
   obtain rfl:i=n:=by omega
   rw[Nat.mod_eq_of_lt hV];unfold dJ
   change Tr.sat _ (EK (s:Nat) m i (i:Nat) (i:Nat) (bB V i) (bB (V*2^s) m))
   have e:=aW (bB (V*2^s) m);have e':=aW (bB V i);simp only[EK,e,e',aQ (dH _ _) _];exact au (λh=>absurd (j4 h) (Int.lt_irrefl _)) (λ_=>ah rfl (ah rfl (av hq)))
 | k+1,i,h=>aaF V n m i s hm hn (by omega) hs (aed V n m s hV hm hn hs Q hq k (i+1) (by omega))
def LSh:Nat→Option (St→Tr (Ex×St)):=λid=>bif Nat.beq id 0 then some (Vy.g 1)else none
theorem ajk:bF Tryz.prog 1 LSh (codeOf Tryz.f289):=by
 refine bG (d:=λid=>Nat.beq id 0) (λid=>by unfold LSh;cases Nat.beq id 0<;>rfl) _ ?_;have hb:bU (λid=>Nat.beq id 0) (codeOf Tryz.f289)=[(0,.loop (bn 0 (codeOf Tryz.f289)))]:=by kernel_rfl
 rw[hb];intro p hp g hg;simp only[List.mem_singleton]at hp;subst hp;have hh:LSh 0=some ((Vy).g 1):=rfl;rw[hh]at hg;obtain rfl:g=(Vy).g 1:=(Option.some.inj hg).symm;refine aZ.sU (N:=1010) aj eP (L:=bX) (ak 1 _) aau (λx=>aaD x) ?_;rintro⟨⟨s,m,n,N,i,⟨⟩⟩,⟨l,o,⟨⟩⟩⟩ hx;have hx:MO ((s,m,n,N,i,()),(l,o,()))=true:=hx;simp only[MO,cu,fT]at hx;obtain⟨rfl,h0,h1,h2,rfl,rfl,rfl,h5,h6,h7⟩:=hx;obtain⟨s,rfl⟩: ∃e:Nat,s=e:=⟨s.toNat,by omega⟩
 have hV:=xI l h2;have:=aed (aF l) l.length m s hV h1 h7 (by omega) (· =ad8 (((s:Nat),m,l.length,(l.length:Nat),0,()),(l,bB 0 m,()))) (by simp only[ad8,jA l h2,Int.toNat_natCast]) l.length 0 (by omega);rw[jA l h2,Nat.pow_zero,Nat.mod_one,Nat.zero_mul]at this;exact⟨_,this⟩
end Go.bI
namespace Go.bI
open Go.Proofs
abbrev asW:fJ ((Nat×Int×Unit)×(List Nat×Unit)):= .with (.cons ow .nil) (.cons (gu 0 1) (.cons (yE .u32) .nil))
abbrev asX:fJ ((Nat×Int×Unit)×(List Nat×Unit)):= .with (.cons ow .nil) (.cons (gu 0 1) (.cons bK .nil))
def MSg(n:Nat)(d:Int)(l:List Nat):Tr je:=
 let x1:List Nat:=aL l.length (aD l)
 let x2:List Nat:=bB (aF x1/d.toNat) n
 Tr.need (aJ l.length (aD l))
  (Tr.need (MN ((n,d,0,IntKind.i64.wrap (↑n-1),()),x1,()))
   (Tr.ret {val:=AV.c (.v (.int IntKind.u32 (IntKind.u32.wrap ↑(aF x1%d.toNat)))),outs:=[some (jk.arr x2.length 1 (aD x2) 335)]}))
def MSh(n:Nat)(d:Int)(l:List Nat):Tr je:=
 let x1:Int:= ↑n
 let x2:Int:=IntKind.i64.wrap (x1+1)
 let x3:Int:=((4:Nat):Int)*x2
 let x4:Nat:=x2.toNat
 let x5:List Nat:=aL l.length (aD l)
 let x6:List Nat:=bB (aF x5*2^d.toNat) x4
 Tr.need (decide (x2=x2))
  (Tr.need (decide (0≤x2))
   (Tr.need (decide (x2≤9223372036854775807))
    (Tr.need (decide (x3≤140737488355328))
     (Tr.need (aJ l.length (aD l))
      (Tr.need (aJ x4 λx=>List.map IV.v [Value.int IntKind.u32 0])
       (Tr.need (MO ((d,x4,n,x1,0,()),x5,aL x4 λx=>List.map IV.v [Value.int IntKind.u32 0],()))
        (Tr.ret {val:=AV.iP 1 x4 1,outs:=[some (jk.arr x5.length 1 (aD x5) 335)],new:=some (jk.arr x6.length 1 (aD x6) 335)})))))))
def O4(x:Int):Tr AV:=
 let x1:Int:=x.fdiv (2^min (Int.toNat 16) IntKind.u32.bits)
 let x2:Int:=2^min (Int.toNat 8) IntKind.u32.bits
 let x3:Int:=IntKind.u8.wrap (x1.fdiv x2)
 let x6:Int:= ↑len8.length
 let x7:Int:=IntKind.u8.wrap x1
 let x8:Int:=IntKind.u8.wrap (x.fdiv x2)
 Tr.ite (decide (x≥65536))
  (Tr.need true
   (Tr.ite (decide (x1≥256))
    (Tr.need true
     (Tr.need (decide (0≤x3∧x3<x6))
      (Tr.ret (AV.c (.v (.int IntKind.i64 (IntKind.i64.wrap (IntKind.i64.wrap (16+8)+IntKind.i64.wrap ↑(len8.getD x3.toNat 0).toNat))))))))
    (Tr.need (decide (0≤x7∧x7<x6))
     (Tr.ret (AV.c (.v (.int IntKind.i64 (IntKind.i64.wrap (16+IntKind.i64.wrap ↑(len8.getD x7.toNat 0).toNat)))))))))
  (Tr.ite (decide (x≥256))
   (Tr.need true
    (Tr.need (decide (0≤x8∧x8<x6))
     (Tr.ret (AV.c (.v (.int IntKind.i64 (IntKind.i64.wrap (IntKind.i64.wrap (0+8)+IntKind.i64.wrap ↑(len8.getD x8.toNat 0).toNat))))))))
   (Tr.need (decide (0≤IntKind.u8.wrap x∧IntKind.u8.wrap x<x6))
    (Tr.ret (AV.c (.v (.int IntKind.i64 (IntKind.i64.wrap (0+IntKind.i64.wrap ↑(len8.getD (IntKind.u8.wrap x).toNat 0).toNat))))))))
theorem aaG(x:Int):aI Tryz.prog (λ_=>none) bX 1010 Tryz.f213 [.c (.v (.int .u32 x))]=O4 x:=by kernel_rfl
theorem VF(n:Nat)(hn:n<4294967296):(O4 (n:Int)).sat λr=>r=dn .i64 (bitLen n:Nat):=by
 have q16: ∀m:Nat,((m:Int)).fdiv (2^min (Int.toNat 16) IntKind.u32.bits)=((m/65536:Nat):Int):=λm=>lH m 65536
 have q8: ∀m:Nat,((m:Int)).fdiv (2^min (Int.toNat 8) IntKind.u32.bits)=((m/256:Nat):Int):=λm=>lH m 256
 have leaf: ∀(m:Nat) (k:Int) (b:Nat),m<256→0≤k→k+8<1000→((b:Nat):Int)=k+(bitLen m:Nat)→bitLen m≤8→
   (Tr.need (decide (0≤IntKind.u8.wrap (m:Int)∧IntKind.u8.wrap (m:Int)<((len8.length:Nat):Int))) (Tr.ret (AV.c (.v (.int IntKind.i64 (IntKind.i64.wrap (k+IntKind.i64.wrap (((len8.getD (IntKind.u8.wrap (m:Int)).toNat 0).toNat:Nat):Int)))))))).sat λr=>r=dn .i64 (b:Nat):=by
  intro m k b hm h0 hk hb hle;have e1:IntKind.u8.wrap (m:Int)=(m:Int):=by rw[wrap_u8];omega
  rw[e1,Int.toNat_natCast,len8_get hm,Q8];refine ah (bQ) (av ?_);rw[wrap_i64 (x:=((bitLen m:Nat):Int)) (by omega),wrap_i64 (by omega),hb];rfl
 have b8: ∀m,m<256→bitLen m≤8:=λm hm=>bitLen_le.2 (by simpa using hm)
 have w5:IntKind.i64.wrap (16+8)=24:=by rfl
 have w6:IntKind.i64.wrap (0+8)=8:=by rfl
 unfold O4;simp only[q16,q8,w5,w6];refine au (λh=>ah rfl ?_) (λh=> ?_)
 ·have h:=j4 h
  have s2:=bitLen_shift (n:=n) (k:=16) (by omega);rw[show(2:Nat)^16=65536 from rfl]at s2;refine au (λh=>ah rfl ?_) (λh=> ?_)
  ·have h:=j4 h
   have s3:=bitLen_shift (n:=n/65536) (k:=8) (by omega);rw[show(2:Nat)^8=256 from rfl]at s3;exact leaf (n/65536/256) 24 (bitLen n) (by omega) (by omega) (by omega) (by omega) (b8 _ (by omega))
  ·have h:=of_decide_eq_false h
   exact leaf (n/65536) 16 (bitLen n) (by omega) (by omega) (by omega) (by omega) (b8 _ (by omega))
 ·have h:=of_decide_eq_false h
  refine au (λh=>ah rfl ?_) (λh=> ?_)
  ·have h:=j4 h
   have s3:=bitLen_shift (n:=n) (k:=8) (by omega);rw[show(2:Nat)^8=256 from rfl]at s3;exact leaf (n/256) 8 (bitLen n) (by omega) (by omega) (by omega) (by omega) (b8 _ (by omega))
  ·have h:=of_decide_eq_false h
   exact leaf n 0 (bitLen n) (by omega) (by omega) (by omega) (by omega) (b8 _ (by omega))
abbrev ajl:Form (Int×Unit):= .cons (yE .u32) .nil
def aee:List AV→Option (AV×List Bool):=ajl.K (λx=>dn .i64 (bitLen x.1.toNat:Nat)) λx=> [decide (0≤x.1),decide (x.1<4294967296)]
theorem aef:aN Tryz.prog 213 aee:=
 ajl.dO (N:=1010) (L:=bX) aj eP (fn:=Tryz.f213) (c:=codeOf Tryz.f213) (by kernel_rfl) (by kernel_rfl) (by kernel_rfl) (ak _ _) (λ_=>rfl) (M:=λx=>O4 x.1) (λx=>aaG x.1)
  λx h=>by
   obtain⟨n,⟨⟩⟩:=x;have h1:0≤n:=j4 (h _ (by simp));have h2:n<4294967296:=j4 (h _ (by simp));obtain⟨m,rfl⟩: ∃m:Nat,n=m:=⟨n.toNat,by omega⟩
   exact VF m (by omega)
def ΓLz:FuncId→Option Spec:=λf=>bif Nat.beq f 213 then some (ay aee)else none
theorem ao9: ∀f s,ΓLz f=some s→aR Tryz.prog f s:=bS aef.spec
def MLz(x:Int):Tr AV:=Tr.need (decide (0≤x)) (Tr.need (decide (x<4294967296)) (Tr.ret (dn .i64 (IntKind.i64.wrap (32-((bitLen x.toNat:Nat):Int))))))
theorem apa(x:Int):aI Tryz.prog ΓLz bX 1010 Tryz.f288 [.c (.v (.int .u32 x))]=MLz x:=by kernel_rfl
def KLz:List AV→Option (AV×List Bool):=ajl.K (λx=>dn .i64 (32-((bitLen x.1.toNat:Nat):Int))) λx=> [decide (0≤x.1),decide (x.1<4294967296)]
theorem asY:aN Tryz.prog 288 KLz:=
 ajl.dO (N:=1010) (L:=bX) aj ao9 (fn:=Tryz.f288) (c:=codeOf Tryz.f288) (by kernel_rfl) (by kernel_rfl) (by kernel_rfl) (ak _ _) (λ_=>rfl) (M:=λx=>MLz x.1) (λx=>apa x.1)
  λx h=>by
   obtain⟨n,⟨⟩⟩:=x;have h1:0≤n:=j4 (h _ (by simp));have h2:n<4294967296:=j4 (h _ (by simp));have h3:bitLen n.toNat≤32:=bitLen_le.2 (by have:(2:Nat)^32=4294967296:=rfl;omega);refine ah (fZ h1) (ah (fZ h2) (av ?_))
   show AV.c (.v (.int .i64 (IntKind.i64.wrap (32-((bitLen n.toNat:Nat):Int)))))=AV.c (.v (.int .i64 (32-((bitLen n.toNat:Nat):Int))))
   rw[wrap_i64 (by omega)]
theorem fJ.aeg{P:Program}{Γ:FuncId→Option Spec}{N:Nat}{X:Type}(F:fJ X){out:X→je}{pre:X→List Bool}{Bg:Bool}{L:Nat→Option (St→Tr (Ex×St))}(hm:P.follows .mixedOrders=true)(hΓ: ∀f s,Γ f=some s→aR P f s){f:FuncId}{fn:Func}{c:Code}(hf:P.funcs[f]? =some fn)
  (hb:fn.body=some c) (hn:jS fn=true) (hl: ∀e l x cs,F.parse e l=some (x,cs)→bF P e.length L c) {M:X→Tr je} (hM: ∀x,wG P Γ L N Bg fn (F.ents x) (F.args x)=M x)
  (h: ∀x,(∀p∈pre x,p=true)→(M x).sat (Bj (out x))):uT P f (F.K out pre):=
 F.anP (L:=λ_=>L) hm hΓ hf hb hn hl (λ_ _ _=>rfl) λx hx=>by
  rw[hM x];exact h x hx
theorem nJ.len1{X Y:Type}(A:Vw X)(F:Form Y){e:List (Option jk)}{l:List AV}{x:Y×(X×Unit)}{cs:List Bool}(h:(fJ.with (.cons A .nil) F).parse e l=some (x,cs)):e.length=1:=by
 simp only[fJ.with]at h
 split at h
 ·rename_i h2
  cases e with
  | nil=>cases h2
  | cons a e=>
    cases e with
    | nil=>rfl
    | cons b e=>
      simp only[nJ.cons,nJ.nil]at h2
      split at h2
      ·rename_i h3;cases h3
      ·cases h2
 ·cases h
theorem MW: ∀(k:Nat),aL k (λ_=>List.map IV.v [Value.int IntKind.u32 0])=bB 0 k:=by
 intro k
 apply List.ext_getElem
 ·simp[aL,bV]
 ·intro i h1 h2
  have hi:i<k:=by simpa[aL]using h1
  have e:(bB 0 k).getD i 0=(bB 0 k)[i]:=by simp[dR,h2]
  rw[←e,mF _ _ _ hi];simp[aL,u32Of]
theorem Gq(k:Nat):aJ k (λ_=>List.map IV.v [Value.int IntKind.u32 0])=true:=List.all_eq_true.2 λ_ _=>rfl
def KSg:rX:=asW.K (λx=>{val:= .c (.v (.int .u32 ((aF x.2.1%x.1.2.1.toNat:Nat):Int))),outs:=[some (.arr x.1.1 1 (aD (bB (aF x.2.1/x.1.2.1.toNat) x.1.1)) 335)]}) λx=> [decide (x.1.1=x.2.1.length),okD x.2.1,decide (0<x.1.2.1),decide (x.1.2.1<4294967296),decide (x.1.1≤1000000000)]
theorem asZ:uT Tryz.prog 287 KSg:=by
 refine asW.aeg (N:=1010) (L:=LSg) (Bg:=false) aj eP (fn:=Tryz.f287) (c:=codeOf Tryz.f287) (by kernel_rfl) (by kernel_rfl) (by kernel_rfl) (λe l x cs h=>by rw[nJ.len1 _ _ h];exact ajj) (M:=λx=>MSg x.1.1 x.1.2.1 x.2.1) (λx=>by obtain⟨⟨n,d,⟨⟩⟩,⟨l,⟨⟩⟩⟩:=x;kernel_rfl) ?_;rintro⟨⟨n,d,⟨⟩⟩,⟨l,⟨⟩⟩⟩ h;have h1:n=l.length:=j4 (h _ (by simp));have h2:okD l=true:=h _ (by simp);have h3:0<d:=j4 (h (decide (0<d)) (by simp));have h4:d<4294967296:=j4 (h (decide (d<4294967296)) (by simp));have h5:n≤1000000000:=j4 (h (decide (n≤1000000000)) (by simp));subst h1;obtain⟨d,rfl⟩: ∃e:Nat,d=e:=⟨d.toNat,by omega⟩
 have hlt:aF l%d<d:=Nat.mod_lt _ (by omega);have hr:IntKind.u32.wrap ((aF l%d:Nat):Int)=((aF l%d:Nat):Int):=by rw[JZ,Nat.mod_eq_of_lt (by unfold BB;omega)]
 have hw:IntKind.i64.wrap (((l.length:Nat):Int)-1)=((l.length:Nat):Int)-1:=wrap_i64 (by omega);have hp:MN ((l.length,(d:Nat),0,((l.length:Nat):Int)-1,()),(l,()))=true:=by
  simp only[MN,cu,fT];exact⟨trivial,h2,trivial,trivial,h3,h4,h5⟩
 simp only[MSg,aW,aQ h2 _,bV,Int.toNat_natCast,hr,hw,hp];exact ah rfl (ah rfl (av (Bj.refl _)))
def KSh:rX:=asX.K (λx=>{val:= .iP 1 (x.1.1+1) 1,outs:=[some (.arr x.2.1.length 1 (aD x.2.1) 335)],new:=some (.arr (x.1.1+1) 1 (aD (bB (aF x.2.1*2^x.1.2.1.toNat) (x.1.1+1))) 335)}) λx=> [decide (x.1.1=x.2.1.length),okD x.2.1,decide (0≤x.1.2.1),decide (x.1.2.1<32),decide (x.1.1≤100000000)]
theorem as0:uT Tryz.prog 289 KSh:=by
 refine asX.aeg (N:=1010) (L:=LSh) (Bg:=false) aj eP (fn:=Tryz.f289) (c:=codeOf Tryz.f289) (by kernel_rfl) (by kernel_rfl) (by kernel_rfl) (λe l x cs h=>by rw[nJ.len1 _ _ h];exact ajk) (M:=λx=>MSh x.1.1 x.1.2.1 x.2.1) (λx=>by obtain⟨⟨n,d,⟨⟩⟩,⟨l,⟨⟩⟩⟩:=x;kernel_rfl) ?_;rintro⟨⟨n,d,⟨⟩⟩,⟨l,⟨⟩⟩⟩ h;have h1:n=l.length:=j4 (h _ (by simp));have h2:okD l=true:=h _ (by simp);have h3:0≤d:=j4 (h (decide (0≤d)) (by simp));have h4:d<32:=j4 (h (decide (d<32)) (by simp));have h5:n≤100000000:=j4 (h (decide (n≤100000000)) (by simp));subst h1;obtain⟨d,rfl⟩: ∃e:Nat,d=e:=⟨d.toNat,by omega⟩
 have hw:IntKind.i64.wrap (((l.length:Nat):Int)+1)=((l.length+1:Nat):Int):=jR;have hp:MO (((d:Nat),l.length+1,l.length,(l.length:Nat),0,()),(l,bB 0 (l.length+1),()))=true:=by
  simp only[MO,bV,cu,fT];exact⟨trivial,trivial,trivial,h2,trivial,trivial,trivial,h3,h4,by omega⟩
 simp only[MSh,aW,aQ h2 _,bV,Int.toNat_natCast,hw,MW,Gq,hp];exact ah (by simp) (ah (bQ) (ah (bQ) (ah (bQ) (ah rfl (ah rfl (ah rfl (av (Bj.refl _))))))))
end Go.bI
namespace Go.bI
theorem aeh{b Y2 P W Y g:Nat}(hb:0<P)(hY:Y<(Y2+1)*P)(hY2:Y2*P≤Y)(hn:b≤Y2)
  (hW:W<Y*b) (hg:g=min (b-1) (W/P/Y2)):W/Y≤g∧g≤W/Y+1∧g*Y2≤W/P:=by
 have hb0:0<b:=by
  rcases Nat.eq_zero_or_pos b with h|h
  ·subst h;simp at hW
  ·exact h
 have as1:0<Y2:=Nat.lt_of_lt_of_le hb0 hn;have hYp:0<Y:=by
  have:0<Y2*P:=Nat.mul_pos as1 hb;omega
 have hq:W/Y≤b-1:=by
  have:W/Y<b:=(Nat.div_lt_iff_lt_mul hYp).2 (by rw[Nat.mul_comm];exact hW);omega
 have h1:W/Y≤W/P/Y2:=by
  rw[Nat.div_div_eq_div_mul];exact Nat.div_le_div_left (by rw[Nat.mul_comm];exact hY2) (Nat.mul_pos hb as1)
 have hgy:g*Y2≤W/P:=by
  have h2:g≤W/P/Y2:=by rw[hg];exact Nat.min_le_right _ _
  exact Nat.le_trans (Nat.mul_le_mul_right _ h2) (Nat.div_mul_le_self _ _)
 refine⟨by rw[hg];exact Nat.le_min.2 ⟨hq,h1⟩,?_,hgy⟩;rcases Nat.eq_zero_or_pos g with h0|h0
 ·rw[h0];exact Nat.zero_le _
 ·have h3:(g-1)*(Y2+1)≤W/P:=by
   have e:(g-1)*(Y2+1)+(Y2+1-g)≤g*Y2:=by
    obtain⟨k,rfl⟩: ∃k,g=k+1:=⟨g-1,by omega⟩
    have hk:k+1≤Y2:=by
     have:k+1≤b-1:=by rw[hg];exact Nat.min_le_left _ _
     omega
    simp only[Nat.add_sub_cancel,Nat.add_mul,Nat.mul_add,Nat.one_mul,Nat.mul_one];omega
   have hgb:g≤b-1:=by rw[hg];exact Nat.min_le_left _ _
   omega
  have h4:(g-1)*Y≤W:=by
   calc (g-1)*Y≤(g-1)*((Y2+1)*P):=Nat.mul_le_mul_left _ (by omega)
    _=(g-1)*(Y2+1)*P:=by rw[Nat.mul_assoc]
    _≤W/P*P:=Nat.mul_le_mul_right _ h3
    _≤W:=Nat.div_mul_le_self _ _
  have h5:g-1≤W/Y:=(Nat.le_div_iff_mul_le hYp).2 h4;omega
theorem J2{b y1 y0 w g r H:Nat}(hb:1<b)(hy1:b≤2*y1)(hy0:y0<b)(hw:w<b)(hH:g*y1+r=H)(hHb:H<y1*b+b)
  (hge:min (b-1) ((H*b+w)/(y1*b+y0))≤g) (hstop:(g<b∧g*y0≤r*b+w)∨b≤r):g=min (b-1) ((H*b+w)/(y1*b+y0))∧r=H-g*y1:=by
 refine⟨?_,by omega⟩;have hyp:0<y1*b+y0:=by
  have:0<y1*b:=Nat.mul_pos (by omega) (by omega);omega
 have hg:g≤b-1:=by
  rcases hstop with h|h
  ·omega
  ·apply Classical.byContradiction
   intro hn;have h1:b≤g:=by omega
   have h2:b*y1≤g*y1:=Nat.mul_le_mul_right _ h1;rw[Nat.mul_comm b y1]at h2;omega
 have hgw:g*y0≤r*b+w:=by
  rcases hstop with h|h
  ·exact h.2
  ·have h1:g*y0≤b*b:=Nat.mul_le_mul (by omega) (by omega)
   have h2:b*b≤r*b:=Nat.mul_le_mul_right _ h;omega
 have h2:g≤(H*b+w)/(y1*b+y0):=by
  rw[Nat.le_div_iff_mul_le hyp,Nat.mul_add, ←Nat.mul_assoc, ←hH,Nat.add_mul];omega
 omega
theorem VG{b y1 y0 w g r H:Nat}(hb:1<b)(hy1:b≤2*y1)(hy0:y0<b)(hw:w<b)(hH:g*y1+r=H)(hr:r<b)
  (hge:min (b-1) ((H*b+w)/(y1*b+y0))≤g) (hgo:b≤g∨r*b+w<g*y0):1≤g∧(g-1)*y1+(r+y1)=H∧min (b-1) ((H*b+w)/(y1*b+y0))≤g-1:=by
 have hg1:1≤g:=by
  rcases hgo with h|h
  ·omega
  ·rcases Nat.eq_zero_or_pos g with h0|h0
   ·subst h0;simp at h
   ·exact h0
 have hyp:0<y1*b+y0:=by
  have:0<y1*b:=Nat.mul_pos (by omega) (by omega);omega
 refine⟨hg1,?_,?_⟩
 ·obtain⟨k,rfl⟩: ∃k,g=k+1:=⟨g-1,by omega⟩
  rw[Nat.add_mul,Nat.one_mul]at hH;simp only[Nat.add_sub_cancel];omega
 ·rcases hgo with h|h
  ·omega
  ·have:(H*b+w)/(y1*b+y0)<g:=by
    rw[Nat.div_lt_iff_lt_mul hyp,Nat.mul_add, ←Nat.mul_assoc, ←hH,Nat.add_mul];omega
   omega
end Go.bI
namespace Go.bI
open Go.Proofs
def EL(s:Int)(nx:Nat)(no:Nat)(nr:Nat)(N:Int)(i:Int)(X:List Nat)(O:List Nat)(R:List Nat):Tr (D8X ⊕ D8R):=
 let x1:Int:=IntKind.i64.wrap (i+1)
 let x2:Int:= ↑nx
 let x3:Nat:=x1.toNat
 let x4:Int:= ↑nr
 let x5:Bool:=aJ O.length (aD O)
 let x6:List Nat:=aL O.length (aD O)
 Tr.ite (decide (i<N))
  (Tr.need (decide (0≤x1∧x1<x2))
   (Tr.need (decide (x3<X.length))
    (Tr.need true
     (Tr.need (decide (0≤i∧i<x2))
      (Tr.need (decide (i.toNat<X.length))
       (Tr.need (decide ¬s<0)
        (Tr.need (decide (0≤i∧i<x4))
         (Tr.need (decide (i.toNat<R.length))
          (Tr.need (aJ X.length (aD X))
           (Tr.need x5
            (Tr.need
             (aJ R.length
              (aP (aD R) i.toNat 0
               [IV.v
                (Value.int IntKind.u32
                 (IntKind.u32.wrap
                  ((IntKind.u64.wrap
                   ↑(BitVec.ofInt IntKind.u64.bits
                     (IntKind.u64.wrap (IntKind.u64.wrap ↑(X.getD x3 0)*2^min (Int.toNat 32) IntKind.u64.bits)) |||
                    BitVec.ofInt IntKind.u64.bits (IntKind.u64.wrap ↑(X.getD i.toNat 0))).toNat).fdiv
                    (2^min s.toNat IntKind.u64.bits))))].reverse))
             (Tr.ret
              (Sum.inl
               ((s,nx,no,nr,N,x1,()),aL X.length (aD X),x6,
                 aL R.length
                  (aP (aD R) i.toNat 0
                   [IV.v
                    (Value.int IntKind.u32
                     (IntKind.u32.wrap
                      ((IntKind.u64.wrap
                       ↑(BitVec.ofInt IntKind.u64.bits
                         (IntKind.u64.wrap (IntKind.u64.wrap ↑(X.getD x3 0)*2^min (Int.toNat 32) IntKind.u64.bits)) |||
                        BitVec.ofInt IntKind.u64.bits (IntKind.u64.wrap ↑(X.getD i.toNat 0))).toNat).fdiv
                        (2^min s.toNat IntKind.u64.bits))))].reverse),
                 ()))))))))))))))
  (Tr.need x5 (Tr.need (aJ R.length (aD R)) (Tr.ret (Sum.inr ((no,nr,()),x6,aL R.length (aD R),())))))
def O5(ny:Nat)(s:Int)(nx:Nat)(n:Int)(no:Nat)(j:Int)(g:Int)(r:Int)(Y:List Nat)(X:List Nat)(O:List Nat):Tr (D2X ⊕ D2R):=
 let x1:Bool:=decide (g≥4294967296)
 let x2:Int:=IntKind.i64.wrap (n-2)
 let x3:Int:= ↑ny
 let x4:Nat:=x2.toNat
 let x5:Int:=IntKind.i64.wrap (IntKind.i64.wrap (j+n)-2)
 let x6:Int:= ↑nx
 let x7:Nat:=x5.toNat
 let x8:Int:=IntKind.u64.wrap (g*IntKind.u64.wrap ↑(Y.getD x4 0))
 let x9:Int:=IntKind.u64.wrap
  ↑(BitVec.ofInt IntKind.u64.bits (IntKind.u64.wrap (r*2^min (Int.toNat 32) IntKind.u64.bits)) |||
   BitVec.ofInt IntKind.u64.bits (IntKind.u64.wrap ↑(X.getD x7 0))).toNat
 let x10:Int:=IntKind.i64.wrap (n-1)
 let fI:Nat:=x10.toNat
 let fU:Int:=IntKind.u64.wrap (r+IntKind.u64.wrap ↑(Y.getD fI 0))
 let iM:Bool:=aJ Y.length (aD Y)
 let iR:Bool:=aJ X.length (aD X)
 let jH:Bool:=aJ O.length (aD O)
 let kE:Int:=IntKind.u64.wrap (g-1)
 Tr.need
  (bif x1 then true
  else decide (0≤x2∧x2<x3)&&(decide (x4<Y.length)&&(decide ¬32<0&&(decide (0≤x5∧x5<x6)&&(decide (x7<X.length)&&true)))))
  (Tr.ite (bif x1 then true else bif false then true else decide (x8>x9))
   (Tr.need (decide (0≤x10∧x10<x3))
    (Tr.need (decide (fI<Y.length))
     (Tr.ite (decide (fU≥4294967296))
      (Tr.need iM
       (Tr.need iR
        (Tr.need jH
         (Tr.ret (Sum.inr ((ny,s,nx,n,no,j,kE,()),aL Y.length (aD Y),aL X.length (aD X),aL O.length (aD O),()))))))
      (Tr.need iM
       (Tr.need iR
        (Tr.need jH
         (Tr.ret
          (Sum.inl ((ny,s,nx,n,no,j,kE,fU,()),aL Y.length (aD Y),aL X.length (aD X),aL O.length (aD O),())))))))))
   (Tr.need iM
    (Tr.need iR
     (Tr.need jH (Tr.ret (Sum.inr ((ny,s,nx,n,no,j,g,()),aL Y.length (aD Y),aL X.length (aD X),aL O.length (aD O),())))))))
theorem aaH(x:D8X):(exec Tryz.prog (λ_=>none) bX 1010 (bn 8 (codeOf Tryz.f257)) (iQ O3.nIn (O3.head x))).bind (O3.fin 0 8)=EL x.1.1 x.1.2.1 x.1.2.2.1 x.1.2.2.2.1 x.1.2.2.2.2.1 x.1.2.2.2.2.2.1 x.2.1 x.2.2.1 x.2.2.2.1:=by
 obtain⟨⟨s,nx,no,nr,N,i,⟨⟩⟩,⟨X,O,R,⟨⟩⟩⟩:=x
 kernel_rfl
theorem aaI(x:D2X):(exec Tryz.prog (λ_=>none) bX 1010 (bn 2 (codeOf Tryz.f257)) (iQ OY.nIn (OY.head x))).bind (OY.fin 0 2)=O5 x.1.1 x.1.2.1 x.1.2.2.1 x.1.2.2.2.1 x.1.2.2.2.2.1 x.1.2.2.2.2.2.1 x.1.2.2.2.2.2.2.1 x.1.2.2.2.2.2.2.2.1 x.2.1 x.2.2.1 x.2.2.2.1:=by
 obtain⟨⟨ny,s,nx,n,no,j,g,r,⟨⟩⟩,⟨Y,X,O,⟨⟩⟩⟩:=x
 kernel_rfl
def cD(g Y i:Nat):Nat:=g*(Y%BB^i)/BB^i
theorem ajm(g Y i:Nat):qh 0 g Y 0 i/BB^(0+i)=cD g Y i:=by simp[qh,cD]
theorem as2(g Y i:Nat)(hg:g<BB):cD g Y i<BB:=by
 rw[←ajm];exact OT 0 g Y 0 i hg
theorem ajn(g Y i:Nat):cD g Y (i+1)=(cD g Y i+g*(Y/BB^i%BB))/BB:=by
 have:=MJ 0 g Y 0 i;rw[ajm,ajm]at this;simpa using this
theorem apb(g Y i:Nat):g*Y/BB^i%BB=(cD g Y i+g*(Y/BB^i%BB))%BB:=by
 have:=MK 0 g Y 0 i;rw[ajm]at this;simpa using this
theorem ajo(g Y n:Nat)(h:Y<BB^n):cD g Y n=g*Y/BB^n:=by unfold cD;rw[Nat.mod_eq_of_lt h]
theorem Ry(W n i:Nat)(h:i≤n):(W+BB^n)%BB^i=W%BB^i:=by
 obtain⟨m,rfl⟩: ∃m,n=i+m:=⟨n-i,by omega⟩
 rw[Nat.pow_add,Nat.add_mul_mod_self_left]
theorem aei(W P n i:Nat)(hP:P≤W+BB^(n+1))(h:i≤n):(W+BB^(n+1)-P)/BB^i%BB=(W/BB^i%BB+BB-borrow W P i-P/BB^i%BB)%BB:=by
 have h1:=MH (W+BB^(n+1)) P i hP;have h2:=Dv W 1 (i:=n+1) (j:=i) (by omega);rw[Nat.mul_one]at h2;have h3:borrow (W+BB^(n+1)) P i=borrow W P i:=by unfold borrow;rw[Ry W (n+1) i (by omega)]
 rw[h1,h2,h3]
theorem YF(V j k:Nat)(h:k<j):V%BB^j/BB^k%BB=V/BB^k%BB:=by
 have h1:=Nat.div_add_mod V (BB^j)
 conv=>rhs;rw[←h1,Nat.add_comm]
 exact(Dv (V%BB^j) (V/BB^j) h).symm
theorem J3(V D j i:Nat):(V%BB^j+BB^j*D)/BB^(j+i)=D/BB^i:=ad9 _ _ _ _ (Nat.mod_lt _ (BX j))
theorem J4(V D L j:Nat):fq V (V%BB^j+BB^j*D) L j=bB V L:=by
 have:=tV (l:=fq V (V%BB^j+BB^j*D) L j) (v:=V) λk hk=>by
  rw[eD]at hk;rw[lJ _ _ _ _ _ hk]
  split
  ·rename_i h
   rw[Dv _ _ h,YF V j k h]
  ·rfl
 rw[eD]at this;exact this
theorem aaJ(X O:List Nat)(hX:okD X=true)(hO:okD O=true)(s nr i:Nat)(hs:s<32)(hnr:nr<X.length)(hn:X.length≤1000000000)(hi:i<nr){R:D8X ⊕ D8R→Prop}
  (hin:R (.inl (((s:Nat),X.length,O.length,nr,(nr:Nat),((i+1:Nat):Int),()),(X,O,fq 0 (aF X/2^s) nr (i+1),())))):
  (EL (s:Nat) X.length O.length nr (nr:Nat) (i:Nat) X O (fq 0 (aF X/2^s) nr i)).sat R:=by
 have g1:=vg hX (i+1) (by omega);have g0:=vg hX i (by omega);have hb:=aeb (aF X) s i hs;have v1:aF X/BB^(i+1)%BB<BB:=Nat.mod_lt _ (by decide);have v0:aF X/BB^i%BB<BB:=Nat.mod_lt _ (by decide);have hms:=pR 0 (aF X/2^s) nr i hi;generalize aF X/BB^(i+1)%BB=a at*;generalize aF X/BB^i%BB=b at*;have ho:=aji a b v1 v0;have e1:IntKind.u64.wrap ((a:Nat):Int)=((a:Nat):Int):=qj _ (by unfold BB at v1;omega);have e0:IntKind.u64.wrap ((b:Nat):Int)=((b:Nat):Int):=qj _ (by unfold BB at v0;omega);have e2:((a*BB+b:Nat):Int).fdiv (2^min s IntKind.u64.bits)=(((a*BB+b)/2^s:Nat):Int):=by
  have:min s IntKind.u64.bits=s:=by change min s 64=s;omega
  rw[this,show((2:Int)^s)=((2^s:Nat):Int)by simp];exact lH _ _
 have e3:IntKind.u32.wrap (((a*BB+b)/2^s:Nat):Int)=((aF X/2^s/BB^i%BB:Nat):Int):=by rw[JZ,hb]
 have e4:IntKind.i64.wrap ((i:Int)+1)=((i+1:Nat):Int):=jR;have f1:=gK (fq 0 (aF X/2^s) nr i) i (aF X/2^s/BB^i%BB) (by rw[eD];exact hi);rw[hms]at f1;have e9:=aW (fq 0 (aF X/2^s) nr (i+1));rw[eD]at e9;simp only[EL,Int.toNat_natCast,g1,g0,e1,e0,ho,e2,e3,e4,f1,e9,aW,eD,aQ hX _,aQ hO _,aQ (lK _ _ _ _) _];refine au (λ_=> ?_) (λh=>absurd (show(i:Int)<(nr:Nat)by omega) (of_decide_eq_false h))
 repeat first
  | refine ah rfl ?_
  | refine ah (bQ) ?_
 exact av hin
theorem aej(X O:List Nat)(hX:okD X=true)(hO:okD O=true)(s nr:Nat)(hs:s<32)(hnr:nr<X.length)(hn:X.length≤1000000000)(Q:D8R→Prop)(hq:Q ((O.length,nr,()),(O,bB (aF X/2^s) nr,()))): ∀(k i:Nat),i+k=nr→
  dJ (λx:D8X=>EL x.1.1 x.1.2.1 x.1.2.2.1 x.1.2.2.2.1 x.1.2.2.2.2.1 x.1.2.2.2.2.2.1 x.2.1 x.2.2.1 x.2.2.2.1) Q (k+1) (((s:Nat),X.length,O.length,nr,(nr:Nat),(i:Nat),()),(X,O,fq 0 (aF X/2^s) nr i,()))
 | 0,i,h=>by
   obtain rfl:i=nr:=by omega
   unfold dJ
   change Tr.sat _ (EL (s:Nat) X.length O.length i (i:Nat) (i:Nat) X O (fq 0 (aF X/2^s) i i))
   have e:=aW (fq 0 (aF X/2^s) i i);simp only[EL,e,aW,aQ hO _,aQ (lK _ _ _ _) _];rw[zm];exact au (λh=>absurd (j4 h) (Int.lt_irrefl _)) (λ_=>ah rfl (ah rfl (av hq)))
 | k+1,i,h=>aaJ X O hX hO s nr i hs hnr hn (by omega) (aej X O hX hO s nr hs hnr hn Q hq k (i+1) (by omega))
theorem VH(g r w y0:Nat):(bif decide ((g:Int)≥4294967296)then true else bif false then true else decide (((g*y0:Nat):Int)>((r*BB+w:Nat):Int)))=decide (BB≤g∨r*BB+w<g*y0):=by
 by_cases hg:BB≤g
 ·have d1:decide ((g:Int)≥4294967296)=true:=fZ (by unfold BB at hg;omega)
  rw[d1,cond_true];exact(fZ (Or.inl hg)).symm
 ·have d1:decide ((g:Int)≥4294967296)=false:=jK (by unfold BB at hg;omega)
  rw[d1,cond_false,cond_false];refine decide_eq_decide.2 ⟨λh=> .inr (by omega),λh=> ?_⟩;rcases h with h|h<;>omega
theorem aaK(Y X O:List Nat)(hY:okD Y=true)(hX:okD X=true)(hO:okD O=true)(ny no j H:Nat)(s:Int)(h2:2≤ny)(hYl:Y.length=ny+1)(hXl:X.length=ny+no)(hj:j<no)(hn:X.length≤1000000000)
  (hb:BB≤2*Y.getD (ny-1) 0) (hHb:H<Y.getD (ny-1) 0*BB+BB) (g r:Nat) (h:g*Y.getD (ny-1) 0+r=H) (hr:r<BB) (hge:xJ (Y.getD (ny-1) 0) (Y.getD (ny-2) 0) (X.getD (j+ny-2) 0) H≤g) {R:D2X ⊕ D2R→Prop}
  (hin: ∀g' r',g'*Y.getD (ny-1) 0+r'=H→r'<BB→xJ (Y.getD (ny-1) 0) (Y.getD (ny-2) 0) (X.getD (j+ny-2) 0) H≤g'→r'=r+Y.getD (ny-1) 0→R (.inl ((ny,s,X.length,(ny:Nat),O.length,(j:Nat),(g':Nat),(r':Nat),()),(Y,X,O,()))))
  (hq:R (.inr ((ny,s,X.length,(ny:Nat),O.length,(j:Nat),((xJ (Y.getD (ny-1) 0) (Y.getD (ny-2) 0) (X.getD (j+ny-2) 0) H:Nat):Int),()),(Y,X,O,())))):
  (O5 ny s X.length (ny:Nat) O.length (j:Nat) (g:Nat) (r:Nat) Y X O).sat R:=by
 have y1l:=VA hY (ny-1);have y0l:=VA hY (ny-2);have wl:=VA hX (j+ny-2);have w0:IntKind.i64.wrap (((ny:Nat):Int)-2)=((ny-2:Nat):Int):=jR;have w1:IntKind.i64.wrap (((ny:Nat):Int)-1)=((ny-1:Nat):Int):=jR;have w2:IntKind.i64.wrap (((j:Nat):Int)+((ny:Nat):Int))=((j+ny:Nat):Int):=jR;have w3:IntKind.i64.wrap (((j+ny:Nat):Int)-2)=((j+ny-2:Nat):Int):=jR;generalize hy1:Y.getD (ny-1) 0=y1 at*;generalize hy0:Y.getD (ny-2) 0=y0 at*;generalize hw:X.getD (j+ny-2) 0=w at*;have hB:(1:Nat)<BB:=by decide
 have hyp:0<y1:=by unfold BB at hb;omega
 have hg2:g≤BB+1:=by
  have h3:g*y1<(BB+2)*y1:=by
   have:(BB+2)*y1=y1*BB+2*y1:=by rw[Nat.add_mul,Nat.mul_comm BB]
   omega
  have:=Nat.lt_of_mul_lt_mul_right h3;omega
 have hg3:g<4294967298:=by unfold BB at hg2;omega
 have b1:IntKind.u64.wrap ((y1:Nat):Int)=((y1:Nat):Int):=qj _ (by unfold BB at y1l;omega);have b0:IntKind.u64.wrap ((y0:Nat):Int)=((y0:Nat):Int):=qj _ (by unfold BB at y0l;omega);have bw:IntKind.u64.wrap ((w:Nat):Int)=((w:Nat):Int):=qj _ (by unfold BB at wl;omega);have hgy:g*y0<18446744073709551616:=by
  have h4:g*y0≤(BB+1)*(BB-1):=Nat.mul_le_mul hg2 (by omega);have:(BB+1)*(BB-1)<18446744073709551616:=by decide
  omega
 have bg:IntKind.u64.wrap (((g:Nat):Int)*((y0:Nat):Int))=((g*y0:Nat):Int):=by rw[←Int.natCast_mul];exact qj _ hgy
 have bo:=aji r w hr wl;have br:IntKind.u64.wrap (((r:Nat):Int)+((y1:Nat):Int))=((r+y1:Nat):Int):=by
  rw[←Int.natCast_add];exact qj _ (by unfold BB at hr y1l;omega)
 have c0:(bif decide ((g:Int)≥4294967296)then true else decide (0≤((ny-2:Nat):Int)∧((ny-2:Nat):Int)<((ny:Nat):Int))&&(decide (ny-2<Y.length)&&(decide ¬32<0&&(decide (0≤((j+ny-2:Nat):Int)∧((j+ny-2:Nat):Int)<((X.length:Nat):Int))&&(decide (j+ny-2<X.length)&&true)))))=true:=by
  cases decide ((g:Int)≥4294967296)
  ·simp only[cond_false,cu,fT];refine⟨⟨?_,?_⟩,?_,?_,⟨?_,?_⟩,?_,trivial⟩<;>omega
  ·rfl
 have c1:=VH g r w y0;simp only[O5,w0,w1,w2,w3,Int.toNat_natCast,hy1,hy0,hw,b1,b0,bw,bg,bo,br,c0,c1,aW,aQ hY _,aQ hX _,aQ hO _];refine ah rfl (au (λhgo=> ?_) (λhgo=> ?_))
 ·have hgo:=j4 hgo
  obtain⟨t1,t2,t3⟩:=VG hB hb y0l wl h hr hge hgo;have bm:IntKind.u64.wrap (((g:Nat):Int)-1)=((g-1:Nat):Int):=by
   rw[show((g:Nat):Int)-1=((g-1:Nat):Int)by omega];exact qj _ (by omega)
  simp only[bm];refine ah (bQ) (ah (bQ) (au (λhr2=> ?_) (λhr2=> ?_)))
  ·have hr2:=j4 hr2
   obtain⟨u1, -⟩:=J2 hB hb y0l wl t2 hHb t3 (.inr (by unfold BB;omega));refine ah rfl (ah rfl (ah rfl (av ?_)))
   change R _
   have:g-1=xJ y1 y0 w H:=by unfold xJ;exact u1
   rw[this];exact hq
  ·have hr2:=of_decide_eq_false hr2
   refine ah rfl (ah rfl (ah rfl (av ?_)));exact hin (g-1) (r+y1) t2 (by unfold BB;omega) t3 rfl
 ·have hgo:=of_decide_eq_false hgo
  obtain⟨u1, -⟩:=J2 hB hb y0l wl h hHb hge (.inl (by omega));refine ah rfl (ah rfl (ah rfl (av ?_)))
  change R _
  have:g=xJ y1 y0 w H:=by unfold xJ;exact u1
  rw[←this]at hq;exact hq
theorem aek(Y X O:List Nat)(hY:okD Y=true)(hX:okD X=true)(hO:okD O=true)(ny no j H:Nat)(s:Int)(h2:2≤ny)(hYl:Y.length=ny+1)(hXl:X.length=ny+no)(hj:j<no)(hn:X.length≤1000000000)
  (hb:BB≤2*Y.getD (ny-1) 0) (hHb:H<Y.getD (ny-1) 0*BB+BB) (Q:D2R→Prop)
  (hq:Q ((ny,s,X.length,(ny:Nat),O.length,(j:Nat),((xJ (Y.getD (ny-1) 0) (Y.getD (ny-2) 0) (X.getD (j+ny-2) 0) H:Nat):Int),()),(Y,X,O,()))):
  ∀(k g r:Nat),g*Y.getD (ny-1) 0+r=H→r<BB→xJ (Y.getD (ny-1) 0) (Y.getD (ny-2) 0) (X.getD (j+ny-2) 0) H≤g→BB≤r+k*Y.getD (ny-1) 0→
  dJ (λx:D2X=>O5 x.1.1 x.1.2.1 x.1.2.2.1 x.1.2.2.2.1 x.1.2.2.2.2.1 x.1.2.2.2.2.2.1 x.1.2.2.2.2.2.2.1 x.1.2.2.2.2.2.2.2.1 x.2.1 x.2.2.1 x.2.2.2.1) Q k ((ny,s,X.length,(ny:Nat),O.length,(j:Nat),(g:Nat),(r:Nat),()),(Y,X,O,()))
 | 0,g,r,h,hr,hge,hk=>by
   rw[Nat.zero_mul,Nat.add_zero]at hk;exact absurd hr (Nat.not_lt.2 hk)
 | k+1,g,r,h,hr,hge,hk=>by
   rw[Nat.add_mul,Nat.one_mul]at hk;exact aaK Y X O hY hX hO ny no j H s h2 hYl hXl hj hn hb hHb g r h hr hge (λg' r' h' hr' hge' he=>aek Y X O hY hX hO ny no j H s h2 hYl hXl hj hn hb hHb Q hq k g' r' h' hr' hge' (by omega)) hq
end Go.bI
namespace Go.bI
open Go.Proofs
def EM(ny:Nat)(s:Int)(nx:Nat)(n:Int)(no:Nat)(j:Int)(g:Int)(b:Int)(c:Int)(N:Int)(i:Int)(Y:List Nat)(X:List Nat)(O:List Nat):Tr (D4X ⊕ D4R):=
 let x1:Int:= ↑ny
 let x2:Int:=IntKind.i64.wrap (i+j)
 let x3:Int:= ↑nx
 let x4:Bool:=decide (0≤x2∧x2<x3)
 let x5:Nat:=x2.toNat
 let x6:Bool:=decide (x5<X.length)
 let x7:Int:=IntKind.u64.wrap (c+IntKind.u64.wrap (g*IntKind.u64.wrap ↑(Y.getD i.toNat 0)))
 let x8:Int:=IntKind.i64.wrap (IntKind.i64.wrap (IntKind.i64.wrap ↑(X.getD x5 0)-b)-IntKind.i64.wrap (IntKind.u32.wrap x7))
 let x9:Bool:=aJ Y.length (aD Y)
 let x10:Bool:=aJ O.length (aD O)
 let fI:List Nat:=aL Y.length (aD Y)
 Tr.ite (decide (i<N))
  (Tr.need (decide (0≤i∧i<x1))
   (Tr.need (decide (i.toNat<Y.length))
    (Tr.need x4
     (Tr.need x6
      (Tr.need true
       (Tr.ite (decide (x8<0))
        (Tr.need x4
         (Tr.need x6
          (Tr.need x9
           (Tr.need
            (aJ X.length (aP (aD X) x5 0 [IV.v (.int IntKind.u32 (IntKind.u32.wrap (IntKind.i64.wrap (x8+4294967296))))].reverse))
            (Tr.need x10
             (Tr.ret
              (Sum.inl
               ((ny,s,nx,n,no,j,g,1,x7.fdiv (2^min (Int.toNat 32) IntKind.u64.bits),N,IntKind.i64.wrap (i+1),()),fI,
                 aL X.length
                  (aP (aD X) x5 0 [IV.v (.int IntKind.u32 (IntKind.u32.wrap (IntKind.i64.wrap (x8+4294967296))))].reverse),
                 aL O.length (aD O),()))))))))
        (Tr.need x4
         (Tr.need x6
          (Tr.need x9
           (Tr.need (aJ X.length (aP (aD X) x5 0 [IV.v (.int IntKind.u32 (IntKind.u32.wrap x8))].reverse))
            (Tr.need x10
             (Tr.ret
              (Sum.inl
               ((ny,s,nx,n,no,j,g,0,x7.fdiv (2^min (Int.toNat 32) IntKind.u64.bits),N,IntKind.i64.wrap (i+1),()),fI,
                 aL X.length (aP (aD X) x5 0 [IV.v (.int IntKind.u32 (IntKind.u32.wrap x8))].reverse),aL O.length (aD O),
                 ()))))))))))))))
  (Tr.need x9
   (Tr.need (aJ X.length (aD X))
    (Tr.need x10 (Tr.ret (Sum.inr ((ny,s,nx,n,no,j,g,b,c,()),fI,aL X.length (aD X),aL O.length (aD O),()))))))
def EN(ny:Nat)(s:Int)(nx:Nat)(n:Int)(no:Nat)(j:Int)(g:Int)(c:Int)(N:Int)(i:Int)(Y:List Nat)(X:List Nat)(O:List Nat):Tr (D6X ⊕ D6R):=
 let x1:Int:=IntKind.i64.wrap (i+j)
 let x2:Int:= ↑nx
 let x3:Bool:=decide (0≤x1∧x1<x2)
 let x4:Nat:=x1.toNat
 let x5:Bool:=decide (x4<X.length)
 let x6:Int:= ↑ny
 let x7:Bool:=aJ Y.length (aD Y)
 let x8:Int:=IntKind.u64.wrap (c+IntKind.u64.wrap (IntKind.u64.wrap ↑(X.getD x4 0)+IntKind.u64.wrap ↑(Y.getD i.toNat 0)))
 let x9:Bool:=aJ O.length (aD O)
 let x10:List Nat:=aL Y.length (aD Y)
 Tr.ite (decide (i<N))
  (Tr.need x3
   (Tr.need x5
    (Tr.need (decide (0≤i∧i<x6))
     (Tr.need (decide (i.toNat<Y.length))
      (Tr.need true
       (Tr.need x3
        (Tr.need x5
         (Tr.need x7
          (Tr.need (aJ X.length (aP (aD X) x4 0 [IV.v (.int IntKind.u32 (IntKind.u32.wrap x8))].reverse))
           (Tr.need x9
            (Tr.ret
             (Sum.inl
              ((ny,s,nx,n,no,j,g,x8.fdiv (2^min (Int.toNat 32) IntKind.u64.bits),N,IntKind.i64.wrap (i+1),()),x10,
                aL X.length (aP (aD X) x4 0 [IV.v (.int IntKind.u32 (IntKind.u32.wrap x8))].reverse),aL O.length (aD O),
                ())))))))))))))
  (Tr.need x7
   (Tr.need (aJ X.length (aD X))
    (Tr.need x9 (Tr.ret (Sum.inr ((ny,s,nx,n,no,j,g,c,()),x10,aL X.length (aD X),aL O.length (aD O),()))))))
theorem aaL(x:D4X):(exec Tryz.prog (λ_=>none) bX 1010 (bn 4 (codeOf Tryz.f257)) (iQ OZ.nIn (OZ.head x))).bind (OZ.fin 0 4)=EM x.1.1 x.1.2.1 x.1.2.2.1 x.1.2.2.2.1 x.1.2.2.2.2.1 x.1.2.2.2.2.2.1 x.1.2.2.2.2.2.2.1 x.1.2.2.2.2.2.2.2.1 x.1.2.2.2.2.2.2.2.2.1 x.1.2.2.2.2.2.2.2.2.2.1 x.1.2.2.2.2.2.2.2.2.2.2.1 x.2.1 x.2.2.1 x.2.2.2.1:=by
 obtain⟨⟨ny,s,nx,n,no,j,g,b,c,N,i,⟨⟩⟩,⟨Y,X,O,⟨⟩⟩⟩:=x
 kernel_rfl
theorem aaM(x:D6X):(exec Tryz.prog (λ_=>none) bX 1010 (bn 6 (codeOf Tryz.f257)) (iQ O0.nIn (O0.head x))).bind (O0.fin 0 6)=EN x.1.1 x.1.2.1 x.1.2.2.1 x.1.2.2.2.1 x.1.2.2.2.2.1 x.1.2.2.2.2.2.1 x.1.2.2.2.2.2.2.1 x.1.2.2.2.2.2.2.2.1 x.1.2.2.2.2.2.2.2.2.1 x.1.2.2.2.2.2.2.2.2.2.1 x.2.1 x.2.2.1 x.2.2.2.1:=by
 obtain⟨⟨ny,s,nx,n,no,j,g,c,N,i,⟨⟩⟩,⟨Y,X,O,⟨⟩⟩⟩:=x
 kernel_rfl
theorem aaN(Y O:List Nat)(hY:okD Y=true)(hO:okD O=true)(ny j V g L:Nat)(s:Int)(hYl:ny<Y.length)(hL:j+ny<L)(hn:L≤1000000000)(hg:g<BB)
  (hP:g*aF Y≤V/BB^j+BB^(ny+1)) (i:Nat) (hi:i<ny) {R:D4X ⊕ D4R→Prop}
  (hin:R (.inl ((ny,s,L,(ny:Nat),O.length,(j:Nat),(g:Nat),((borrow (V/BB^j) (g*aF Y) (i+1):Nat):Int),((cD g (aF Y) (i+1):Nat):Int),(ny:Nat),((i+1:Nat):Int),()),(Y,fq V (Ip j ny g (aF Y) V) L (j+(i+1)),O,())))):
  (EM ny s L (ny:Nat) O.length (j:Nat) (g:Nat) ((borrow (V/BB^j) (g*aF Y) i:Nat):Int) ((cD g (aF Y) i:Nat):Int) (ny:Nat) (i:Nat) Y (fq V (Ip j ny g (aF Y) V) L (j+i)) O).sat R:=by
 have hy:=vg hY i (by omega);have hx:=lJ V (Ip j ny g (aF Y) V) L (j+i) (j+i) (by omega);rw[if_neg (Nat.lt_irrefl _),jI]at hx;have hms:=pR V (Ip j ny g (aF Y) V) L (j+i) (by omega);have hz:Ip j ny g (aF Y) V/BB^(j+i)%BB=(V/BB^j/BB^i%BB+BB-borrow (V/BB^j) (g*aF Y) i-g*aF Y/BB^i%BB)%BB:=by
  unfold Ip;rw[J3];unfold sbD;exact aei (V/BB^j) (g*aF Y) ny i hP (by omega)
 rw[hz]at hms;have hbs:=zn (V/BB^j) (g*aF Y) i;have hcs:=ajn g (aF Y) i;have hcd:=apb g (aF Y) i;have hcl:=as2 g (aF Y) i hg;have hbl:=z8 (V/BB^j) (g*aF Y) i;have hyl:aF Y/BB^i%BB<BB:=Nat.mod_lt _ (by decide);have hxl:V/BB^j/BB^i%BB<BB:=Nat.mod_lt _ (by decide);generalize borrow (V/BB^j) (g*aF Y) i=b at*;generalize borrow (V/BB^j) (g*aF Y) (i+1)=b' at*;generalize cD g (aF Y) i=c at*;generalize cD g (aF Y) (i+1)=c' at*;generalize V/BB^j/BB^i%BB=x at*;generalize aF Y/BB^i%BB=y at*;have hgy:g*y≤4294967295*4294967295:=Nat.mul_le_mul (Nat.le_of_lt_succ hg) (Nat.le_of_lt_succ hyl);have hpl:g*aF Y/BB^i%BB<BB:=Nat.mod_lt _ (by decide);generalize g*aF Y/BB^i%BB=p at*;unfold BB at hcl hyl hxl hpl;have w0:IntKind.i64.wrap ((i:Int)+(j:Int))=((j+i:Nat):Int):=jR;have w1:IntKind.i64.wrap ((i:Int)+1)=((i+1:Nat):Int):=jR;have u1:IntKind.u64.wrap ((y:Nat):Int)=((y:Nat):Int):=qj _ (by omega);have u2:IntKind.u64.wrap (((g:Nat):Int)*((y:Nat):Int))=((g*y:Nat):Int):=by rw[←Int.natCast_mul];exact qj _ (by omega)
 have u3:IntKind.u64.wrap (((c:Nat):Int)+((g*y:Nat):Int))=((c+g*y:Nat):Int):=by rw[←Int.natCast_add];exact qj _ (by omega)
 have u4:IntKind.u32.wrap ((c+g*y:Nat):Int)=((p:Nat):Int):=by rw[JZ, ←hcd]
 have u5:IntKind.i64.wrap ((p:Nat):Int)=((p:Nat):Int):=wrap_i64 (by omega);have u6:IntKind.i64.wrap ((x:Nat):Int)=((x:Nat):Int):=wrap_i64 (by omega);have u7:IntKind.i64.wrap (((x:Nat):Int)-((b:Nat):Int))=((x:Nat):Int)-((b:Nat):Int):=wrap_i64 (by omega);have u8:IntKind.i64.wrap (((x:Nat):Int)-((b:Nat):Int)-((p:Nat):Int))=((x:Nat):Int)-((b:Nat):Int)-((p:Nat):Int):=wrap_i64 (by omega);have f9:=aW (fq V (Ip j ny g (aF Y) V) L (j+i+1));rw[eD]at f9;have f1:=gK (fq V (Ip j ny g (aF Y) V) L (j+i)) (j+i) ((x+BB-b-p)%BB) (by rw[eD];omega);rw[hms]at f1;have c9:((i:Nat):Int)<((ny:Nat):Int):=by omega
 simp only[EM,w0,w1,Int.toNat_natCast,hy,hx,u1,u2,u3,u4,u5,u6,u7,u8,ao7, ←hcs,aW,aQ hY _,aQ hO _,eD];refine au (λ_=> ?_) (λh=>absurd c9 (of_decide_eq_false h));refine ah (bQ) (ah (bQ) (ah (bQ) (ah (bQ) (ah rfl (au (λhlt=> ?_) (λhlt=> ?_))))))
 ·have hlt:=j4 hlt
  have v1:IntKind.u32.wrap (IntKind.i64.wrap (((x:Nat):Int)-((b:Nat):Int)-((p:Nat):Int)+4294967296))=(((x+BB-b-p)%BB:Nat):Int):=by
   rw[wrap_i64 (by omega),wrap_u32];unfold BB;omega
  have hb':b'=1:=by rw[hbs,if_pos (by omega)]
  subst hb';simp only[v1,f1,f9,aQ (lK _ _ _ _) _];refine ah (bQ) (ah (bQ) (ah rfl (ah rfl (ah rfl (av hin)))))
 ·have hlt:=of_decide_eq_false hlt
  have v1:IntKind.u32.wrap (((x:Nat):Int)-((b:Nat):Int)-((p:Nat):Int))=(((x+BB-b-p)%BB:Nat):Int):=by
   rw[wrap_u32];unfold BB;omega
  have hb':b'=0:=by rw[hbs,if_neg (by omega)]
  subst hb';simp only[v1,f1,f9,aQ (lK _ _ _ _) _];refine ah (bQ) (ah (bQ) (ah rfl (ah rfl (ah rfl (av hin)))))
theorem VI(Y O:List Nat)(hY:okD Y=true)(hO:okD O=true)(ny L no:Nat)(s:Int)(j g b c:Int)(V Z k:Nat){R:D4X ⊕ D4R→Prop}
  (hq:R (.inr ((ny,s,L,(ny:Nat),no,j,g,b,c,()),(Y,fq V Z L k,O,())))):(EM ny s L (ny:Nat) no j g b c (ny:Nat) (ny:Nat) Y (fq V Z L k) O).sat R:=by
 have e:=aW (fq V Z L k);simp only[EM,e,aW,aQ hY _,aQ hO _,aQ (lK _ _ _ _) _];exact au (λh=>absurd (j4 h) (Int.lt_irrefl _)) (λ_=>ah rfl (ah rfl (ah rfl (av hq))))
theorem ael(Y O:List Nat)(hY:okD Y=true)(hO:okD O=true)(ny j V g L:Nat)(s:Int)(hYl:ny<Y.length)(hL:j+ny<L)(hn:L≤1000000000)(hg:g<BB)
  (hP:g*aF Y≤V/BB^j+BB^(ny+1)) (Q:D4R→Prop) (hq:Q ((ny,s,L,(ny:Nat),O.length,(j:Nat),(g:Nat),((borrow (V/BB^j) (g*aF Y) ny:Nat):Int),((cD g (aF Y) ny:Nat):Int),()),(Y,fq V (Ip j ny g (aF Y) V) L (j+ny),O,()))): ∀(k i:Nat),i+k=ny→
  dJ (λx:D4X=>EM x.1.1 x.1.2.1 x.1.2.2.1 x.1.2.2.2.1 x.1.2.2.2.2.1 x.1.2.2.2.2.2.1 x.1.2.2.2.2.2.2.1 x.1.2.2.2.2.2.2.2.1 x.1.2.2.2.2.2.2.2.2.1 x.1.2.2.2.2.2.2.2.2.2.1 x.1.2.2.2.2.2.2.2.2.2.2.1 x.2.1 x.2.2.1 x.2.2.2.1) Q (k+1) ((ny,s,L,(ny:Nat),O.length,(j:Nat),(g:Nat),((borrow (V/BB^j) (g*aF Y) i:Nat):Int),((cD g (aF Y) i:Nat):Int),(ny:Nat),(i:Nat),()),(Y,fq V (Ip j ny g (aF Y) V) L (j+i),O,()))
 | 0,i,h=>by
   obtain rfl:i=ny:=by omega
   exact VI Y O hY hO i L O.length s (j:Nat) (g:Nat) _ _ V _ _ hq
 | k+1,i,h=>aaN Y O hY hO ny j V g L s hYl hL hn hg hP i (by omega) (ael Y O hY hO ny j V g L s hYl hL hn hg hP Q hq k (i+1) (by omega))
theorem YG(j Y Z i:Nat):MQ j Y Z/BB^(j+i)%BB=(Z/BB^j+Y)/BB^i%BB:=by unfold MQ;rw[J3]
theorem aaO(Y O:List Nat)(hY:okD Y=true)(hO:okD O=true)(ny j V L:Nat)(s g:Int)(hYl:ny<Y.length)(hL:j+ny<L)(hn:L≤1000000000)(i:Nat)(hi:i<ny){R:D6X ⊕ D6R→Prop}
  (hin:R (.inl ((ny,s,L,(ny:Nat),O.length,(j:Nat),g,((carry (V/BB^j) (aF Y) (i+1):Nat):Int),(ny:Nat),((i+1:Nat):Int),()),(Y,fq V (MQ j (aF Y) V) L (j+(i+1)),O,())))):
  (EN ny s L (ny:Nat) O.length (j:Nat) g ((carry (V/BB^j) (aF Y) i:Nat):Int) (ny:Nat) (i:Nat) Y (fq V (MQ j (aF Y) V) L (j+i)) O).sat R:=by
 have hy:=vg hY i (by omega);have hx:=lJ V (MQ j (aF Y) V) L (j+i) (j+i) (by omega);rw[if_neg (Nat.lt_irrefl _),jI]at hx;have hms:=pR V (MQ j (aF Y) V) L (j+i) (by omega);have hz:=YG j (aF Y) V i;rw[EG]at hz;rw[hz]at hms;have hcs:=carry_succ (V/BB^j) (aF Y) i;have hcl:=JR (V/BB^j) (aF Y) i;have hyl:aF Y/BB^i%BB<BB:=Nat.mod_lt _ (by decide);have hxl:V/BB^j/BB^i%BB<BB:=Nat.mod_lt _ (by decide);generalize carry (V/BB^j) (aF Y) i=c at*;generalize carry (V/BB^j) (aF Y) (i+1)=c' at*;generalize V/BB^j/BB^i%BB=x at*;generalize aF Y/BB^i%BB=y at*;unfold BB at hyl hxl;have w0:IntKind.i64.wrap ((i:Int)+(j:Int))=((j+i:Nat):Int):=jR;have w1:IntKind.i64.wrap ((i:Int)+1)=((i+1:Nat):Int):=jR;have u1:IntKind.u64.wrap ((y:Nat):Int)=((y:Nat):Int):=qj _ (by omega);have u2:IntKind.u64.wrap ((x:Nat):Int)=((x:Nat):Int):=qj _ (by omega);have u3:IntKind.u64.wrap (((x:Nat):Int)+((y:Nat):Int))=((x+y:Nat):Int):=by rw[←Int.natCast_add];exact qj _ (by omega)
 have u4:IntKind.u64.wrap (((c:Nat):Int)+((x+y:Nat):Int))=((c+x+y:Nat):Int):=by rw[←Int.natCast_add, ←Nat.add_assoc];exact qj _ (by omega)
 have u5:IntKind.u32.wrap ((c+x+y:Nat):Int)=(((c+x+y)%BB:Nat):Int):=JZ _;have f9:=aW (fq V (MQ j (aF Y) V) L (j+i+1));rw[eD]at f9;have f1:=gK (fq V (MQ j (aF Y) V) L (j+i)) (j+i) ((c+x+y)%BB) (by rw[eD];omega);rw[hms]at f1;have c9:((i:Nat):Int)<((ny:Nat):Int):=by omega
 simp only[EN,w0,w1,Int.toNat_natCast,hy,hx,u1,u2,u3,u4,u5,ao7, ←hcs,aW,aQ hY _,aQ hO _,eD,f1,f9,aQ (lK _ _ _ _) _];refine au (λ_=> ?_) (λh=>absurd c9 (of_decide_eq_false h))
 repeat first
  | refine ah rfl ?_
  | refine ah (bQ) ?_
 exact av hin
theorem VJ(Y O:List Nat)(hY:okD Y=true)(hO:okD O=true)(ny L no:Nat)(s:Int)(j g c:Int)(V Z k:Nat){R:D6X ⊕ D6R→Prop}
  (hq:R (.inr ((ny,s,L,(ny:Nat),no,j,g,c,()),(Y,fq V Z L k,O,())))):(EN ny s L (ny:Nat) no j g c (ny:Nat) (ny:Nat) Y (fq V Z L k) O).sat R:=by
 have e:=aW (fq V Z L k);simp only[EN,e,aW,aQ hY _,aQ hO _,aQ (lK _ _ _ _) _];exact au (λh=>absurd (j4 h) (Int.lt_irrefl _)) (λ_=>ah rfl (ah rfl (ah rfl (av hq))))
theorem aem(Y O:List Nat)(hY:okD Y=true)(hO:okD O=true)(ny j V L:Nat)(s g:Int)(hYl:ny<Y.length)(hL:j+ny<L)(hn:L≤1000000000)(Q:D6R→Prop)(hq:Q ((ny,s,L,(ny:Nat),O.length,(j:Nat),g,((carry (V/BB^j) (aF Y) ny:Nat):Int),()),(Y,fq V (MQ j (aF Y) V) L (j+ny),O,()))): ∀(k i:Nat),i+k=ny→
  dJ (λx:D6X=>EN x.1.1 x.1.2.1 x.1.2.2.1 x.1.2.2.2.1 x.1.2.2.2.2.1 x.1.2.2.2.2.2.1 x.1.2.2.2.2.2.2.1 x.1.2.2.2.2.2.2.2.1 x.1.2.2.2.2.2.2.2.2.1 x.1.2.2.2.2.2.2.2.2.2.1 x.2.1 x.2.2.1 x.2.2.2.1) Q (k+1) ((ny,s,L,(ny:Nat),O.length,(j:Nat),g,((carry (V/BB^j) (aF Y) i:Nat):Int),(ny:Nat),(i:Nat),()),(Y,fq V (MQ j (aF Y) V) L (j+i),O,()))
 | 0,i,h=>by
   obtain rfl:i=ny:=by omega
   exact VJ Y O hY hO i L O.length s (j:Nat) g _ V _ _ hq
 | k+1,i,h=>aaO Y O hY hO ny j V L s g hYl hL hn i (by omega) (aem Y O hY hO ny j V L s g hYl hL hn Q hq k (i+1) (by omega))
end Go.bI
namespace Go.bI
theorem Rz(V Z L k:Nat)(hV:V<BB^k):fq V Z L k=bB (Z%BB^k) L:=by
 have:=tV (l:=fq V Z L k) (v:=Z%BB^k) λi hi=>by
  rw[eD]at hi;rw[lJ _ _ _ _ _ hi]
  change _=Z%BB^k/BB^i%BB
  split
  ·rename_i h;rw[YF Z k i h]
  ·rename_i h
   have hp:BB^k≤BB^i:=Nat.pow_le_pow_right (by decide) (by omega);have h2:Z%BB^k<BB^k:=Nat.mod_lt _ (BX k);rw[Nat.div_eq_of_lt (Nat.lt_of_lt_of_le hV hp),Nat.div_eq_of_lt (Nat.lt_of_lt_of_le h2 hp)]
 rw[eD]at this;exact this
theorem aaP(T n j e:Nat)(hj:j<n)(h0:T/BB^j%BB=0)(he:e<BB):(bB T n).set j e=bB (T+BB^j*e) n:=by
 have hl:((bB T n).set j e).length=n:=by simp[bV]
 have:=tV (l:=(bB T n).set j e) (v:=T+BB^j*e) λk hk=> ?_
 ·rw[hl]at this;exact this
 ·rw[hl]at hk
  change _=(T+BB^j*e)/BB^k%BB
  have g:((bB T n).set j e).getD k 0=if k=j then e else(bB T n).getD k 0:=by
   simp only[dR,List.getElem?_set,bV];by_cases b:k=j
   ·subst b;simp[hk]
   ·rw[if_neg (Ne.symm b),if_neg b]
  rw[g];have hT:=Nat.div_add_mod T (BB^j);by_cases b:k=j
  ·subst b
   rw[if_pos rfl,Nat.add_mul_div_left _ _ (BX k),Nat.add_mod,h0,Nat.zero_add,Nat.mod_mod,Nat.mod_eq_of_lt he]
  ·rw[if_neg b,sI _ _ _ hk]
   by_cases c:k<j
   ·rw[Dv T e c]
   ·obtain⟨m,rfl⟩: ∃m,k=j+(m+1):=⟨k-j-1,by omega⟩
    rw[jI (T+_),jI T,Nat.add_mul_div_left _ _ (BX j)];have e2: ∀U,U/BB^(m+1)=U/BB/BB^m:=λU=>by rw[Nat.add_comm,Nat.pow_add,Nat.pow_one, ←Nat.div_div_eq_div_mul]
    rw[e2,e2];have e3:(T/BB^j+e)/BB=T/BB^j/BB:=by
     have:=Nat.div_add_mod (T/BB^j) BB;rw[h0]at this
     conv=>lhs;rw[←this,Nat.add_zero,Nat.add_comm,Nat.add_mul_div_left _ _ (by decide),Nat.div_eq_of_lt he,Nat.zero_add]
    rw[e3]
theorem as3(T E j n:Nat)(hT:T<BB^j)(hE:E<BB^(n+1)):(T+BB^j*(BB^(n+1)+E))%BB^(j+n+1)=T+BB^j*E:=by
 have e:T+BB^j*(BB^(n+1)+E)=T+BB^j*E+BB^(j+n+1)*1:=by
  rw[Nat.mul_add, ←Nat.pow_add,show j+(n+1)=j+n+1 by omega];omega
 rw[e,Nat.add_mul_mod_self_left,Nat.mod_eq_of_lt];have h2:BB^j*(E+1)≤BB^j*BB^(n+1):=Nat.mul_le_mul_left _ hE;rw[Nat.mul_add,Nat.mul_one, ←Nat.pow_add,show j+(n+1)=j+n+1 by omega]at h2;omega
theorem Gr(Y:Nat){P:Nat}(hP:0<P):Y<(Y/P+1)*P:=by
 have h2:=Nat.div_add_mod Y P;have h3:=Nat.mod_lt Y hP;rw[Nat.add_mul,Nat.one_mul,Nat.mul_comm (Y/P)];omega
theorem avE{Y n:Nat}(h:Y<BB^n):Y/BB^n=0:=Nat.div_eq_of_lt h
structure Rnd (A Y n j:Nat):Prop where
 hn:2≤n
 hY:Y<BB^n
 hY1:BB≤2*(Y/BB^(n-1))
namespace Rnd
variable{A Y n j:Nat}
theorem yp(h:Rnd A Y n j):0<Y:=by
 have h1:=h.hY1;rcases Nat.eq_zero_or_pos Y with h0|h0
 ·rw[h0,Nat.zero_div]at h1;exact absurd h1 (by decide)
 ·exact h0
theorem vlt(h:Rnd A Y n j):A%(Y*BB^(j+1))<Y*BB^(j+1):=Nat.mod_lt _ (Nat.mul_pos h.yp (BX _))
theorem wlt(h:Rnd A Y n j):A%(Y*BB^(j+1))/BB^j<Y*BB:=by
 rw[Nat.div_lt_iff_lt_mul (BX j)];refine Nat.lt_of_lt_of_le h.vlt (Nat.le_of_eq ?_);rw[Nat.pow_succ,Nat.mul_comm (BB^j), ←Nat.mul_assoc]
theorem as4(h:Rnd A Y n j):A%(Y*BB^(j+1))<BB^(j+n+1):=by
 refine Nat.lt_of_lt_of_le h.vlt ?_;have:Y*BB^(j+1)≤BB^n*BB^(j+1):=Nat.mul_le_mul_right _ (Nat.le_of_lt h.hY);rw[←Nat.pow_add,show n+(j+1)=j+n+1 by omega]at this;exact this
theorem avF(h:Rnd A Y n j):A%(Y*BB^(j+1))/BB^j<BB^(n+1):=by
 rw[Nat.div_lt_iff_lt_mul (BX j), ←Nat.pow_add,show n+1+j=j+n+1 by omega];exact h.as4
theorem avG(h:Rnd A Y n j):A%(Y*BB^(j+1))/BB^j/Y=A/Y/BB^j%BB:=by
 have e:Y*BB^(j+1)=Y*BB^j*BB:=by rw[Nat.pow_succ,Nat.mul_assoc]
 rw[Nat.div_div_eq_div_mul,Nat.mul_comm (BB^j),e,Nat.mod_mul_right_div_self,Nat.div_div_eq_div_mul]
theorem apc(h:Rnd A Y n j):A%(Y*BB^(j+1))%BB^j+BB^j*(A%(Y*BB^(j+1))/BB^j-A%(Y*BB^(j+1))/BB^j/Y*Y)=A%(Y*BB^j):=by
 have e:Y*BB^(j+1)=Y*BB^j*BB:=by rw[Nat.pow_succ,Nat.mul_assoc]
 have e2:A%(Y*BB^j)=A%(Y*BB^(j+1))%(Y*BB^j):=by rw[e,Nat.mod_mul_right_mod]
 rw[e2];generalize A%(Y*BB^(j+1))=V;have h1:=Nat.div_add_mod V (BB^j);have h2:=Nat.div_add_mod (V/BB^j) Y;have h3:=Nat.mod_lt V (BX j);have h4:=Nat.mod_lt (V/BB^j) h.yp;have e3:V/BB^j-V/BB^j/Y*Y=V/BB^j%Y:=by rw[Nat.mul_comm];omega
 rw[e3];have e4:V=V%BB^j+BB^j*(V/BB^j%Y)+Y*BB^j*(V/BB^j/Y):=by
  have:Y*BB^j*(V/BB^j/Y)=BB^j*(Y*(V/BB^j/Y)):=by simp only[Nat.mul_assoc,Nat.mul_comm,Nat.mul_left_comm]
  rw[this];have h5:BB^j*(V/BB^j)=BB^j*(Y*(V/BB^j/Y))+BB^j*(V/BB^j%Y):=by
   conv=>lhs;rw[←h2]
   rw[Nat.mul_add]
  omega
 conv=>rhs;rw[e4]
 rw[Nat.add_mul_mod_self_left];refine(Nat.mod_eq_of_lt ?_).symm;have h6:BB^j*(V/BB^j%Y+1)≤BB^j*Y:=Nat.mul_le_mul_left _ h4;rw[Nat.mul_add,Nat.mul_one,Nat.mul_comm _ Y]at h6;omega
theorem avH(h:Rnd A Y n j):Y/BB^(n-1)<BB:=by
 have hn:=h.hn;rw[Nat.div_lt_iff_lt_mul (BX _),Nat.mul_comm, ←Nat.pow_succ,show(n-1).succ=n by omega];exact h.hY
theorem y2(h:Rnd A Y n j):Y/BB^(n-2)=Y/BB^(n-1)*BB+Y/BB^(n-2)%BB:=by
 have hn:=h.hn;have e:Y/BB^(n-1)=Y/BB^(n-2)/BB:=by
  rw[Nat.div_div_eq_div_mul, ←Nat.pow_succ,show(n-2).succ=n-1 by omega]
 rw[e];have:=Nat.div_add_mod (Y/BB^(n-2)) BB;rw[Nat.mul_comm]at this;exact this.symm
theorem w3(h:Rnd A Y n j)(W:Nat):W/BB^(n-2)=W/BB^(n-1)*BB+W/BB^(n-2)%BB:=by
 have hn:=h.hn;have e:W/BB^(n-1)=W/BB^(n-2)/BB:=by
  rw[Nat.div_div_eq_div_mul, ←Nat.pow_succ,show(n-2).succ=n-1 by omega]
 rw[e];have:=Nat.div_add_mod (W/BB^(n-2)) BB;rw[Nat.mul_comm]at this;exact this.symm
theorem high(h:Rnd A Y n j)(W:Nat)(hW:W<BB^(n+1)):W/BB^n%BB*BB+W/BB^(n-1)%BB=W/BB^(n-1):=by
 have hn:=h.hn;have e:W/BB^n=W/BB^(n-1)/BB:=by
  rw[Nat.div_div_eq_div_mul, ←Nat.pow_succ,show(n-1).succ=n by omega]
 have hlt:W/BB^n<BB:=by
  rw[Nat.div_lt_iff_lt_mul (BX _),Nat.mul_comm, ←Nat.pow_succ];exact hW
 rw[Nat.mod_eq_of_lt hlt,e];have:=Nat.div_add_mod (W/BB^(n-1)) BB;rw[Nat.mul_comm]at this;exact this
theorem hlt(h:Rnd A Y n j)(W:Nat)(hW:W<Y*BB):W/BB^(n-1)<Y/BB^(n-1)*BB+BB:=by
 rw[Nat.div_lt_iff_lt_mul (BX _)];have h1:Y<(Y/BB^(n-1)+1)*BB^(n-1):=by
  have h2:=Nat.div_add_mod Y (BB^(n-1));have h3:=Nat.mod_lt Y (BX (n-1));rw[Nat.add_mul,Nat.one_mul,Nat.mul_comm];omega
 have h2:Y*BB≤(Y/BB^(n-1)+1)*BB^(n-1)*BB:=Nat.mul_le_mul_right _ (Nat.le_of_lt h1);have e:(Y/BB^(n-1)+1)*BB^(n-1)*BB=(Y/BB^(n-1)*BB+BB)*BB^(n-1):=by
  rw[Nat.mul_right_comm,Nat.add_mul (Y/BB^(n-1)) 1 BB,Nat.one_mul]
 omega
theorem guess(h:Rnd A Y n j)(W:Nat)(hW:W<Y*BB):W/Y≤xJ (Y/BB^(n-1)) (Y/BB^(n-2)%BB) (W/BB^(n-2)%BB) (W/BB^(n-1))∧xJ (Y/BB^(n-1)) (Y/BB^(n-2)%BB) (W/BB^(n-2)%BB) (W/BB^(n-1))≤W/Y+1∧xJ (Y/BB^(n-1)) (Y/BB^(n-2)%BB) (W/BB^(n-2)%BB) (W/BB^(n-1))<BB:=by
 have hn:=h.hn;have hg:xJ (Y/BB^(n-1)) (Y/BB^(n-2)%BB) (W/BB^(n-2)%BB) (W/BB^(n-1))=min (BB-1) (W/BB^(n-2)/(Y/BB^(n-2))):=by
  unfold xJ;rw[←h.w3 W, ←h.y2]
 have h1:=Nat.div_add_mod Y (BB^(n-2));have h3:=Nat.mod_lt Y (BX (n-2));have hb:BB≤Y/BB^(n-2):=by
  rw[h.y2];have h4:=h.hY1;have h5:1≤Y/BB^(n-1):=by
   rcases Nat.eq_zero_or_pos (Y/BB^(n-1))with h0|h0
   ·rw[h0]at h4;exact absurd h4 (by decide)
   ·exact h0
  have h6:1*BB≤Y/BB^(n-1)*BB:=Nat.mul_le_mul_right _ h5;rw[Nat.one_mul]at h6;exact Nat.le_trans h6 (Nat.le_add_right _ _)
 have:=aeh (b:=BB) (Y2:=Y/BB^(n-2)) (P:=BB^(n-2)) (W:=W) (Y:=Y) (BX _) (Gr Y (BX _)) (Nat.div_mul_le_self _ _) hb hW hg;refine⟨this.1,this.2.1,?_⟩;rw[hg];have:=Nat.min_le_left (BB-1) (W/BB^(n-2)/(Y/BB^(n-2)));have h7:BB-1<BB:=by decide
 omega
theorem first(h:Rnd A Y n j)(W:Nat):xJ (Y/BB^(n-1)) (Y/BB^(n-2)%BB) (W/BB^(n-2)%BB) (W/BB^(n-1))≤W/BB^(n-1)/(Y/BB^(n-1)):=by
 unfold xJ;refine Nat.le_trans (Nat.min_le_right _ _) ?_;have h1:0<Y/BB^(n-1):=by
  have h4:=h.hY1;rcases Nat.eq_zero_or_pos (Y/BB^(n-1))with h0|h0
  ·rw[h0]at h4;exact absurd h4 (by decide)
  ·exact h0
 generalize W/BB^(n-1)=H;generalize Y/BB^(n-1)=y at*;have hw:W/BB^(n-2)%BB<BB:=Nat.mod_lt _ (by decide);generalize W/BB^(n-2)%BB=w at*
 calc (H*BB+w)/(y*BB+Y/BB^(n-2)%BB)≤(H*BB+w)/(y*BB):=Nat.div_le_div_left (Nat.le_add_right _ _) (Nat.mul_pos h1 (by decide))
  _=(H*BB+w)/BB/y:=by rw[Nat.mul_comm y,Nat.div_div_eq_div_mul]
  _=H/y:=by rw[Nat.mul_comm H,Nat.add_comm,Nat.add_mul_div_left _ _ (by decide),Nat.div_eq_of_lt hw,Nat.zero_add]
end Rnd
end Go.bI
namespace Go.bI
open Go.Proofs
theorem Dw{ny:Nat}{s:Int}{nx:Nat}{n:Int}{no:Nat}{j:Int}{Y X O:List Nat}(h:LC ny s nx n no j Y X O=true):
  (ny:Int)=n∧Y.length=ny+1∧nx=X.length∧no=O.length∧nx=ny+no∧2≤ny∧nx≤1000000000∧okD Y=true∧okD X=true∧okD O=true∧aF Y<BB^ny∧0≤j∧j<no∧BB≤2*Y.getD (ny-1) 0:=by
 simpa only[LC,cu,fT]using h
theorem as5:pG Tryz.prog 0 2 (.loop (bn 2 (codeOf Tryz.f257))) (OY.g 0):=by
 refine aZ.sU (N:=1010) aj eP (L:=bX) (ak 0 _) aav aaI ?_;rintro⟨⟨ny,s,nx,n,no,j,g,r,⟨⟩⟩,⟨Y,X,O,⟨⟩⟩⟩ hx;have hx:MP ((ny,s,nx,n,no,j,g,r,()),(Y,X,O,()))=true:=hx;simp only[MP,cu,fT]at hx;obtain⟨hp,h1,h2,h3,h4,h5⟩:=hx;obtain⟨rfl,a2,rfl,rfl,a5,a6,a7,a8,a9,a10,a11,a12,a13,a14⟩:=Dw hp;obtain⟨j,rfl⟩: ∃k:Nat,j=k:=⟨j.toNat,by omega⟩
 obtain⟨g,rfl⟩: ∃k:Nat,g=k:=⟨g.toNat,by omega⟩
 obtain⟨r,rfl⟩: ∃k:Nat,r=k:=⟨r.toNat,by omega⟩
 simp only[Vz,Int.toNat_natCast]at h4 h5;have:=aek Y X O a8 a9 a10 ny O.length j _ s a6 a2 a5 (by omega) a7 a14 h4 (· =OY.res ((ny,s,X.length,(ny:Nat),O.length,(j:Nat),(g:Nat),(r:Nat),()),(Y,X,O,()))) (by
  simp only[OY,yA,anQ,Vz,Int.toNat_natCast]) 2 g r rfl (by unfold BB;omega) h5 (by omega)
 exact⟨_,this⟩
theorem as6:pG Tryz.prog 0 4 (.loop (bn 4 (codeOf Tryz.f257))) (OZ.g 0):=by
 refine aZ.sU (N:=1010) aj eP (L:=bX) (ak 0 _) aaw aaL ?_;rintro⟨⟨ny,s,nx,n,no,j,g,b,c,N,i,⟨⟩⟩,⟨Y,X,O,⟨⟩⟩⟩ hx;have hx:MR ((ny,s,nx,n,no,j,g,b,c,N,i,()),(Y,X,O,()))=true:=hx;simp only[MR,cu,fT]at hx;obtain⟨hp,h1,h2,rfl,rfl,rfl,rfl,h7⟩:=hx;obtain⟨rfl,a2,rfl,rfl,a5,a6,a7,a8,a9,a10,a11,a12,a13,a14⟩:=Dw hp;obtain⟨j,rfl⟩: ∃k:Nat,j=k:=⟨j.toNat,by omega⟩
 obtain⟨g,rfl⟩: ∃k:Nat,g=k:=⟨g.toNat,by omega⟩
 have hg:g<BB:=by unfold BB;omega
 have hP:g*aF Y≤aF X/BB^j+BB^(ny+1):=by
  have:g*aF Y≤BB*BB^ny:=Nat.mul_le_mul (Nat.le_of_lt hg) (Nat.le_of_lt a11);rw[Nat.mul_comm BB, ←Nat.pow_succ]at this;exact Nat.le_trans this (Nat.le_add_left _ _)
 have:=ael Y O a8 a10 ny j (aF X) g X.length s (by omega) (by omega) a7 hg hP (· =OZ.res ((ny,s,X.length,(ny:Nat),O.length,(j:Nat),(g:Nat),0,0,(ny:Nat),0,()),(Y,X,O,()))) (by
  simp only[OZ,yA,anR,Int.toNat_natCast,ajo g (aF Y) ny a11]) ny 0 (by omega)
 have e1:borrow (aF X/BB^j) (g*aF Y) 0=0:=by simp[borrow,Nat.mod_one]
 have e2:cD g (aF Y) 0=0:=by simp[cD,Nat.mod_one]
 have e3:fq (aF X) (Ip j ny g (aF Y) (aF X)) X.length (j+0)=X:=by
  rw[Nat.add_zero,Ip,J4,jA X a9]
 rw[e1,e2,e3]at this;exact⟨_,this⟩
theorem as7:pG Tryz.prog 0 6 (.loop (bn 6 (codeOf Tryz.f257))) (O0.g 0):=by
 refine aZ.sU (N:=1010) aj eP (L:=bX) (ak 0 _) aax aaM ?_;rintro⟨⟨ny,s,nx,n,no,j,g,c,N,i,⟨⟩⟩,⟨Y,X,O,⟨⟩⟩⟩ hx;have hx:MS ((ny,s,nx,n,no,j,g,c,N,i,()),(Y,X,O,()))=true:=hx;simp only[MS,cu,fT]at hx;obtain⟨hp,rfl,rfl,rfl⟩:=hx;obtain⟨rfl,a2,rfl,rfl,a5,a6,a7,a8,a9,a10,a11,a12,a13,a14⟩:=Dw hp;obtain⟨j,rfl⟩: ∃k:Nat,j=k:=⟨j.toNat,by omega⟩
 have:=aem Y O a8 a10 ny j (aF X) X.length s g (by omega) (by omega) a7 (· =O0.res ((ny,s,X.length,(ny:Nat),O.length,(j:Nat),g,0,(ny:Nat),0,()),(Y,X,O,()))) (by
  simp only[O0,yA,anS,Int.toNat_natCast]) ny 0 (by omega)
 have e1:carry (aF X/BB^j) (aF Y) 0=0:=by simp[carry,Nat.mod_one]
 have e3:fq (aF X) (MQ j (aF Y) (aF X)) X.length (j+0)=X:=by
  rw[Nat.add_zero,MQ,J4,jA X a9]
 rw[e1,e3]at this;exact⟨_,this⟩
theorem apd:bF Tryz.prog 0 LDi (bn 0 (codeOf Tryz.f257)):=by
 refine bG (d:=λid=>Nat.beq id 2 || (Nat.beq id 4 || Nat.beq id 6)) (λid=>by unfold LDi;cases Nat.beq id 2<;>cases Nat.beq id 4<;>cases Nat.beq id 6<;>rfl) _ ?_;have hb:bU (λid=>Nat.beq id 2 || (Nat.beq id 4 || Nat.beq id 6)) (bn 0 (codeOf Tryz.f257))=[(2,.loop (bn 2 (codeOf Tryz.f257))),(4,.loop (bn 4 (codeOf Tryz.f257))),(6,.loop (bn 6 (codeOf Tryz.f257)))]:=by kernel_rfl
 rw[hb];intro p hp g hg;simp only[List.mem_cons,List.not_mem_nil,or_false]at hp;rcases hp with rfl|rfl|rfl
 ·obtain rfl:g=OY.g 0:=(Option.some.inj hg).symm
  exact as5
 ·obtain rfl:g=OZ.g 0:=(Option.some.inj hg).symm
  exact as6
 ·obtain rfl:g=O0.g 0:=(Option.some.inj hg).symm
  exact as7
end Go.bI
namespace Go.bI
open Go.Proofs
def BZ(ny:Nat)(s:Int)(nx:Nat)(n:Int)(no:Nat)(j:Int)(Y:List Nat)(X:List Nat)(O:List Nat):Tr (D0X ⊕ D0R):=
 let x1:Int:=IntKind.i64.wrap (j+n)
 let x2:Int:= ↑nx
 let x3:Bool:=decide (0≤x1∧x1<x2)
 let x4:Nat:=x1.toNat
 let x5:Int:=IntKind.i64.wrap (x1-1)
 let x6:Nat:=x5.toNat
 let x7:Int:=IntKind.i64.wrap (n-1)
 let x8:Int:= ↑ny
 let x9:Bool:=decide (0≤x7∧x7<x8)
 let x10:Nat:=x7.toNat
 let fI:Bool:=decide (x10<Y.length)
 let fU:Int:=IntKind.u64.wrap ↑(Y.getD x10 0)
 let iM:Bool:=decide (fU≠0)
 let iR:Bool:=aJ X.length (aD X)
 let jH:Bool:=aJ O.length (aD O)
 let kE:Int:=IntKind.u64.wrap
  ↑(BitVec.ofInt IntKind.u64.bits (IntKind.u64.wrap (IntKind.u64.wrap ↑(X.getD x4 0)*2^min (Int.toNat 32) IntKind.u64.bits)) |||
   BitVec.ofInt IntKind.u64.bits (IntKind.u64.wrap ↑(X.getD x6 0))).toNat
 let jD:Int:=IntKind.u64.wrap (kE.tdiv fU)
 let x18:Int:=kE.tmod fU
 let lW:List Nat:=aL Y.length (aD Y)
 let x20:List Nat:=aL X.length (aD X)
 let x21:List Nat:=aL O.length (aD O)
 let lZ:Nat:=lW.length
 let x23:Nat:=x20.length
 let x24:Nat:=x21.length
 let x25:Int:= ↑(Vz n j jD x18 lW x20)
 let rY:List Nat:=aL lZ (aD lW)
 let x27:List Nat:=aL x23 (aD x20)
 let x28:List Nat:=aL x24 (aD x21)
 let x29:Nat:=aF x27
 let x30:Nat:=x25.toNat
 let x31:Nat:=aF rY
 let x32:Nat:=j.toNat+ny
 let pV:List Nat:=fq x29 (Ip j.toNat ny x30 x31 x29) nx x32
 let x34:Nat:=pV.length
 let yF:Bool:=decide (x4<x34)
 let vk:Nat:=BB^j.toNat
 let r9:Nat:=x30*x31
 let x38:Int:=IntKind.i64.wrap (IntKind.i64.wrap (IntKind.i64.wrap ↑(pV.getD x4 0) - ↑(borrow (x29/vk) r9 ny))-IntKind.i64.wrap ↑(r9/BB^ny))
 let x39:Nat:=rY.length
 let x40:Bool:=aJ x39 (aD rY)
 let x41:Bool:=aJ x34 (aP (aD pV) x4 0 [IV.v (.int IntKind.u32 (IntKind.u32.wrap x38))].reverse)
 let GU:Nat:=x28.length
 let x43:Int:=IntKind.u64.wrap (x25-1)
 let Gs:List Nat:=aL x39 (aD rY)
 let GV:List Nat:=aL x34 (aP (aD pV) x4 0 [IV.v (.int IntKind.u32 (IntKind.u32.wrap x38))].reverse)
 let Iq:List Nat:=aL GU (aD x28)
 let Ea:Nat:=aF GV
 let La:Nat:=aF Gs
 let J5:List Nat:=fq Ea (MQ j.toNat La Ea) nx x32
 let Ca:Nat:=J5.length
 let Bl:Bool:=decide (x4<Ca)
 let EO:Int:= ↑no
 let x53:Bool:=decide (0≤j∧j<EO)
 let x54:Nat:=Iq.length
 let x55:Nat:=Gs.length
 Tr.ite (decide (j≥0))
  (Tr.need x3
   (Tr.need (decide (x4<X.length))
    (Tr.need true
     (Tr.need (decide (0≤x5∧x5<x2))
      (Tr.need (decide (x6<X.length))
       (Tr.need x9
        (Tr.need fI
         (Tr.need iM
          (Tr.need x9
           (Tr.need fI
            (Tr.need iM
             (Tr.need (aJ Y.length (aD Y))
              (Tr.need iR
               (Tr.need jH
                (Tr.need (MP ((ny,s,nx,n,no,j,jD,x18,()),lW,x20,x21,()))
                 (Tr.need (aJ lZ (aD lW))
                  (Tr.need (aJ x23 (aD x20))
                   (Tr.need (aJ x24 (aD x21))
                    (Tr.need (MR ((ny,s,nx,n,no,j,x25,0,0,n,0,()),rY,x27,x28,()))
                     (Tr.need x3
                      (Tr.need yF
                       (Tr.need x3
                        (Tr.need yF
                         (Tr.ite (decide (x38<0))
                          (Tr.need x40
                           (Tr.need x41
                            (Tr.need (aJ GU (aD x28))
                             (Tr.need (MS ((ny,s,nx,n,no,j,x43,0,n,0,()),Gs,GV,Iq,()))
                              (Tr.need x3
                               (Tr.need Bl
                                (Tr.need x3
                                 (Tr.need Bl
                                  (Tr.need x53
                                   (Tr.need (decide (j.toNat<x54))
                                    (Tr.need (aJ x55 (aD Gs))
                                     (Tr.need
                                      (aJ Ca
                                       (aP (aD J5) x4 0
                                        [IV.v
                                         (Value.int IntKind.u32
                                          (IntKind.u32.wrap
                                           (↑(J5.getD x4 0)+
                                            IntKind.u32.wrap ↑(carry (Ea/vk) La ny))))].reverse))
                                      (Tr.need
                                       (aJ x54
                                        (aP (aD Iq) j.toNat 0
                                         [IV.v (.int IntKind.u32 (IntKind.u32.wrap x43))].reverse))
                                       (Tr.ret
                                        (Sum.inl
                                         ((ny,s,nx,n,no,IntKind.i64.wrap (j-1),()),aL x55 (aD Gs),
                                           aL Ca
                                            (aP (aD J5) x4 0
                                             [IV.v
                                              (Value.int IntKind.u32
                                               (IntKind.u32.wrap
                                                (↑(J5.getD x4 0)+
                                                 IntKind.u32.wrap ↑(carry (Ea/vk) La ny))))].reverse),
                                           aL x54
                                            (aP (aD Iq) j.toNat 0
                                             [IV.v (.int IntKind.u32 (IntKind.u32.wrap x43))].reverse),
                                           ()))))))))))))))))
                          (Tr.need x53
                           (Tr.need (decide (j.toNat<GU))
                            (Tr.need x40
                             (Tr.need x41
                              (Tr.need
                               (aJ GU
                                (aP (aD x28) j.toNat 0 [IV.v (.int IntKind.u32 (IntKind.u32.wrap x25))].reverse))
                               (Tr.ret
                                (Sum.inl
                                 ((ny,s,nx,n,no,IntKind.i64.wrap (j-1),()),Gs,GV,
                                   aL GU
                                    (aP (aD x28) j.toNat 0
                                     [IV.v (.int IntKind.u32 (IntKind.u32.wrap x25))].reverse),
                                   ()))))))))))))))))))))))))))))))))
  (Tr.need iR (Tr.need jH (Tr.ret (Sum.inr ((s,nx,n,no,()),x20,x21,())))))
theorem aaQ(x:D0X):(exec Tryz.prog (λ_=>none) LDi 1010 (bn 0 (codeOf Tryz.f257)) (iQ O1.nIn (O1.head x))).bind (O1.fin 0 0)=BZ x.1.1 x.1.2.1 x.1.2.2.1 x.1.2.2.2.1 x.1.2.2.2.2.1 x.1.2.2.2.2.2.1 x.2.1 x.2.2.1 x.2.2.2.1:=by
 obtain⟨⟨ny,s,nx,n,no,j,⟨⟩⟩,⟨Y,X,O,⟨⟩⟩⟩:=x
 kernel_rfl
theorem jf(n:Nat):((n:Nat):Int).toNat=n:=by omega
theorem aen(W P n:Nat)(hW:W<BB^(n+1))(hP:P<BB^(n+1)):W/BB^n%BB<borrow W P n+P/BB^n%BB↔W<P:=by
 have h:=zn W P n;have h2:borrow W P (n+1)=if W<P then 1 else 0:=by unfold borrow;rw[Nat.mod_eq_of_lt hW,Nat.mod_eq_of_lt hP]
 rw[h2]at h;by_cases a:W<P
 ·rw[if_pos a]at h
  by_cases b:W/BB^n%BB<borrow W P n+P/BB^n%BB
  ·exact⟨λ_=>a,λ_=>b⟩
  ·rw[if_neg b]at h;exact absurd h (by decide)
 ·rw[if_neg a]at h
  by_cases b:W/BB^n%BB<borrow W P n+P/BB^n%BB
  ·rw[if_pos b]at h;exact absurd h (by decide)
  ·exact⟨λc=>absurd c b,λc=>absurd c a⟩
theorem ape(Q j m:Nat)(hj:j<m):(bB (Q/BB^(j+1)*BB^(j+1)) m).set j (Q/BB^j%BB)=bB (Q/BB^j*BB^j) m:=by
 have h0:Q/BB^(j+1)*BB^(j+1)/BB^j%BB=0:=by
  rw[Nat.pow_succ,Nat.mul_comm (BB^j) BB, ←Nat.mul_assoc,Nat.mul_div_cancel _ (BX j),Nat.mul_mod_left]
 rw[aaP _ m j _ hj h0 (Nat.mod_lt _ (by decide))]
 congr 1
 have e:Q/BB^(j+1)=Q/BB^j/BB:=by rw[Nat.pow_succ,Nat.div_div_eq_div_mul]
 rw[e,Nat.pow_succ];have h1:=Nat.div_add_mod (Q/BB^j) BB;have e2:Q/BB^j/BB*(BB^j*BB)=BB^j*(BB*(Q/BB^j/BB)):=by simp only[Nat.mul_assoc,Nat.mul_comm,Nat.mul_left_comm]
 rw[e2, ←Nat.mul_add,h1,Nat.mul_comm]
theorem YH{ny no:Nat}(s:Int)(j:Nat){Y X O:List Nat}(h1:Y.length=ny+1)(h2:X.length=ny+no)(h3:O.length=no)(h4:2≤ny)(h5:ny+no≤1000000000)(h6:okD Y=true)(h7:okD X=true)(h8:okD O=true)(h9:aF Y<BB^ny)(h10:j<no)(h11:BB≤2*Y.getD (ny-1) 0):
  LC ny s (ny+no) (ny:Nat) no (j:Nat) Y X O=true:=by
 simp only[LC,cu,fT];exact⟨trivial,h1,h2.symm,h3.symm,trivial,h4,h5,h6,h7,h8,h9,by omega,by omega,h11⟩
theorem aaR(Y:List Nat)(hY:okD Y=true)(A n m j:Nat)(s:Int)(hYl:Y.length=n+1)(hR:Rnd A (aF Y) n j)(hj:j<m)(hn:n+m≤1000000000){R:D0X ⊕ D0R→Prop}
  (hin:R (.inl ((n,s,n+m,(n:Nat),m,(j:Int)-1,()),(Y,bB (A%(aF Y*BB^j)) (n+m),bB (A/aF Y/BB^j*BB^j) m,())))):
  (BZ n s (n+m) (n:Nat) m (j:Nat) Y (bB (A%(aF Y*BB^(j+1))) (n+m)) (bB (A/aF Y/BB^(j+1)*BB^(j+1)) m)).sat R:=by
 have n2:=hR.hn;have yl:=hR.hY;have y1l:=hR.avH;have y1b:=hR.hY1;have gY1:Y.getD (n-1) 0=aF Y/BB^(n-1):=by rw[vg hY _ (by omega),Nat.mod_eq_of_lt y1l]
 have gY2:Y.getD (n-2) 0=aF Y/BB^(n-2)%BB:=vg hY _ (by omega);have hvn:=hR.apc;have hqe:=hR.avG;have hwl:=hR.wlt;have hwt:=hR.avF;have hvt:=hR.as4;have hqn:=ape (A/aF Y) j m hj;obtain⟨V,hV⟩: ∃V,V=A%(aF Y*BB^(j+1)):=⟨_,rfl⟩
 rw[←hV]at hvn hqe hwl hwt hvt⊢;obtain⟨W,hW⟩: ∃W,W=V/BB^j:=⟨_,rfl⟩
 have gX0:(bB V (n+m)).getD (j+n) 0=W/BB^n%BB:=by rw[sI _ _ _ (by omega),jI,hW]
 have gX1:(bB V (n+m)).getD (j+n-1) 0=W/BB^(n-1)%BB:=by rw[show j+n-1=j+(n-1)by omega,sI _ _ _ (by omega),jI,hW]
 have gX2:(bB V (n+m)).getD (j+n-2) 0=W/BB^(n-2)%BB:=by rw[show j+n-2=j+(n-2)by omega,sI _ _ _ (by omega),jI,hW]
 rw[←hW]at hvn hqe hwl hwt;have hhi:=hR.high W hwt;have hhl:=hR.hlt W hwl;obtain⟨g1,g2,g3⟩:=hR.guess W hwl;have aow:=hR.first W;have hvL:aF (bB V (n+m))=V:=fH _ _ (Nat.lt_of_lt_of_le hvt (Nat.pow_le_pow_right (by decide) (by omega)));generalize hy1:aF Y/BB^(n-1)=y1 at*;generalize hy0:aF Y/BB^(n-2)%BB=y0 at*;generalize hH:W/BB^(n-1)=H at*;generalize hw0:W/BB^(n-2)%BB=w at*;have al:W/BB^n%BB<BB:=Nat.mod_lt _ (by decide);have bl:H%BB<BB:=Nat.mod_lt _ (by decide);have y1p:0<y1:=by unfold BB at y1b;omega
 have av1:y1<4294967296:=y1l;have w0:IntKind.i64.wrap (((j:Nat):Int)+((n:Nat):Int))=((j+n:Nat):Int):=jR;have w1:IntKind.i64.wrap (((j+n:Nat):Int)-1)=((j+n-1:Nat):Int):=jR;have w2:IntKind.i64.wrap (((n:Nat):Int)-1)=((n-1:Nat):Int):=jR;have w3:IntKind.i64.wrap (((j:Nat):Int)-1)=((j:Nat):Int)-1:=wrap_i64 (by omega);have ho:=aji (W/BB^n%BB) (H%BB) al bl;rw[hhi]at ho;have avI:H<18446744073709551616:=by
  have:W/BB^n%BB*BB≤4294967295*BB:=Nat.mul_le_mul_right _ (Nat.le_of_lt_succ al);unfold BB at*;omega
 have u1:IntKind.u64.wrap ((W/BB^n%BB:Nat):Int)=((W/BB^n%BB:Nat):Int):=qj _ (Nat.lt_trans al (by decide));have u2:IntKind.u64.wrap ((H%BB:Nat):Int)=((H%BB:Nat):Int):=qj _ (Nat.lt_trans bl (by decide));have u3:IntKind.u64.wrap ((y1:Nat):Int)=((y1:Nat):Int):=qj _ (by omega);have d1:((H:Nat):Int).tdiv ((y1:Nat):Int)=((H/y1:Nat):Int):=(Int.ofNat_tdiv _ _).symm;have d2:((H:Nat):Int).tmod ((y1:Nat):Int)=((H%y1:Nat):Int):=(Int.ofNat_tmod _ _).symm;have d3:IntKind.u64.wrap ((H/y1:Nat):Int)=((H/y1:Nat):Int):=qj _ (Nat.lt_of_le_of_lt (Nat.div_le_self _ _) avI);have hdm:H/y1*y1+H%y1=H:=by rw[Nat.mul_comm];exact Nat.div_add_mod H y1
 have hrl:H%y1<y1:=Nat.mod_lt _ y1p;have hq:Vz (n:Nat) (j:Nat) ((H/y1:Nat):Int) ((H%y1:Nat):Int) Y (bB V (n+m))=xJ y1 y0 w H:=by
  simp only[Vz,Int.toNat_natCast,gY1,gY2,gX2,hdm]
 have pD:LC n s (n+m) (n:Nat) m (j:Nat) Y (bB V (n+m)) (bB (A/aF Y/BB^(j+1)*BB^(j+1)) m)=true:=
  YH s j hYl (bV _ _) (bV _ _) n2 hn hY (dH _ _) (dH _ _) yl hj (by rw[gY1];exact y1b)
 have p2:MP ((n,s,n+m,(n:Nat),m,(j:Nat),((H/y1:Nat):Int),((H%y1:Nat):Int),()),(Y,bB V (n+m),bB (A/aF Y/BB^(j+1)*BB^(j+1)) m,()))=true:=by
  simp only[MP,pD,hq,cu,fT,Int.toNat_natCast,gY1,hdm];exact⟨trivial,by omega,by omega,by omega,hhl,aow⟩
 generalize hT:bB (A/aF Y/BB^(j+1)*BB^(j+1)) m=O at*;have hOl:O.length=m:=by rw[←hT];exact bV _ _
 have hOk:okD O=true:=by rw[←hT];exact dH _ _
 have eO:aL m (aD O)=O:=by
  have:=aW O
  rwa [hOl]at this
 have eX:aL (n+m) (aD (bB V (n+m)))=bB V (n+m):=by
  have:=aW (bB V (n+m))
  rwa [bV]at this
 generalize xJ y1 y0 w H=g at*;have p4:MR ((n,s,n+m,(n:Nat),m,(j:Nat),((g:Nat):Int),0,0,(n:Nat),0,()),(Y,bB V (n+m),O,()))=true:=by
  simp only[MR,pD,hvL,cu,fT,Int.toNat_natCast];exact⟨trivial,by omega,by unfold BB at g3;omega,trivial,trivial,trivial,trivial,hvt⟩
 have hPl:g*aF Y<BB^(n+1):=by
  rw[Nat.pow_succ,Nat.mul_comm (BB^n)];exact Nat.mul_lt_mul'' g3 yl
 have hPd:g*aF Y/BB^n<BB:=by
  rw[Nat.div_lt_iff_lt_mul (BX n)];exact Nat.lt_of_lt_of_le hPl (Nat.le_of_eq (by rw[Nat.pow_succ,Nat.mul_comm]))
 have hsg:=aen W (g*aF Y) n hwt hPl;rw[Nat.mod_eq_of_lt hPd]at hsg;have gM:(fq V (Ip j n g (aF Y) V) (n+m) (j+n)).getD (j+n) 0=W/BB^n%BB:=by
  rw[lJ _ _ _ _ _ (by omega),if_neg (Nat.lt_irrefl _),jI,hW]
 have hzd:Ip j n g (aF Y) V/BB^(j+n)%BB=(W/BB^n%BB+BB-borrow W (g*aF Y) n-g*aF Y/BB^n)%BB:=by
  unfold Ip;rw[J3];unfold sbD;rw[←hW,aei W (g*aF Y) n n (Nat.le_trans (Nat.le_of_lt hPl) (Nat.le_add_left _ _)) (Nat.le_refl _),Nat.mod_eq_of_lt hPd]
 have hms:=pR V (Ip j n g (aF Y) V) (n+m) (j+n) (by omega);rw[hzd,Rz _ _ _ _ hvt]at hms;have hbl:=z8 W (g*aF Y) n;have f1:=gK (fq V (Ip j n g (aF Y) V) (n+m) (j+n)) (j+n) ((W/BB^n%BB+BB-borrow W (g*aF Y) n-g*aF Y/BB^n)%BB) (by rw[eD];omega);rw[hms]at f1;obtain⟨Z,hZ⟩: ∃Z,Z=Ip j n g (aF Y) V%BB^(j+n+1):=⟨_,rfl⟩
 rw[←hZ]at f1;have eZ:aL (n+m) (aD (bB Z (n+m)))=bB Z (n+m):=by
  have:=aW (bB Z (n+m))
  rwa [bV]at this
 generalize ha:W/BB^n%BB=a at*;generalize hbo:borrow W (g*aF Y) n=bo at*;generalize hc:g*aF Y/BB^n=c at*;have al':a<4294967296:=al;have cl':c<4294967296:=hPd;have v1:IntKind.i64.wrap ((a:Nat):Int)=((a:Nat):Int):=wrap_i64 (by omega);have v2:IntKind.i64.wrap ((c:Nat):Int)=((c:Nat):Int):=wrap_i64 (by omega);have v3:IntKind.i64.wrap (((a:Nat):Int)-((bo:Nat):Int))=((a:Nat):Int)-((bo:Nat):Int):=wrap_i64 (by omega);have v4:IntKind.i64.wrap (((a:Nat):Int)-((bo:Nat):Int)-((c:Nat):Int))=((a:Nat):Int)-((bo:Nat):Int)-((c:Nat):Int):=wrap_i64 (by omega);have v5:IntKind.u32.wrap (((a:Nat):Int)-((bo:Nat):Int)-((c:Nat):Int))=(((a+BB-bo-c)%BB:Nat):Int):=by rw[wrap_u32];unfold BB;omega
 simp only[BZ,w0,w1,w2,w3,jf,gX0,gX1,gY1,u1,u2,u3,ho,d1,d2,d3,bV,hOl,aW,eX,eO,hq,p2,p4,hvL,aQ hY _,aQ hOk _,aQ (dH _ _) _,eD,gM, ←hW,hbo,hc,v1,v2,v3,v4,v5,f1,eZ];refine au (λ_=> ?_) (λh=>absurd (show(j:Int)≥0 by omega) (of_decide_eq_false h))
 repeat first
  | refine ah rfl ?_
  | refine ah (bQ) ?_
 refine au (λhlt=> ?_) (λhlt=> ?_)
 ·have hlt:=j4 hlt
  have hWP:W<g*aF Y:=hsg.1 (by omega);have hgq:g=W/aF Y+1:=by
   rcases Nat.lt_or_ge (W/aF Y) g with h|h
   ·omega
   ·exfalso
    have h1:g*aF Y≤W/aF Y*aF Y:=Nat.mul_le_mul_right _ h;have h2:=Nat.div_mul_le_self W (aF Y);omega
  have hqY:W/aF Y*aF Y≤W:=Nat.div_mul_le_self _ _;have hgY:g*aF Y=W/aF Y*aF Y+aF Y:=by rw[hgq,Nat.add_mul,Nat.one_mul]
  obtain⟨D,hD⟩: ∃D,D=W+BB^(n+1)-g*aF Y:=⟨_,rfl⟩
  have hDl:D<BB^(n+1):=by omega
  have hvm:V%BB^j<BB^j:=Nat.mod_lt _ (BX j);have hZe:Z=V%BB^j+BB^j*D:=by
   have e:Ip j n g (aF Y) V=V%BB^j+BB^j*D:=by unfold Ip sbD;rw[←hW,hD]
   rw[hZ,e,Nat.mod_eq_of_lt];have h2:BB^j*(D+1)≤BB^j*BB^(n+1):=Nat.mul_le_mul_left _ hDl;rw[Nat.mul_add,Nat.mul_one, ←Nat.pow_add,show j+(n+1)=j+n+1 by omega]at h2;omega
  have hZt:Z<BB^(j+n+1):=by rw[hZ];exact Nat.mod_lt _ (BX _)
  have hZv:aF (bB Z (n+m))=Z:=fH _ _ (Nat.lt_of_lt_of_le hZt (Nat.pow_le_pow_right (by decide) (by omega)));have hZm:Z%BB^j=V%BB^j:=by rw[hZe,Nat.add_mul_mod_self_left,Nat.mod_mod]
  have hZd:Z/BB^j=D:=by rw[hZe,Nat.add_mul_div_left _ _ (BX j),Nat.div_eq_of_lt hvm,Nat.zero_add]
  have had:MQ j (aF Y) Z%BB^(j+n+1)=A%(aF Y*BB^j):=by
   have e:MQ j (aF Y) Z=V%BB^j+BB^j*(BB^(n+1)+(W-W/aF Y*aF Y)):=by
    unfold MQ;rw[hZm,hZd]
    congr 2
    omega
   rw[e,as3 _ _ _ _ hvm (by omega),hvn]
  have hdg:=YG j (aF Y) Z n;rw[EG,avE yl,Nat.zero_mod,Nat.add_zero]at hdg;have hk:=JR (Z/BB^j) (aF Y) n;have hm6:=pR Z (MQ j (aF Y) Z) (n+m) (j+n) (by omega);rw[Rz _ _ _ _ hZt,had,hdg]at hm6;have gZ:(fq Z (MQ j (aF Y) Z) (n+m) (j+n)).getD (j+n) 0=Z/BB^j/BB^n%BB:=by
   rw[lJ _ _ _ _ _ (by omega),if_neg (Nat.lt_irrefl _),jI]
  have hzl:Z/BB^j/BB^n%BB<BB:=Nat.mod_lt _ (by decide);have p6:MS ((n,s,n+m,(n:Nat),m,(j:Nat),((g-1:Nat):Int),0,(n:Nat),0,()),(Y,bB Z (n+m),O,()))=true:=by
   simp only[MS,cu,fT];exact⟨YH s j hYl (bV _ _) hOl n2 hn hY (dH _ _) hOk yl hj (by rw[gY1];exact y1b),trivial,trivial,trivial⟩
  simp only[hZv];generalize Z/BB^j/BB^n%BB=z at*;generalize carry (Z/BB^j) (aF Y) n=k at*;have x1:IntKind.u64.wrap (((g:Nat):Int)-1)=((g-1:Nat):Int):=by
   rw[show((g:Nat):Int)-1=((g-1:Nat):Int)by omega];exact qj _ (by unfold BB at g3;omega)
  have x2:IntKind.u32.wrap ((g-1:Nat):Int)=((A/aF Y/BB^j%BB:Nat):Int):=by
   rw[JZ,Nat.mod_eq_of_lt (by omega), ←hqe];congr 1;omega
  have x3:IntKind.u32.wrap ((k:Nat):Int)=((k:Nat):Int):=by rw[JZ,Nat.mod_eq_of_lt (by unfold BB;omega)]
  have x4:IntKind.u32.wrap (((z:Nat):Int)+((k:Nat):Int))=(((k+z)%BB:Nat):Int):=by
   rw[←Int.natCast_add,JZ,Nat.add_comm]
  have f6:=gK (fq Z (MQ j (aF Y) Z) (n+m) (j+n)) (j+n) ((k+z)%BB) (by rw[eD];omega);rw[hm6]at f6;have fO:=gK O j (A/aF Y/BB^j%BB) (by rw[hOl];exact hj);rw[hqn]at fO;have e6:=aW (bB (A%(aF Y*BB^j)) (n+m));have e7:=aW (bB (A/aF Y/BB^j*BB^j) m);rw[bV]at e6 e7;simp only[x1,x2,x3,p6,gZ,x4,f6,fO,e6,e7,aQ (dH _ _) _]
  repeat first
   | refine ah rfl ?_
   | refine ah (bQ) ?_
  exact av hin
 ·have hlt:=of_decide_eq_false hlt
  have hWP:g*aF Y≤W:=Nat.le_of_not_lt λhh=>absurd (hsg.2 hh) (by omega)
  have hgq:g=W/aF Y:=Nat.le_antisymm ((Nat.le_div_iff_mul_le hR.yp).2 hWP) g1;have hZe:Z=A%(aF Y*BB^j):=by
   have e:Ip j n g (aF Y) V=V%BB^j+BB^j*(BB^(n+1)+(W-g*aF Y)):=by
    unfold Ip sbD;rw[←hW]
    congr 2
    omega
   rw[hZ,e,as3 _ _ _ _ (Nat.mod_lt _ (BX j)) (by omega),hgq];exact hvn
  have x2:IntKind.u32.wrap ((g:Nat):Int)=((A/aF Y/BB^j%BB:Nat):Int):=by
   rw[JZ,Nat.mod_eq_of_lt g3, ←hqe,hgq]
  have fO:=gK O j (A/aF Y/BB^j%BB) (by rw[hOl];exact hj);rw[hqn]at fO;have e7:=aW (bB (A/aF Y/BB^j*BB^j) m);rw[bV]at e7;simp only[x2,fO,e7,hZe,aQ (dH _ _) _]
  repeat first
   | refine ah rfl ?_
   | refine ah (bQ) ?_
  exact av hin
theorem VK(Y X O:List Nat)(hX:okD X=true)(hO:okD O=true)(n no L:Nat)(s:Int){R:D0X ⊕ D0R→Prop}(hL:X.length=L)(hl:O.length=no)
  (hq:R (.inr ((s,L,(n:Nat),no,()),(X,O,())))):(BZ n s L (n:Nat) no (-1) Y X O).sat R:=by
 have c:decide ((-1:Int)≥0)=false:=rfl;simp only[BZ,c,aW,aQ hX _,aQ hO _];exact au (λh=>by cases h) (λ_=>ah rfl (ah rfl (av hq)))
theorem aeo(Y:List Nat)(hY:okD Y=true)(A n m:Nat)(s:Int)(hYl:Y.length=n+1)(hR: ∀j,Rnd A (aF Y) n j)(hn:n+m≤1000000000)(Q:D0R→Prop)
  (hq:Q ((s,n+m,(n:Nat),m,()),(bB (A%aF Y) (n+m),bB (A/aF Y) m,()))): ∀(k:Nat),k≤m→
  dJ (λx:D0X=>BZ x.1.1 x.1.2.1 x.1.2.2.1 x.1.2.2.2.1 x.1.2.2.2.2.1 x.1.2.2.2.2.2.1 x.2.1 x.2.2.1 x.2.2.2.1) Q (k+1) ((n,s,n+m,(n:Nat),m,(k:Int)-1,()),(Y,bB (A%(aF Y*BB^k)) (n+m),bB (A/aF Y/BB^k*BB^k) m,()))
 | 0,_=>by
   unfold dJ
   change Tr.sat _ (BZ n s (n+m) (n:Nat) m (((0:Nat):Int)-1) Y (bB (A%(aF Y*BB^0)) (n+m)) (bB (A/aF Y/BB^0*BB^0) m))
   rw[Nat.pow_zero,Nat.mul_one,Nat.div_one,Nat.mul_one];exact VK Y _ _ (dH _ _) (dH _ _) n m (n+m) s (bV _ _) (bV _ _) hq
 | k+1,hk=>by
   unfold dJ;have e:((k+1:Nat):Int)-1=(k:Int):=by omega
   rw[e];exact aaR Y hY A n m k s hYl (hR k) (by omega) hn (aeo Y hY A n m s hYl hR hn Q hq k (by omega))
end Go.bI
namespace Go.bI
open Go.Proofs
theorem apf{A Y n:Nat}(hn:2≤n)(hY:Y<BB^n)(h1:BB≤2*(Y/BB^(n-1)))(j:Nat):Rnd A Y n j:=⟨hn,hY,h1⟩
theorem as8:pG Tryz.prog 0 0 (.loop (bn 0 (codeOf Tryz.f257))) (O1.g 0):=by
 refine aZ.sU (N:=1010) aj eP (L:=LDi) apd aay aaQ ?_;rintro⟨⟨ny,s,nx,n,no,j,⟨⟩⟩,⟨Y,X,O,⟨⟩⟩⟩ hx;have hx:MU ((ny,s,nx,n,no,j,()),(Y,X,O,()))=true:=hx;simp only[MU,cu,fT]at hx;obtain⟨hp,rfl,hO,hA⟩:=hx;obtain⟨rfl,a2,a3,a4,rfl,a6,a7,a8,a9,a10,a11,a12,a13,a14⟩:=Dw hp;have gY1:Y.getD (ny-1) 0=aF Y/BB^(ny-1):=by
  rw[vg a8 _ (by omega),Nat.mod_eq_of_lt];rw[Nat.div_lt_iff_lt_mul (BX _),Nat.mul_comm, ←Nat.pow_succ,show(ny-1).succ=ny by omega];exact a11
 rw[gY1]at a14;have:=aeo Y a8 (aF X) ny no s a2 (apf a6 a11 a14) a7 (· =O1.res ((ny,s,ny+no,(ny:Nat),no,(no:Int)-1,()),(Y,X,O,()))) (by
  simp only[O1,yA,anT]) no (Nat.le_refl _)
 have e1:bB (aF X%(aF Y*BB^no)) (ny+no)=X:=by
  have:=jA X a9;rw[←a3]at this;rw[Nat.mod_eq_of_lt hA,this]
 have e2:bB (aF X/aF Y/BB^no*BB^no) no=O:=by
  rw[Nat.div_div_eq_div_mul,Nat.div_eq_of_lt hA,Nat.zero_mul,hO]
 rw[e1,e2]at this;exact⟨_,this⟩
theorem as9:pG Tryz.prog 0 8 (.loop (bn 8 (codeOf Tryz.f257))) (O3.g 0):=by
 refine aZ.sU (N:=1010) aj eP (L:=bX) (ak 0 _) aaz aaH ?_;rintro⟨⟨s,nx,no,nr,N,i,⟨⟩⟩,⟨X,O,R,⟨⟩⟩⟩ hx;have hx:MV ((s,nx,no,nr,N,i,()),(X,O,R,()))=true:=hx;simp only[MV,cu,fT]at hx;obtain⟨rfl,rfl,h4,h5,h6,h7,rfl,h9,h10,rfl,rfl,hR⟩:=hx;obtain⟨s,rfl⟩: ∃k:Nat,s=k:=⟨s.toNat,by omega⟩
 have:=aej X O h6 h7 s nr (by omega) h4 h5 (· =O3.res (((s:Nat),X.length,O.length,nr,(nr:Nat),0,()),(X,O,bB 0 nr,()))) (by
  simp only[O3,yA,anU,Int.toNat_natCast]) nr 0 (by omega)
 rw[wK]at this;exact⟨_,this⟩
theorem ata:bF Tryz.prog 0 LD (codeOf Tryz.f257):=by
 refine bG (d:=λid=>Nat.beq id 0 || Nat.beq id 8) (λid=>by unfold LD;cases Nat.beq id 0<;>cases Nat.beq id 8<;>rfl) _ ?_;have hb:bU (λid=>Nat.beq id 0 || Nat.beq id 8) (codeOf Tryz.f257)=[(0,.loop (bn 0 (codeOf Tryz.f257))),(8,.loop (bn 8 (codeOf Tryz.f257)))]:=by kernel_rfl
 rw[hb];intro p hp g hg;simp only[List.mem_cons,List.not_mem_nil,or_false]at hp;rcases hp with rfl|rfl
 ·obtain rfl:g=O1.g 0:=(Option.some.inj hg).symm
  exact as8
 ·obtain rfl:g=O3.g 0:=(Option.some.inj hg).symm
  exact as9
end Go.bI
namespace Go.bI
open Go.Proofs
def atb:FuncId→Option Spec:=λf=>bif Nat.beq f 256 then some (ay Rc)else bif Nat.beq f 126 then some (ay OI)else bif Nat.beq f 226 then some (ay aag)else bif Nat.beq f 259 then some (j6 U5)else bif Nat.beq f 260 then some (ay Vh)else bif Nat.beq f 287 then some (j6 KSg)else bif Nat.beq f 288 then some (ay KLz)else bif Nat.beq f 289 then some (j6 KSh)else none
theorem ajp: ∀f s,atb f=some s→aR Tryz.prog f s:=step_ok Di.spec (step_ok zS.spec (step_ok OP.spec (step_ok H8.spec (step_ok Ii.spec (step_ok asZ.spec (step_ok asY.spec (bS as0.spec)))))))
def MDv(a:ByteArray)(b:ByteArray):Tr AV:=
 let x1:Bool:=decide (iZ b≠0)
 let x2:Int:=IntKind.u64.wrap ((iZ a).tdiv (iZ b))
 let x3:Int:=(iZ a).tmod (iZ b)
 let x4:List UInt8:=a.data.toList
 let x5:List UInt8:=b.data.toList
 let x6:Int:=gW ↑(aO x4) ↑(aO x5)
 let x7:Int:= ↑(bJ x5.length)
 let x8:Bool:=decide (x4.length≤1000000000)
 let x9:Bool:=aJ (bJ x4.length) (aD (bB (aO x4) (bJ x4.length)))
 let x10:List Nat:=aL (bJ x4.length) (aD (bB (aO x4) (bJ x4.length)))
 let fI:Nat:=x10.length
 let fU:Bool:=decide (bJ x4.length=fI)
 let iM:Bool:=okD x10
 let iR:List Nat:=bB (aO x5) (bJ x5.length)
 let jH:Int:= ↑(iR.getD (Int.toNat 0) 0)
 let kE:Bool:=decide (bJ x4.length≤1000000000)
 let jD:Nat:=aF x10
 let x18:Nat:=jH.toNat
 let lW:Int:=IntKind.u64.wrap ↑(jD%x18)
 let x20:Int:=IntKind.i64.wrap (x7-1)
 let x21:Nat:=x20.toNat
 let lZ:Int:= ↑(iR.getD x21 0)
 let x23:Int:=32 - ↑(bitLen lZ.toNat)
 let x24:Bool:=decide (0≤x23)
 let x25:Bool:=decide (x23<32)
 let rY:List Nat:=aL (bJ x5.length) (aD iR)
 let x27:Nat:=rY.length
 let x28:Nat:=bJ x5.length+1
 let x29:Int:= ↑x28
 let x30:Nat:=bJ x4.length+1
 let x31:Nat:=x7.toNat
 let x32:Int:= ↑x31
 let pV:Int:=IntKind.i64.wrap (↑x30-x32)
 let x34:Int:=((4:Nat):Int)
 let yF:Int:=x34*pV
 let vk:Nat:=2^x23.toNat
 let r9:Nat:=pV.toNat
 let x38:List Nat:=aL x28 (aD (bB (aF rY*vk) x28))
 let x39:List Nat:=aL x30 (aD (bB (jD*vk) x30))
 let x40:Int:=x34*x32
 let x41:Nat:=aF x39
 let GU:Nat:=aF x38
 let x43:List Nat:=bB (x41%GU) x30
 let Gs:Nat:=x43.length
 let GV:List Nat:=bB (x41/GU) r9
 let Iq:Nat:=GV.length
 let Ea:Nat:=x32.toNat
 let La:List Nat:=aL Gs (aD x43)
 let J5:List Nat:=aL Iq (aD GV)
 let Ca:Nat:=J5.length
 let Bl:List Nat:=bB (aF La/vk) Ea
 let EO:Nat:=Bl.length
 Tr.ite (iq a&&iq b)
  (Tr.need x1
   (Tr.need (jV x2)
    (Tr.need x1
     (Tr.need (jV x3)
      (Tr.ret
       (AV.iC
        [AV.c (.v (.string ⟨⟨aA x2.toNat⟩⟩)),AV.c (.v (.string ⟨⟨aA x3.toNat⟩⟩))]))))))
  (Tr.need (canon x4)
   (Tr.need (canon x5)
    (Tr.ite (decide (x6<0)) (Tr.ret (AV.iC [AV.c (.v (.string {data:= #[]})),AV.c (.v (.string a))]))
     (Tr.need (decide (x5.length≤1000000000))
      (Tr.ite (x7==1)
       (Tr.need x8
        (Tr.need (decide ((0:Int)≤0∧0<x7))
         (Tr.need (decide (Int.toNat 0<bJ x5.length))
          (Tr.need x9
           (Tr.need fU
            (Tr.need iM
             (Tr.need (decide (0<jH))
              (Tr.need (decide (jH<4294967296))
               (Tr.need kE
                (Tr.need (decide (bJ x4.length≤bJ x4.length))
                 (Tr.need (aJ (bJ x4.length) (aD (bB (jD/x18) (bJ x4.length))))
                  (Tr.need kE
                   (Tr.need (jV lW)
                    (Tr.ret
                     (AV.iC
                      [AV.c
                        (IV.v
                         (Value.string
                          {data:={toList:=aA (aF (aL (bJ x4.length) (aD (bB (jD/x18) (bJ x4.length)))))}})),
                       AV.c (.v (.string ⟨⟨aA lW.toNat⟩⟩))])))))))))))))))
       (Tr.need (decide (0≤x20∧x20<x7))
        (Tr.need (decide (x21<bJ x5.length))
         (Tr.need true
          (Tr.need (decide (lZ<4294967296))
           (Tr.need x8
            (Tr.need x9
             (Tr.need fU
              (Tr.need iM
               (Tr.need x24
                (Tr.need x25
                 (Tr.need (decide (bJ x4.length≤100000000))
                  (Tr.need (aJ (bJ x5.length) (aD iR))
                   (Tr.need (decide (bJ x5.length=x27))
                    (Tr.need (okD rY)
                     (Tr.need x24
                      (Tr.need x25
                       (Tr.need (decide (bJ x5.length≤100000000))
                        (Tr.need (decide (0≤x7∧x7≤x29))
                         (Tr.need (decide (pV=pV))
                          (Tr.need (decide (0≤pV))
                           (Tr.need (decide (pV≤9223372036854775807))
                            (Tr.need (decide (yF≤140737488355328))
                             (Tr.need (aJ x28 (aD (bB (aF rY*vk) x28)))
                              (Tr.need (aJ x30 (aD (bB (jD*vk) x30)))
                               (Tr.need (aJ r9 λx=>List.map IV.v [Value.int IntKind.u32 0])
                                (Tr.need
                                 (MU
                                  ((x31,x23,x30,x32,r9,IntKind.i64.wrap (↑r9-1),()),x38,x39,
                                    aL r9 λx=>List.map IV.v [Value.int IntKind.u32 0],()))
                                 (Tr.need (decide (x32=x32))
                                  (Tr.need true
                                   (Tr.need (decide (x32≤9223372036854775807))
                                    (Tr.need (decide (x40≤140737488355328))
                                     (Tr.need (aJ Gs (aD x43))
                                      (Tr.need (aJ Iq (aD GV))
                                       (Tr.need (aJ Ea λx=>List.map IV.v [Value.int IntKind.u32 0])
                                        (Tr.need
                                         (MV
                                          ((x23,x30,r9,Ea,x32,0,()),La,J5,
                                            aL Ea λx=>List.map IV.v [Value.int IntKind.u32 0],()))
                                         (Tr.need (decide (r9≤Ca))
                                          (Tr.need (aJ r9 (aD J5))
                                           (Tr.need (decide (r9≤1000000000))
                                            (Tr.need (decide (Ea≤EO))
                                             (Tr.need (aJ Ea (aD Bl))
                                              (Tr.need (decide (Ea≤1000000000))
                                               (Tr.ret
                                                (AV.iC
                                                 [AV.c
                                                   (IV.v
                                                    (Value.string
                                                     {
                                                      data:=
                                                       {
                                                        toList:=
                                                         aA (aF (aL r9 (aD J5)))}})),
                                                  AV.c
                                                   (IV.v
                                                    (Value.string
                                                     {
                                                      data:=
                                                       {
                                                        toList:=
                                                         aA
                                                          (aF
                                                           (aL Ea
                                                            (aD
                                                             Bl)))}}))])))))))))))))))))))))))))))))))))))))))))))))))
theorem apg(a b:ByteArray):aI Tryz.prog atb LD 1010 Tryz.f257 [.c (.v (.string a)),.c (.v (.string b))]=MDv a b:=by kernel_rfl
theorem aep{l:List UInt8}(h:canon l=true)(hl:l≠ []):256^(l.length-1)≤aO l:=by
 cases l with
 | nil=>exact absurd rfl hl
 | cons c l=>
   have hc:c≠0:=by simpa[canon]using h
   have h1:1≤c.toNat:=by
    rcases Nat.eq_zero_or_pos c.toNat with h0|h0
    ·exact absurd (UInt8.toNat_inj.1 (by simpa using h0)) hc
    ·exact h0
   rw[wI];simp only[List.length_cons,Nat.add_sub_cancel];have:=Nat.mul_le_mul_right (256^l.length) h1;omega
theorem aph{l:List UInt8}(h:canon l=true)(hl:l≠ []):BB^(bJ l.length-1)≤aO l:=by
 refine Nat.le_trans ?_ (aep h hl);have e:BB=256^4:=by decide
 rw[e, ←Nat.pow_mul];refine Nat.pow_le_pow_right (by decide) ?_;unfold bJ;omega
theorem aaS{b n:Nat}(hn:1≤n)(hb:BB^(n-1)≤b)(hb2:b<BB^n):bitLen (b/BB^(n-1))≤32∧1≤bitLen (b/BB^(n-1))∧b*2^(32-bitLen (b/BB^(n-1)))<BB^n∧2147483648≤b*2^(32-bitLen (b/BB^(n-1)))/BB^(n-1):=by
 have hP:=BX (n-1);have ht:b/BB^(n-1)<BB:=by
  rw[Nat.div_lt_iff_lt_mul hP,Nat.mul_comm, ←Nat.pow_succ,show(n-1).succ=n by omega];exact hb2
 have ht1:1≤b/BB^(n-1):=(Nat.le_div_iff_mul_le hP).2 (by rw[Nat.one_mul];exact hb);have hlt:=Gr b hP;have hle:=Nat.div_mul_le_self b (BB^(n-1));have hBn:BB^n=BB*BB^(n-1):=by rw[Nat.mul_comm, ←Nat.pow_succ,show(n-1).succ=n by omega]
 generalize b/BB^(n-1)=t at*;have h32:bitLen t≤32:=bitLen_le.2 ht;have h1:1≤bitLen t:=by
  rcases Nat.eq_zero_or_pos (bitLen t)with h|h
  ·have:=(bitLen_le (n:=t) (k:=0)).1 (by omega)
   rw[Nat.pow_zero]at this;omega
  ·exact h
 have hup:t<2^bitLen t:=bitLen_le.1 (Nat.le_refl _);have hlo:2^(bitLen t-1)≤t:=by
  rcases Nat.lt_or_ge t (2^(bitLen t-1))with h|h
  ·have:=bitLen_le.2 h;omega
  ·exact h
 generalize bitLen t=k at*;refine⟨h32,h1,?_,?_⟩
 ·rw[hBn]
  have e:BB=2^k*2^(32-k):=by rw[←Nat.pow_add,show k+(32-k)=32 by omega]
  have h2:(t+1)*BB^(n-1)≤2^k*BB^(n-1):=Nat.mul_le_mul_right _ hup;have h3:b*2^(32-k)<2^k*BB^(n-1)*2^(32-k):=Nat.mul_lt_mul_of_pos_right (by omega) (Nat.pow_pos (by decide));rw[Nat.mul_right_comm, ←e]at h3;exact h3
 ·rw[Nat.le_div_iff_mul_le hP]
  have e:2147483648=2^(k-1)*2^(32-k):=by rw[←Nat.pow_add,show k-1+(32-k)=31 by omega]
  have h2:2^(k-1)*BB^(n-1)≤t*BB^(n-1):=Nat.mul_le_mul_right _ hlo;have h3:2^(k-1)*BB^(n-1)*2^(32-k)≤b*2^(32-k):=Nat.mul_le_mul_right _ (by omega);rw[e,Nat.mul_right_comm];exact h3
def vU(a b:ByteArray):AV:= .iC [oq (aA (aO a.data.toList/aO b.data.toList)),oq (aA (aO a.data.toList%aO b.data.toList))]
theorem aaT(a b:ByteArray)(hw:(iq a&&iq b)=true)(hb:aO b.data.toList≠0):(MDv a b).sat λr=>r=vU a b:=by
 simp only[cu]at hw;have ea:=pU a hw.1;have eb:=pU b hw.2;have ha:=sV a hw.1;have hb2:=sV b hw.2;unfold vU MDv;generalize aO a.data.toList=n at*;generalize aO b.data.toList=m at*;have hq:n/m≤n:=Nat.div_le_self _ _;have hr:n%m<m:=Nat.mod_lt _ (Nat.pos_of_ne_zero hb);have e1:IntKind.u64.wrap ((iZ a).tdiv (iZ b))=((n/m:Nat):Int):=by
  rw[ea,eb, ←Int.ofNat_tdiv,wrap_u64];generalize n/m=q at*;omega
 have e2:(iZ a).tmod (iZ b)=((n%m:Nat):Int):=by
  rw[ea,eb];exact(Int.ofNat_tmod n m).symm
 refine au (λ_=>ah ?_ (ah ?_ (ah ?_ (ah ?_ (av ?_))))) (λh=> ?_)
 ·rw[eb];exact bQ
 ·rw[e1];unfold jV;generalize n/m=q at*;simp;omega
 ·rw[eb];exact bQ
 ·rw[e2];unfold jV;generalize n%m=q at*;simp;omega
 ·rw[e1,e2,Int.toNat_natCast,Int.toNat_natCast];rfl
 ·rw[hw.1,hw.2]at h;cases h
theorem aer(a b:ByteArray)(hw:(iq a&&iq b)=false)(ha:canon a.data.toList=true)(hb:canon b.data.toList=true)(h:aO a.data.toList<aO b.data.toList):(MDv a b).sat λr=>r=vU a b:=by
 have hs:decide (gW ((aO a.data.toList:Nat):Int) ((aO b.data.toList:Nat):Int)<0)=true:=by
  rw[uY,if_pos h];rfl
 unfold vU MDv;refine au (λh=>by rw[hw]at h;cases h) (λ_=>ah ha (ah hb (au (λ_=>av ?_) (λh=>by rw[hs]at h;cases h))));rw[Nat.div_eq_of_lt h,Nat.mod_eq_of_lt h,iD,jy _ ha];rfl
theorem ajq(a b:ByteArray)(hw:(iq a&&iq b)=false)(ha:canon a.data.toList=true)(hb:canon b.data.toList=true)(la:a.data.toList.length≤100000000)(lb:b.data.toList.length≤100000000)(h:aO b.data.toList≤aO a.data.toList)(h0:aO b.data.toList≠0)(h1:bJ b.data.toList.length=1):
  (MDv a b).sat λr=>r=vU a b:=by
 have hs:decide (gW ((aO a.data.toList:Nat):Int) ((aO b.data.toList:Nat):Int)<0)=false:=by
  rw[uY,if_neg (by omega)];split<;>rfl
 have hda:=qY a;have hdb:=qY b;rw[h1,Nat.pow_one]at hdb;have nl:bJ a.data.toList.length≤100000000:=by unfold bJ;omega
 unfold vU;have g0:(bB (aO b.data.toList) 1).getD (Int.toNat 0) 0=aO b.data.toList:=by
  show aO b.data.toList%4294967296=_
  exact Nat.mod_eq_of_lt hdb
 have eA:aL (bJ a.data.toList.length) (aD (bB (aO a.data.toList) (bJ a.data.toList.length)))=bB (aO a.data.toList) (bJ a.data.toList.length):=by
  have:=aW (bB (aO a.data.toList) (bJ a.data.toList.length))
  rwa [bV]at this
 have eQ:aL (bJ a.data.toList.length) (aD (bB (aO a.data.toList/aO b.data.toList) (bJ a.data.toList.length)))=bB (aO a.data.toList/aO b.data.toList) (bJ a.data.toList.length):=by
  have:=aW (bB (aO a.data.toList/aO b.data.toList) (bJ a.data.toList.length))
  rwa [bV]at this
 have vA:=fH _ _ hda;have vQ:=fH _ _ (Nat.lt_of_le_of_lt (Nat.div_le_self _ (aO b.data.toList)) hda);simp only[MDv];generalize aO a.data.toList=A at*;generalize aO b.data.toList=d at*;have hr:A%d<d:=Nat.mod_lt _ (Nat.pos_of_ne_zero h0);have hd:d<4294967296:=hdb;have x1:IntKind.u64.wrap ((A%d:Nat):Int)=((A%d:Nat):Int):=qj _ (by omega);have x2:jV ((A%d:Nat):Int)=true:=by
  unfold jV;generalize A%d=q at*;simp only[cu,fT];omega
 have x3:(((1:Nat):Int)==1)=true:=rfl;simp only[h1,g0,eA,vA,jf,eQ,vQ,bV,x1,x2,x3,aQ (dH _ _) _,dH,hs,hw];refine au (λh=>by cases h) (λ_=>ah ha (ah hb (au (λh=>by cases h) (λ_=>ah (bQ) (au (λ_=> ?_) (λh=>by cases h))))))
 repeat first
  | refine ah (bQ) ?_
  | refine ah (Eq.refl true) ?_
 exact av rfl
end Go.bI
namespace Go.bI
open Go.Proofs
theorem VL{Y n:Nat}(hn:1≤n)(h:Y<BB^n):Y/BB^(n-1)<BB:=by
 refine(Nat.div_lt_iff_lt_mul (BX _)).2 ?_;have:BB^n=BB*BB^(n-1):=by rw[Nat.mul_comm, ←Nat.pow_succ,show(n-1).succ=n by omega]
 omega
theorem aes(V n:Nat):aL n (aD (bB V n))=bB V n:=by
 have:=aW (bB V n)
 rwa [bV]at this
theorem aeu{A B na ny s:Nat}(hn:2≤ny)(hA:A<BB^na)(hBl:BB^(ny-1)≤B)(hle:B≤A)(hY:B*2^s<BB^ny)(hY1:2147483648≤B*2^s/BB^(ny-1))(hs:s<32):
  ny≤na∧A*2^s<BB^(na+1)∧A*2^s<B*2^s*BB^(na+1-ny)∧A*2^s/(B*2^s)=A/B∧A*2^s%(B*2^s)/2^s=A%B∧A*2^s%(B*2^s)<BB^ny∧A*2^s/(B*2^s)<BB^(na+1-ny)∧A%B<BB^ny:=by
 have hna:ny≤na:=by
  apply Classical.byContradiction
  intro hn;have:BB^na≤BB^(ny-1):=Nat.pow_le_pow_right (by decide) (by omega);omega
 have hps:2^s≤2147483648:=by
  calc 2^s≤2^31:=Nat.pow_le_pow_right (by decide) (by omega)
   _=2147483648:=by decide
 have hp0:0<2^s:=Nat.pow_pos (by decide);have hB0:0<B:=Nat.lt_of_lt_of_le (BX _) hBl;have hY0:0<B*2^s:=Nat.mul_pos hB0 hp0;have h1:A*2^s<BB^na*2147483648:=by
  have h2:A*2^s<BB^na*2^s:=Nat.mul_lt_mul_of_pos_right hA hp0;exact Nat.lt_of_lt_of_le h2 (Nat.mul_le_mul_left _ hps)
 have h3:BB^na*2147483648≤B*2^s*BB^(na+1-ny):=by
  have h4:2147483648*BB^(ny-1)≤B*2^s:=(Nat.le_div_iff_mul_le (BX _)).1 hY1;have h5:2147483648*BB^(ny-1)*BB^(na+1-ny)≤B*2^s*BB^(na+1-ny):=Nat.mul_le_mul_right _ h4;rw[Nat.mul_assoc, ←Nat.pow_add,show ny-1+(na+1-ny)=na by omega,Nat.mul_comm 2147483648]at h5;exact h5
 have hX:A*2^s<B*2^s*BB^(na+1-ny):=Nat.lt_of_lt_of_le h1 h3;have hq:A*2^s/(B*2^s)=A/B:=Nat.mul_div_mul_right A B hp0;have hr:A*2^s%(B*2^s)=A%B*2^s:=Nat.mul_mod_mul_right _ _ _;refine⟨hna,?_,hX,hq,?_,Nat.lt_trans (Nat.mod_lt _ hY0) hY,?_,?_⟩
 ·refine Nat.lt_of_lt_of_le h1 ?_
  rw[Nat.pow_succ];exact Nat.mul_le_mul_left _ (by decide)
 ·rw[hr,Nat.mul_div_cancel _ hp0]
 ·exact(Nat.div_lt_iff_lt_mul hY0).2 (by rw[Nat.mul_comm (BB^(na+1-ny))];exact hX)
 ·refine Nat.lt_of_lt_of_le (Nat.mod_lt _ hB0) (Nat.le_trans ?_ (Nat.le_of_lt hY))
  exact Nat.le_mul_of_pos_right _ hp0
theorem aev(a b:ByteArray)(hw:(iq a&&iq b)=false)(ha:canon a.data.toList=true)(hb:canon b.data.toList=true)(la:a.data.toList.length≤100000000)(lb:b.data.toList.length≤100000000)(h:aO b.data.toList≤aO a.data.toList)(h0:b.data.toList≠ [])(h1:2≤bJ b.data.toList.length):
  (MDv a b).sat λr=>r=vU a b:=by
 have hs:decide (gW ((aO a.data.toList:Nat):Int) ((aO b.data.toList:Nat):Int)<0)=false:=by
  rw[uY,if_neg (by omega)];split<;>rfl
 have hda:=qY a;have hdb:=qY b;have hBl:=aph hb h0;have na9:bJ a.data.toList.length≤25000001:=by unfold bJ;omega
 have ny9:bJ b.data.toList.length≤25000001:=by unfold bJ;omega
 unfold vU;simp only[MDv];generalize aO a.data.toList=A at*;generalize aO b.data.toList=B at*;generalize hny:bJ b.data.toList.length=ny at*;generalize hna:bJ a.data.toList.length=na at*;obtain⟨k1,k2,k3,k4⟩:=aaS (by omega) hBl hdb;have e1:IntKind.i64.wrap (((ny:Nat):Int)-1)=((ny-1:Nat):Int):=jR;have g1:(bB B ny).getD (ny-1) 0=B/BB^(ny-1):=by
  rw[sI _ _ _ (by omega),Nat.mod_eq_of_lt (VL (by omega) hdb)]
 have tl:B/BB^(ny-1)<4294967296:=by
  exact VL (by omega) hdb
 have e2:(32:Int)-((bitLen (B/BB^(ny-1)):Nat):Int)=((32-bitLen (B/BB^(ny-1)):Nat):Int):=by omega
 generalize B/BB^(ny-1)=t at*;have hsl:32-bitLen t<32:=by omega
 generalize 32-bitLen t=s at*;obtain⟨n1,n2,n3,n4,n5,n6,n7,n8⟩:=aeu h1 hda hBl h k3 k4 hsl;have e3:IntKind.i64.wrap (((na+1:Nat):Int)-((ny:Nat):Int))=((na+1-ny:Nat):Int):=jR;have e4:IntKind.i64.wrap (((na+1-ny:Nat):Int)-1)=((na+1-ny:Nat):Int)-1:=wrap_i64 (by omega);have vA:=fH _ _ hda;have vB:=fH _ _ hdb;have vX:=fH _ _ n2;have vY:aF (bB (B*2^s) (ny+1))=B*2^s:=fH _ _ (Nat.lt_of_lt_of_le k3 (Nat.pow_le_pow_right (by decide) (by omega)));have vR:aF (bB (A*2^s%(B*2^s)) (na+1))=A*2^s%(B*2^s):=fH _ _ (Nat.lt_of_lt_of_le n6 (Nat.pow_le_pow_right (by decide) (by omega)));have vQ:=fH _ _ n7;have vr:=fH _ _ n8;have gY:(bB (B*2^s) (ny+1)).getD (ny-1) 0=B*2^s/BB^(ny-1):=by
  rw[sI _ _ _ (by omega),Nat.mod_eq_of_lt (VL (by omega) k3)]
 have p0:MU ((ny,(s:Nat),na+1,(ny:Nat),na+1-ny,((na+1-ny:Nat):Int)-1,()),(bB (B*2^s) (ny+1),bB (A*2^s) (na+1),bB 0 (na+1-ny),()))=true:=by
  simp only[MU,LC,bV,vY,vX,dH,cu,fT,gY];refine⟨⟨trivial,trivial,trivial,trivial,by omega,h1,by omega,trivial,trivial,trivial,k3,by omega,by omega,Nat.le_trans (show BB≤2*2147483648 by decide) (Nat.mul_le_mul_left 2 k4)⟩,trivial,trivial,n3⟩
 have p8:MV (((s:Nat),na+1,na+1-ny,ny,(ny:Nat),0,()),(bB (A*2^s%(B*2^s)) (na+1),bB (A*2^s/(B*2^s)) (na+1-ny),bB 0 ny,()))=true:=by
  simp only[MV,bV,vR,dH,cu,fT];exact⟨trivial,trivial,by omega,by omega,trivial,trivial,trivial,by omega,by omega,trivial,trivial,n6⟩
 have x3:(((ny:Nat):Int)==1)=false:=by
  have: ¬((ny:Nat):Int)=1:=by omega
  simpa using this
 simp only[hs,hw,x3,jf,e1,g1,e2,aes,vA,vB,e3,e4,vX,vY,MW,Gq,p0,bV,aQ (dH _ _) _,dH,vR,p8,vQ,n5,vr];refine au (λh=>by cases h) (λ_=>ah ha (ah hb (au (λh=>by cases h) (λ_=>ah (bQ) (au (λh=>by cases h) (λ_=> ?_))))))
 repeat first
  | refine ah (bQ) ?_
  | refine ah (Eq.refl true) ?_
 refine av ?_;rw[n4];rfl
theorem ajr(a b:ByteArray)(ha:canon a.data.toList=true)(hb:canon b.data.toList=true)(la:a.data.toList.length≤100000000)(lb:b.data.toList.length≤100000000)(h0:aO b.data.toList≠0):(MDv a b).sat λr=>r=vU a b:=by
 cases hw:(iq a&&iq b)with
 | true=>exact aaT a b hw h0
 | false=>
   rcases Nat.lt_or_ge (aO a.data.toList) (aO b.data.toList)with h|h
   ·exact aer a b hw ha hb h
   ·have hn:b.data.toList≠ []:=λhh=>by rw[hh]at h0;exact h0 rfl
    have hl:1≤b.data.toList.length:=by
     cases hh:b.data.toList with
     | nil=>exact absurd hh hn
     | cons c l=>simp
    rcases Nat.lt_or_ge (bJ b.data.toList.length) 2 with h2|h2
    ·exact ajq a b hw ha hb la lb h h0 (by unfold bJ at*;omega)
    ·exact aev a b hw ha hb la lb h hn h2
abbrev FSS:Form (ByteArray×ByteArray×Unit):= .cons EH (.cons EH .nil)
def apj:List AV→Option (AV×List Bool):=FSS.K (λx=>vU x.1 x.2.1) λx=> [canon x.1.data.toList,canon x.2.1.data.toList,decide (x.1.data.toList.length≤100000000),decide (x.2.1.data.toList.length≤100000000),decide (aO x.2.1.data.toList≠0)]
theorem aew:aN Tryz.prog 257 apj:=
 FSS.dO (N:=1010) (L:=LD) aj ajp (fn:=Tryz.f257) (c:=codeOf Tryz.f257) (by kernel_rfl) (by kernel_rfl) (by kernel_rfl) ata (λ_=>rfl) (M:=λx=>MDv x.1 x.2.1) (λx=>apg x.1 x.2.1)
  λx h=>ajr x.1 x.2.1 (h _ (by simp)) (h _ (by simp)) (j4 (h (decide (x.1.data.toList.length≤100000000)) (by simp))) (j4 (h (decide (x.2.1.data.toList.length≤100000000)) (by simp))) (j4 (h (decide (aO x.2.1.data.toList≠0)) (by simp)))
end Go.bI
namespace Go.bI
open Go.Proofs
def apk:FuncId→Option Spec:=λf=>bif Nat.beq f 111 then some (ay UR)else bif Nat.beq f 193 then some (ay UZ)else bif Nat.beq f 226 then some (ay aag)else none
def apl:FuncId→Option Spec:=λf=>bif Nat.beq f 226 then some (ay aag)else bif Nat.beq f 225 then some (ay adT)else bif Nat.beq f 227 then some (ay adV)else bif Nat.beq f 125 then some (ay OG)else none
def apm:FuncId→Option Spec:=λf=>bif Nat.beq f 224 then some (ay aja)else bif Nat.beq f 125 then some (ay OG)else none
def apn(p:Bool)(q:Bool)(a:ByteArray)(b:ByteArray):Tr AV:=
 let x1:List UInt8:=a.data.toList
 let x2:List UInt8:=b.data.toList
 let x3:Int:=gW ↑(aO x1) ↑(aO x2)
 .ite (!p==q) (.need (iL p a) (.need (iL q b) (.ret (.c (.v (.int IntKind.i64 (gW (gW (iv p a) 0) (gW (iv q b) 0)))))))) (.need (canon x1) (.need (canon x2) (.ite p (.ret (.c (.v (.int IntKind.i64 (IntKind.i64.wrap (0-x3)))))) (.ret (.c (.v (.int IntKind.i64 x3)))))))
def apo(p:Bool)(q:Bool)(a:ByteArray)(b:ByteArray):Tr AV:=
 let x1:List UInt8:=a.data.toList
 let x2:List UInt8:=b.data.toList
 let x3:List UInt8:=aA (aO x1+aO x2)
 let x4:Int:=gW ↑(aO x1) ↑(aO x2)
 let x5:List UInt8:=aA (aO x1-aO x2)
 let x6:List UInt8:=aA (aO x2-aO x1)
 .ite (p==q) (.need (decide (x1.length≤100000000)) (.need (decide (x2.length≤100000000)) (.ret (AV.agg [.c (.v (.bool (p&& !x3==[]))),.c (.v (.string ⟨⟨x3⟩⟩))])))) (.need (canon x1) (.need (canon x2) (.ite (decide (x4≥0)) (.need (decide (x1.length≤100000000)) (.need (decide (x2.length≤100000000)) (.need (decide (aO x2≤aO x1)) (.ret (AV.agg [.c (.v (.bool (p&& !x5==[]))),.c (.v (.string ⟨⟨x5⟩⟩))]))))) (.need (decide (x2.length≤100000000)) (.need (decide (x1.length≤100000000)) (.need (decide (aO x1≤aO x2)) (.ret (AV.agg [.c (.v (.bool (q&& !x6==[]))),.c (.v (.string ⟨⟨x6⟩⟩))]))))))))
def apq(p:Bool)(q:Bool)(a:ByteArray)(b:ByteArray):Tr AV:=
 let x1:List UInt8:=a.data.toList
 let x2:List UInt8:=b.data.toList
 let x3:List UInt8:=aA (aO x1*aO x2)
 .need (decide (x1.length≤100000000)) (.need (decide (x2.length≤100000000)) (.ret (AV.agg [.c (.v (.bool (!p==q&& !x3==[]))),.c (.v (.string ⟨⟨x3⟩⟩))])))
theorem ajs(p q:Bool)(a b:ByteArray):aI Tryz.prog apk bX 1010 Tryz.f241 [.agg [.c (.v (.bool p)),.c (.v (.string a))],.agg [.c (.v (.bool q)),.c (.v (.string b))]]=apn p q a b:=by kernel_rfl
theorem ajt(p q:Bool)(a b:ByteArray):aI Tryz.prog apl bX 1010 Tryz.f176 [.agg [.c (.v (.bool p)),.c (.v (.string a))],.agg [.c (.v (.bool q)),.c (.v (.string b))]]=apo p q a b:=by kernel_rfl
theorem aju(p q:Bool)(a b:ByteArray):aI Tryz.prog apm bX 1010 Tryz.f173 [.agg [.c (.v (.bool p)),.c (.v (.string a))],.agg [.c (.v (.bool q)),.c (.v (.string b))]]=apq p q a b:=by kernel_rfl
def ajv:List AV→Option (AV×List Bool)
 | [.agg [.c (.v (.bool p)),.c (.v (.string a))],.agg [.c (.v (.bool q)),.c (.v (.string b))]]=>some (dn .i64 (gW (iv p a) (iv q b)),[iL p a,iL q b])
 | _=>none
def ajw:List AV→Option (AV×List Bool)
 | [.agg [.c (.v (.bool p)),.c (.v (.string a))],.agg [.c (.v (.bool q)),.c (.v (.string b))]]=>some (dD (iv p a+iv q b),[iL p a,iL q b,decide (a.data.toList.length≤100000000),decide (b.data.toList.length≤100000000)])
 | _=>none
def aaU:List AV→Option (AV×List Bool)
 | [.agg [.c (.v (.bool p)),.c (.v (.string a))],.agg [.c (.v (.bool q)),.c (.v (.string b))]]=>some (dD (iv p a*iv q b),[iL p a,iL q b,decide (a.data.toList.length≤100000000),decide (b.data.toList.length≤100000000)])
 | _=>none
theorem ajx: ∀f s,apk f=some s→aR Tryz.prog f s:=step_ok HY.spec (step_ok HZ.spec (bS OP.spec))
theorem ajy: ∀f s,apl f=some s→aR Tryz.prog f s:=step_ok OP.spec (step_ok YB.spec (step_ok YD.spec (bS zQ.spec)))
theorem ajz: ∀f s,apm f=some s→aR Tryz.prog f s:=step_ok ajg.spec (bS zQ.spec)
theorem jW{p:Bool}{a:ByteArray}(h:iL p a=true):canon a.data.toList=true:=by simp only[iL,cu]at h;exact h.1
theorem YI{a:ByteArray}(h:iL true a=true):0<aO a.data.toList:=by
 have hc:=jW h;refine Nat.pos_of_ne_zero λhz=> ?_
 have:=(kL hc).1 hz;simp[iL,this]at h
theorem wP(n:Nat):(aA n==[])=decide (n=0):=by
 by_cases h:n=0
 ·subst h;simp[iD]
 ·rw[jK h]
  have:aA n≠ []:=λhh=>h (Jt (hh.trans iD.symm))
  simpa using this
theorem qM(p:Bool)(n:Nat):AV.agg [bL (p&& !aA n==[]),oq (aA n)]=dD (bif p then -(n:Int)else(n:Int)):=by
 unfold dD;rw[wP];cases p with
 | true=>
   simp only[cond_true,Int.natAbs_neg,Int.natAbs_natCast,Bool.true_and];by_cases h:n=0
   ·subst h;rfl
   ·have h2: -(n:Int)<0:=by omega
    rw[fZ h2,jK h];rfl
 | false=>
   simp only[cond_false,Int.natAbs_natCast,Bool.false_and];have h2: ¬(n:Int)<0:=by omega
   rw[jK h2];rfl
theorem aex(p q:Bool)(a b:ByteArray)(ha:iL p a=true)(hb:iL q b=true):(apn p q a b).sat λr=>r=dn .i64 (gW (iv p a) (iv q b)):=by
 have na:p=true→0<aO a.data.toList:=λh=>by subst h;exact YI ha
 have nb:q=true→0<aO b.data.toList:=λh=>by subst h;exact YI hb
 unfold apn;refine au (λhw=>ah ha (ah hb (av ?_))) (λhw=>ah (jW ha) (ah (jW hb) (au (λhp=>av ?_) (λhp=>av ?_))))
 ·refine congrArg (dn .i64) ?_
  generalize aO a.data.toList=x at*;cases p<;>cases q
  ·cases hw
  ·have:=nb rfl
   simp only[iv,cond_true,cond_false,gW]
   repeat' split
   all_goals omega
  ·have:=na rfl
   simp only[iv,cond_true,cond_false,gW]
   repeat' split
   all_goals omega
  ·cases hw
 ·subst hp
  cases q with
  | false=>cases hw
  | true=>
    refine congrArg (dn .i64) ?_;simp only[iv,cond_true,gW]
    repeat' split
    all_goals first|rfl|(exact absurd rfl (by omega))|(exfalso;omega)|(rw[wrap_i64 (by omega)];omega)
 ·subst hp
  cases q with
  | true=>cases hw
  | false=>rfl
theorem aey(p q:Bool)(a b:ByteArray)(ha:iL p a=true)(hb:iL q b=true)(la:a.data.toList.length≤100000000)(lb:b.data.toList.length≤100000000):(apo p q a b).sat λr=>r=dD (iv p a+iv q b):=by
 unfold apo;refine au (λhw=>ah (fZ la) (ah (fZ lb) (av ?_))) (λhw=>ah (jW ha) (ah (jW hb) (au (λh0=>ah (fZ la) (ah (fZ lb) (ah ?_ (av ?_)))) (λh0=>ah (fZ lb) (ah (fZ la) (ah ?_ (av ?_)))))))
 ·refine(qM p _).trans (congrArg dD ?_)
  obtain rfl:p=q:=eq_of_beq hw;cases p<;>simp only[iv,cond_true,cond_false]<;>omega
 ·have h0:=j4 h0
  refine fZ ?_;unfold gW at h0
  split at h0
  ·omega
  ·omega
 ·have h0:=j4 h0
  have hle:aO b.data.toList≤aO a.data.toList:=by
   unfold gW at h0
   split at h0
   ·omega
   ·omega
  refine(qM p _).trans (congrArg dD ?_);cases p<;>cases q<;>first|(cases hw;done)|(simp only[iv,cond_true,cond_false];omega)
 ·have h0:=of_decide_eq_false h0
  refine fZ ?_;unfold gW at h0
  split at h0
  ·omega
  ·split at h0<;>omega
 ·have h0:=of_decide_eq_false h0
  have hle:aO a.data.toList≤aO b.data.toList:=by
   unfold gW at h0
   split at h0
   ·omega
   ·split at h0<;>omega
  refine(qM q _).trans (congrArg dD ?_);cases p<;>cases q<;>first|(cases hw;done)|(simp only[iv,cond_true,cond_false];omega)
theorem aez(p q:Bool)(a b:ByteArray)(la:a.data.toList.length≤100000000)(lb:b.data.toList.length≤100000000):(apq p q a b).sat λr=>r=dD (iv p a*iv q b):=by
 unfold apq;refine ah (fZ la) (ah (fZ lb) (av ((qM _ _).trans (congrArg dD ?_))));cases p<;>cases q<;>simp[iv,Int.natCast_mul,Int.neg_mul,Int.mul_neg]
theorem ajA:aN Tryz.prog 241 ajv:=by
 refine aM aj ajx (fn:=Tryz.f241) (c:=codeOf Tryz.f241) (by kernel_rfl) (by kernel_rfl) (aG (fn:=Tryz.f241) (c:=codeOf Tryz.f241) (by kernel_rfl) (by kernel_rfl) (by kernel_rfl)) (L:=bX) (N:=1010) (ak _ _) ?_ ?_
 ·intro args v cs h
  unfold ajv at h
  split at h
  ·cases h;rfl
  ·cases h
 ·intro args v cs h hc
  unfold ajv at h
  split at h
  ·rename_i p a q b
   cases h;have h1:iL p a=true:=hc (iL p a) (by simp);have h2:iL q b=true:=hc (iL q b) (by simp);have hs:=aex p q a b h1 h2;rw[←ajs]at hs;generalize aI Tryz.prog apk bX 1010 Tryz.f241 [.agg [.c (.v (.bool p)),.c (.v (.string a))],.agg [.c (.v (.bool q)),.c (.v (.string b))]]=T at hs⊢;generalize gW (iv p a) (iv q b)=z at hs⊢;exact Tr.bC (λr hr=>⟨by subst hr;rfl,bM.of_eq hr⟩) hs
  ·cases h
theorem ajB:aN Tryz.prog 176 ajw:=by
 refine aM aj ajy (fn:=Tryz.f176) (c:=codeOf Tryz.f176) (by kernel_rfl) (by kernel_rfl) (aG (fn:=Tryz.f176) (c:=codeOf Tryz.f176) (by kernel_rfl) (by kernel_rfl) (by kernel_rfl)) (L:=bX) (N:=1010) (ak _ _) ?_ ?_
 ·intro args v cs h
  unfold ajw at h
  split at h
  ·cases h;rfl
  ·cases h
 ·intro args v cs h hc
  unfold ajw at h
  split at h
  ·rename_i p a q b
   cases h;have h1:iL p a=true:=hc (iL p a) (by simp);have h2:iL q b=true:=hc (iL q b) (by simp);have h3:a.data.toList.length≤100000000:=dec (hc (decide (a.data.toList.length≤100000000)) (by simp));have h4:b.data.toList.length≤100000000:=dec (hc (decide (b.data.toList.length≤100000000)) (by simp));have hs:=aey p q a b h1 h2 h3 h4;rw[←ajt]at hs;generalize aI Tryz.prog apl bX 1010 Tryz.f176 [.agg [.c (.v (.bool p)),.c (.v (.string a))],.agg [.c (.v (.bool q)),.c (.v (.string b))]]=T at hs⊢;generalize iv p a+iv q b=z at hs⊢;exact Tr.bC (λr hr=>⟨by subst hr;rfl,bM.of_eq hr⟩) hs
  ·cases h
theorem O6:aN Tryz.prog 173 aaU:=by
 refine aM aj ajz (fn:=Tryz.f173) (c:=codeOf Tryz.f173) (by kernel_rfl) (by kernel_rfl) (aG (fn:=Tryz.f173) (c:=codeOf Tryz.f173) (by kernel_rfl) (by kernel_rfl) (by kernel_rfl)) (L:=bX) (N:=1010) (ak _ _) ?_ ?_
 ·intro args v cs h
  unfold aaU at h
  split at h
  ·cases h;rfl
  ·cases h
 ·intro args v cs h hc
  unfold aaU at h
  split at h
  ·rename_i p a q b
   cases h;have h1:iL p a=true:=hc (iL p a) (by simp);have h2:iL q b=true:=hc (iL q b) (by simp);have h3:a.data.toList.length≤100000000:=dec (hc (decide (a.data.toList.length≤100000000)) (by simp));have h4:b.data.toList.length≤100000000:=dec (hc (decide (b.data.toList.length≤100000000)) (by simp));have hs:=aez p q a b h3 h4;rw[←aju]at hs;generalize aI Tryz.prog apm bX 1010 Tryz.f173 [.agg [.c (.v (.bool p)),.c (.v (.string a))],.agg [.c (.v (.bool q)),.c (.v (.string b))]]=T at hs⊢;generalize iv p a*iv q b=z at hs⊢;exact Tr.bC (λr hr=>⟨by subst hr;rfl,bM.of_eq hr⟩) hs
  ·cases h
end Go.bI
namespace Go.bI
open Go.Proofs
def aH(d:Nat):List UInt8:=bif Nat.beq d 1 then []else aA d
def Cb(b:ByteArray):Nat:=bif b.data.toList==[]then 1 else aO b.data.toList
def aC(q:Rat):List AV:=[.c (.v (.bool (decide (q.num<0)))),oq (aA q.num.natAbs),.c (.v (.bool false)),oq (aH q.den)]
def nR(q:Rat):AV:= .agg (aC q)
def aK:List AV→Bool
 | [.c (.v (.bool p)),.c (.v (.string a)),.c (.v (.bool q)),.c (.v (.string b))]=>iL p a&& !q&&canon b.data.toList&& !(b.data.toList==[1])&&Nat.beq (Nat.gcd (aO a.data.toList) (Cb b)) 1
 | _=>false
def aB:List AV→Rat
 | [.c (.v (.bool p)),.c (.v (.string a)),.c (.v (.bool q)),.c (.v (.string b))]=>mkRat (iv p a) (Cb b)
 | _=>0
theorem pW(z:Int):iv (decide (z<0)) ⟨⟨aA z.natAbs⟩⟩=z:=by
 unfold iv
 show(bif decide (z<0)then -(aO (aA z.natAbs):Int)else(aO (aA z.natAbs):Int))=z
 rw[jU];by_cases h:z<0
 ·rw[fZ h];simp only[cond_true];omega
 ·rw[jK h];simp only[cond_false];omega
theorem mG(z:Int):iL (decide (z<0)) ⟨⟨aA z.natAbs⟩⟩=true:=by
 unfold iL
 show(canon (aA z.natAbs)&&(!decide (z<0) || !(aA z.natAbs==[])))=true
 rw[xE,wP];by_cases h:z<0
 ·rw[fZ h,jK (by omega)];rfl
 ·rw[jK h];rfl
theorem Ab(d:Nat)(h:d≠0):Cb ⟨⟨aH d⟩⟩=d:=by
 unfold Cb aH
 show(bif (bif Nat.beq d 1 then []else aA d)==[]then 1 else aO (bif Nat.beq d 1 then []else aA d))=d
 cases hd:Nat.beq d 1 with
 | true=>simp only[cond_true];exact(Nat.eq_of_beq_eq_true hd).symm
 | false=>
   simp only[cond_false,jU,wP,jK h]
theorem RD:aA 1=[1]:=by
 rw[tQ (by omega),show(1:Nat)/256=0 from rfl,iD];rfl
theorem VN(d:Nat):canon (aH d)=true:=by
 unfold aH;cases Nat.beq d 1 with
 | true=>rfl
 | false=>exact xE d
theorem ajC(d:Nat):aH d≠ [1]:=by
 unfold aH;cases h:Nat.beq d 1 with
 | true=>simp
 | false=>
   intro hh;simp only[cond_false]at hh;rw[←RD]at hh;have:=Jt hh;subst this;simp at h
theorem iw(q:Rat):aK (aC q)=true:=by
 show(iL (decide (q.num<0)) ⟨⟨aA q.num.natAbs⟩⟩&& !false&&canon (aH q.den)&& !(aH q.den==[1])&&Nat.beq (Nat.gcd (aO (aA q.num.natAbs)) (Cb ⟨⟨aH q.den⟩⟩)) 1)=true
 rw[mG,VN,jU,Ab _ q.den_nz];have h1:(aH q.den==[1])=false:=by
  have:=ajC q.den;simpa using this
 have h2:Nat.gcd q.num.natAbs q.den=1:=q.reduced;rw[h1,h2];rfl
theorem dK(q:Rat):aB (aC q)=q:=by
 show mkRat (iv (decide (q.num<0)) ⟨⟨aA q.num.natAbs⟩⟩) (Cb ⟨⟨aH q.den⟩⟩)=q
 rw[pW,Ab _ q.den_nz];exact Rat.mkRat_self q
theorem dX{l:List AV}(h:aK l=true):l=aC (aB l):=by
 unfold aK at h
 split at h
 ·rename_i p a q b
  simp only[cu,Bool.not_eq_true']at h;obtain⟨⟨⟨⟨h1,h2⟩,h3⟩,h4⟩,h5⟩:=h;subst h2;have h5:=Nat.eq_of_beq_eq_true h5;have hd:Cb b≠0:=by
   unfold Cb;cases hb:(b.data.toList==[])with
   | true=>simp
   | false=>
     simp only[cond_false];intro hz;rw[(kL h3).1 hz]at hb;simp at hb
  have hn:(iv p a).natAbs=aO a.data.toList:=by cases p<;>simp[iv]
  have hc:Nat.gcd (iv p a).natAbs (Cb b)=1:=by rw[hn];exact h5
  have hq:mkRat (iv p a) (Cb b)={num:=iv p a,den:=Cb b,den_nz:=hd,reduced:=hc}:=Rat.mkRat_self {num:=iv p a,den:=Cb b,den_nz:=hd,reduced:=hc}
  show _=aC (mkRat (iv p a) (Cb b))
  rw[hq];have e1:=zT h1;unfold dD at e1;injection e1 with e1;have e2:b.data.toList=aH (Cb b):=by
   unfold Cb aH;cases hb:(b.data.toList==[])with
   | true=>simp only[cond_true];simpa using hb
   | false=>
     simp only[cond_false];cases h1:Nat.beq (aO b.data.toList) 1 with
     | true=>
       have:=Nat.eq_of_beq_eq_true h1;have h6:b.data.toList=[1]:=by rw[←jy b.data.toList h3,this,RD]
       rw[h6]at h4;simp at h4
     | false=>simp only[cond_false];exact(jy b.data.toList h3).symm
  unfold aC oq;rw[←e2]
  show _::_::[_,_]=_
  injection e1 with e3 e4;injection e4 with e4 e5;rw[e3,e4];rfl
 ·cases h
theorem dP(q:Rat):aB [.c (.v (.bool (decide (q.num<0)))),.c (.v (.string ⟨⟨aA q.num.natAbs⟩⟩)),.c (.v (.bool false)),.c (.v (.string ⟨⟨aH q.den⟩⟩))]=q:=dK q
theorem dB(q:Rat):aK [.c (.v (.bool (decide (q.num<0)))),.c (.v (.string ⟨⟨aA q.num.natAbs⟩⟩)),.c (.v (.bool false)),.c (.v (.string ⟨⟨aH q.den⟩⟩))]=true:=iw q
theorem O7(n d:Int)(h:0<d):aC (Rat.divInt n d)=[.c (.v (.bool (decide (n/(Int.gcd n d:Int)<0)))),oq (aA (n/(Int.gcd n d:Int)).natAbs),.c (.v (.bool false)),oq (aH (d/(Int.gcd n d:Int)).natAbs)]:=by
 have e1:(Rat.divInt n d).num=n/(Int.gcd n d:Int):=by
  rw[Rat.num_divInt,Int.sign_eq_one_of_pos h,Int.one_mul,Int.gcd_comm]
 have e2:(Rat.divInt n d).den=(d/(Int.gcd n d:Int)).natAbs:=by
  rw[Rat.den_divInt,if_neg (by omega),Int.gcd_comm];have:=Int.natAbs_ediv_of_dvd (a:=d) (b:=(Int.gcd n d:Int)) (Int.gcd_dvd_right ..);rw[this,Int.natAbs_natCast]
 unfold aC;rw[e1,e2]
def hold(q:Rat):Rat:=match q.num.natAbs with
 | 0=>q
 | _+1=>q
theorem fV(q:Rat):hold q=q:=by unfold hold;split<;>rfl
theorem lM(n:Int):aB [.c (.v (.bool (decide (n<0)))),.c (.v (.string ⟨⟨aA n.natAbs⟩⟩)),.c (.v (.bool false)),.c (.v (.string {data:= #[]}))]=(n:Rat):=dK (n:Rat)
theorem kF(n:Int):aK [.c (.v (.bool (decide (n<0)))),.c (.v (.string ⟨⟨aA n.natAbs⟩⟩)),.c (.v (.bool false)),.c (.v (.string {data:= #[]}))]=true:=iw (n:Rat)
theorem ig:aB [.c (.v (.bool false)),.c (.v (.string {data:= #[]})),.c (.v (.bool false)),.c (.v (.string {data:= #[]}))]=0:=by
 have h:=dK (0:Rat);unfold aC oq at h;rw[show(0:Rat).num.natAbs=0 from rfl,iD]at h;exact h
theorem fQ:aK [.c (.v (.bool false)),.c (.v (.string {data:= #[]})),.c (.v (.bool false)),.c (.v (.string {data:= #[]}))]=true:=by
 have h:=iw (0:Rat);unfold aC oq at h;rw[show(0:Rat).num.natAbs=0 from rfl,iD]at h;exact h
def jY(N D:Nat)(q:Rat):Prop:=q.num.natAbs≤N∧q.den≤D
theorem jY.mono{N D N' D':Nat}{q:Rat}(h:jY N D q)(h1:N≤N')(h2:D≤D'):jY N' D' q:=⟨Nat.le_trans h.1 h1,Nat.le_trans h.2 h2⟩
theorem jY.divInt{n d:Int}{N D:Nat}(h:0<d)(h1:n.natAbs≤N)(h2:d.natAbs≤D):jY N D (Rat.divInt n d):=by
 constructor
 ·rw[Rat.num_divInt,Int.sign_eq_one_of_pos h,Int.one_mul]
  exact Nat.le_trans (Int.natAbs_ediv_le_natAbs _ _) h1
 ·rw[Rat.den_divInt,if_neg (by omega)]
  exact Nat.le_trans (Nat.div_le_self _ _) h2
theorem jY.add{x y:Rat}{N D N' D':Nat}(h:jY N D x)(h':jY N' D' y):jY (N*D'+N'*D) (D*D') (x+y):=by
 have hx:=x.den_pos;have hy:=y.den_pos;rw[Rat.add_def'];refine jY.divInt (n:=x.num*y.den+y.num*x.den) (d:=(x.den*y.den:Nat)) (by have:=Nat.mul_pos hx hy;omega) ?_ ?_
 ·refine Nat.le_trans (Int.natAbs_add_le _ _) ?_
  rw[Int.natAbs_mul,Int.natAbs_mul,Int.natAbs_natCast,Int.natAbs_natCast];exact Nat.add_le_add (Nat.mul_le_mul h.1 h'.2) (Nat.mul_le_mul h'.1 h.2)
 ·rw[Int.natAbs_natCast]
  exact Nat.mul_le_mul h.2 h'.2
theorem jY.mul{x y:Rat}{N D N' D':Nat}(h:jY N D x)(h':jY N' D' y):jY (N*N') (D*D') (x*y):=by
 have hx:=x.den_pos;have hy:=y.den_pos;rw[Rat.mul_def'];refine jY.divInt (n:=x.num*y.num) (d:=(x.den*y.den:Nat)) (by have:=Nat.mul_pos hx hy;omega) ?_ ?_
 ·rw[Int.natAbs_mul]
  exact Nat.mul_le_mul h.1 h'.1
 ·rw[Int.natAbs_natCast]
  exact Nat.mul_le_mul h.2 h'.2
theorem jY.neg{x:Rat}{N D:Nat}(h:jY N D x):jY N D (-x):=⟨by rw[Rat.neg_num,Int.natAbs_neg];exact h.1,by rw[Rat.neg_den];exact h.2⟩
theorem jY.int(n:Int):jY n.natAbs 1 (n:Rat):=⟨Nat.le_refl _,Nat.le_refl _⟩
end Go.bI
