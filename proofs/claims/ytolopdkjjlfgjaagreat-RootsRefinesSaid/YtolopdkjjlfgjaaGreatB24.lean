/- ref01: minus, Sub, Mul, byLimb. -/
import Derived.Test.YtolopdkjjlfgjaaGreatB23
set_option linter.unusedVariables false
noncomputable section
namespace Go.Am.B
open Go Go.Am.N AV Proofs.Tryz IntKind
theorem abO:bf 175 f175:=bg func175
theorem ade:bf 147 f147:=bg func147
theorem abm:bf 85 f85:=bg func85
theorem ac6:bf 156 f156:=bg func156
abbrev pM:List Nat:=[0,1,5,6,7]
abbrev xD (A B c i K:Nat):List AV:=[.mag A,.mag B,.own K 1 0 (nl A),.int .u64 c,.int .i64 i]
abbrev eo (K n:Nat) (o:Nat->Nat):aE:=[(K,⟨true,true,1,n,aB o⟩)]
abbrev IV:Code:=part (aH f175) [1,1,1,0,1,0,0]
theorem aar {A B:Nat}:aI T fY [] 60 pM (before (aH f175) [1,1,1,0,1]) ⟨aU 0 [.mag A,.mag B],[],0⟩=
  let c1:Int:=(↑(nl A):Int);some (ag.aj [(0:Int)<=c1/\c1<=c1/\c1<=2^47/\c1*(↑(4:Nat):Int)<=2^47] (ag.leaf aq.normal ([mag A,mag B,own 12288 1 0 c1.toNat,int .u64 (0:Int),int .i64 (0:Int)],[(12288,au.mk true true 1 c1.toNat fun x=>int .u32 (0:Int))]))):=ah
theorem aiR {A B c i:Nat} {o:Nat->Nat}:aI T fY [16,23,38] 60 pM [IV] ⟨aC pM (xD A B c i 12288),eo 12288 (nl A) o,12289⟩=
  let c13:Int:=(↑c:Int);let c8:Int:=(↑i:Int);let c5:AV:=own 12288 1 0 (nl A);let c4:List AV:=[int .i64 (i64.wrap (c8+1))];let c1:Nat:=c8.toNat;let c11:Prop:=(0:Int)<=c8/\c1<nl A;let c10:List AV:=mag A::mag B::c5::int .u64 (0:Int)::c4;let c9:List AV:=mag A::mag B::c5::int .u64 (1:Int)::c4;let c7:Nat:=c1+0;let c3:Int:=u64.wrap (c13+u64.wrap (↑(aD B c1):Int));let c2:Int:=u64.wrap (↑(aD A c1):Int);let c12:Int:=u64.wrap (c2+4294967296);let c6:List Prop:=[c11,c7<nl A];some (ag.fork (decide (c8<(↑(nl A):Int))) (ag.fork (decide (c8<(↑(nl B):Int))) (ag.aj [(0:Int)<=c8/\c1<nl B] (ag.aj [c11] (ag.fork (decide (c2<c3)) (ag.aj c6 (ag.leaf aq.normal (c9,[(12288,au.mk true true 1 (nl A) fun j=>if(j==c7)=true then int .u32 (u32.wrap (u64.wrap (c12-c3)))else aB o j)]))) (ag.aj c6 (ag.leaf aq.normal (c10,[(12288,au.mk true true 1 (nl A) fun j=>if(j==c7)=true then int .u32 (u32.wrap (u64.wrap (c2-c3)))else aB o j)])))))) (ag.aj [c11] (ag.fork (decide (c2<c13)) (ag.aj c6 (ag.leaf aq.normal (c9,[(12288,au.mk true true 1 (nl A) fun j=>if(j==c7)=true then int .u32 (u32.wrap (u64.wrap (c12-c13)))else aB o j)]))) (ag.aj c6 (ag.leaf aq.normal (c10,[(12288,au.mk true true 1 (nl A) fun j=>if(j==c7)=true then int .u32 (u32.wrap (u64.wrap (c2-c13)))else aB o j)])))))) (ag.leaf (aq.exit 0) ([mag A,mag B,c5,int .u64 c13,int .i64 c8],[(12288,au.mk true true 1 (nl A) fun a=>int .u32 (↑(o a):Int))]))):=ah
theorem Tc {A B c i:Nat} {o:Nat->Nat}:cQ T fY [] 60 f175 (behind (aH f175) [1,1,1,0,1]) ⟨aC pM (xD A B c i 12288),eo 12288 (nl A) o,12289⟩=
  some (ag.aj [fm (nl A) fun i=>aB o (i+0),nl A<2^40] (ag.leaf aq.ret [mag (val (nl A) fun i=>numOf (aB o (i+0)))])):=ah
abbrev l6:List Nat:=[0,1,5,6]
abbrev zy (A B i K:Nat):List AV:=[.mag A,.mag B,.own K 1 0 (nl A+nl B),.int .i64 i]
abbrev uc:List Nat:=[0,1,5,6,7,8]
abbrev DP (A B i c j K:Nat):List AV:=[.mag A,.mag B,.own K 1 0 (nl A+nl B),.int .i64 i,.int .u64 c,.int .i64 j]
abbrev qz:Code:=part (aH f85) [1,1,0,1,0,0]
abbrev vq:Code:=part qz [1,0,0]
theorem SS {A B:Nat}:aI T fY [] 60 l6 (before (aH f85) [1,1,0,1]) ⟨aU 0 [.mag A,.mag B],[],0⟩=
  let c1:Int:=i64.wrap ((↑(nl A):Int)+(↑(nl B):Int));some (ag.aj [(0:Int)<=c1/\c1<=c1/\c1<=2^47/\c1*(↑(4:Nat):Int)<=2^47] (ag.leaf aq.normal ([mag A,mag B,own 24576 1 0 c1.toNat,int .i64 (0:Int)],[(24576,au.mk true true 1 c1.toNat fun x=>int .u32 (0:Int))]))):=ah
theorem RW {A B i:Nat} {o:Nat->Nat}:aI T fY [18] 60 l6 [part qz [0]] ⟨aC l6 (zy A B i 24576),eo 24576 (nl A+nl B) o,24577⟩=
  let c1:List AV×aE:=([mag A,mag B,own 24576 1 0 (nl A+nl B),int .i64 (↑i:Int)],[(24576,au.mk true true 1 (nl A+nl B) fun a=>int .u32 (↑(o a):Int))]);some (ag.fork (decide ((↑i:Int)<(↑(nl A):Int))) (ag.leaf aq.normal c1) (ag.leaf (aq.exit 0) c1)):=ah
theorem ZQ {A B i:Nat} {o:Nat->Nat}:aI T fY [] 60 uc (before vq [1,0,1]) ⟨aC l6 (zy A B i 24576),eo 24576 (nl A+nl B) o,24577⟩=
  some (ag.leaf aq.normal ([mag A,mag B,own 24576 1 0 (nl A+nl B),int .i64 (↑i:Int),int .u64 (0:Int),int .i64 (0:Int)],[(24576,au.mk true true 1 (nl A+nl B) fun a=>int .u32 (↑(o a):Int))])):=ah
theorem ahh {A B i c j:Nat} {o:Nat->Nat}:aI T fY [24] 60 uc [part vq [1,0,1,0,0]] ⟨aC uc (DP A B i c j 24576),eo 24576 (nl A+nl B) o,24577⟩=
  let c7:Int:=(↑i:Int);let c5:Int:=(↑j:Int);let c4:Nat:=nl A+nl B;let c6:AV:=own 24576 1 0 c4;let c1:Int:=i64.wrap (c7+c5);let c3:Nat:=c1.toNat+0;let c8:List Prop:=[(0:Int)<=c1/\c1.toNat<c4,c3<c4];let c2:Int:=u64.wrap ((↑c:Int)+u64.wrap (u64.wrap (u64.wrap (↑(aD A c7.toNat):Int)*u64.wrap (↑(aD B c5.toNat):Int))+u64.wrap (↑(o c3):Int)));some (ag.fork (decide (c5<(↑(nl B):Int))) (ag.aj (((0:Int)<=c7/\c7.toNat<nl A)::((0:Int)<=c5/\c5.toNat<nl B)::c8) (ag.aj c8 (ag.aj [(0:Int)<=32] (ag.leaf aq.normal ([mag A,mag B,c6,int .i64 c7,int .u64 (c2.fdiv ((2:Int)^min (Int.toNat (32:Int)) u64.bits)),int .i64 (i64.wrap (c5+1))],[(24576,au.mk true true 1 c4 fun j=>if(j==c3)=true then int .u32 (u32.wrap c2)else aB o j)]))))) (ag.leaf (aq.exit 2) ([mag A,mag B,c6,int .i64 c7,int .u64 (↑c:Int),int .i64 c5],[(24576,au.mk true true 1 c4 fun a=>int .u32 (↑(o a):Int))]))):=ah
theorem acY {A B i c j:Nat} {o:Nat->Nat}:aI T fY [] 60 l6 (behind vq [1,0,1]) ⟨aC uc (DP A B i c j 24576),eo 24576 (nl A+nl B) o,24577⟩=
  let c3:Nat:=nl A+nl B;let c1:Int:=i64.wrap ((↑i:Int)+(↑(nl B):Int));let c2:Nat:=c1.toNat+0;some (ag.aj [(0:Int)<=c1/\c1.toNat<c3,c2<c3] (ag.leaf aq.normal ([mag A,mag B,own 24576 1 0 c3,int .i64 (↑i:Int)],[(24576,au.mk true true 1 c3 fun j=>if(j==c2)=true then int .u32 (u32.wrap (↑c:Int))else aB o j)]))):=ah
theorem aaS {A B i:Nat} {o:Nat->Nat}:aI T fY [] 60 l6 [part qz [1,1]] ⟨aC l6 (zy A B i 24576),eo 24576 (nl A+nl B) o,24577⟩=
  some (ag.leaf aq.normal ([mag A,mag B,own 24576 1 0 (nl A+nl B),int .i64 (i64.wrap ((↑i:Int)+1))],[(24576,au.mk true true 1 (nl A+nl B) fun a=>int .u32 (↑(o a):Int))])):=ah
theorem RP {A B i:Nat} {o:Nat->Nat}:cQ T fY [] 60 f85 (behind (aH f85) [1,1,0,1]) ⟨aC l6 (zy A B i 24576),eo 24576 (nl A+nl B) o,24577⟩=
  some (ag.aj [fm (nl A+nl B) fun i=>aB o (i+0),nl A+nl B<2^40] (ag.leaf aq.ret [mag (val (nl A+nl B) fun i=>numOf (aB o (i+0)))])):=ah
abbrev sY:List Nat:=[0,1,6,7,8]
abbrev Hv (A b r k K:Nat):List AV:=[.mag A,.int .u32 b,.own K 1 0 (nl A),.int .u64 r,.int .i64 ((k:Int)-1)]
abbrev I8:Code:=part (aH f156) [1,1,1,0,1,0,0]
theorem Xd {A b:Nat}:aI T fY [] 60 sY (before (aH f156) [1,1,1,0,1]) ⟨aU 0 [.mag A,.int .u32 b],[],0⟩=
  let c1:Int:=(↑(nl A):Int);some (ag.aj [(0:Int)<=c1/\c1<=c1/\c1<=2^47/\c1*(↑(4:Nat):Int)<=2^47] (ag.leaf aq.normal ([mag A,int .u32 (↑b:Int),own 16384 1 0 c1.toNat,int .u64 (0:Int),int .i64 (i64.wrap (c1-1))],[(16384,au.mk true true 1 c1.toNat fun x=>int .u32 (0:Int))]))):=ah
theorem Ta {A b r k:Nat} {o:Nat->Nat}:aI T fY [16] 60 sY [I8] ⟨aC sY (Hv A b r k 16384),eo 16384 (nl A) o,16385⟩=
  let c7:AV:=int .u32 (↑b:Int);let c4:AV:=own 16384 1 0 (nl A);let c3:Int:=u64.wrap (↑b:Int);let c2:Int:=(↑k:Int)-1;let c6:Prop:=(0:Int)<=c2/\c2.toNat<nl A;let c5:Nat:=c2.toNat+0;let c1:Int:=u64.wrap (↑(BitVec.ofInt u64.bits (u64.wrap ((↑r:Int)*2^min (Int.toNat (32:Int)) u64.bits))|||BitVec.ofInt u64.bits (u64.wrap (↑(aD A c2.toNat):Int))).toNat:Int);some (ag.fork (decide (c2>=0)) (ag.aj [(0:Int)<=32,c6] (ag.aj [c3≠(0:Int),c6,c5<nl A] (ag.aj [c3≠(0:Int)] (ag.leaf aq.normal ([mag A,c7,c4,int .u64 (c1.tmod c3),int .i64 (i64.wrap (c2-1))],[(16384,au.mk true true 1 (nl A) fun j=>if(j==c5)=true then int .u32 (u32.wrap (u64.wrap (c1.tdiv c3)))else aB o j)]))))) (ag.leaf (aq.exit 0) ([mag A,c7,c4,int .u64 (↑r:Int),int .i64 c2],[(16384,au.mk true true 1 (nl A) fun a=>int .u32 (↑(o a):Int))]))):=ah
theorem Zp {A b r k:Nat} {o:Nat->Nat}:cQ T fY [] 60 f156 (behind (aH f156) [1,1,1,0,1]) ⟨aC sY (Hv A b r k 16384),eo 16384 (nl A) o,16385⟩=
  some (ag.aj [fm (nl A) fun i=>aB o (i+0),nl A<2^40] (ag.leaf aq.ret [mag (val (nl A) fun i=>numOf (aB o (i+0))),int .u32 (u32.wrap (↑r:Int))])):=ah
def LZ:bk:=[(84,xg),(175,ow (fun A B=>.mag (A-B)) fun A B=>[B<=A,nl A<2^40])]
theorem ZC {A B:Nat}:b9 T LZ [9] 60 f147 (aH f147) ⟨aU 0 [.mag A,.mag B],[],0⟩=
  let c1:Nat:=2^40;some (ag.aj [nl A<c1,nl B<c1] (ag.fork (decide (dO A B<0)) (ag.leaf aq.ret [nil,int .i64 (7:Int)]) (ag.aj [B<=A,nl A<c1] (ag.leaf aq.ret [mag (A-B),int .i64 (0:Int)])))):=ah
theorem iU {K n nx:Nat} {o:Nat->Nat} (h:K<nx):jv nx (eo K n o):=⟨⟨h,fun _ _=>rfl⟩,trivial⟩
theorem TD {vo va vb ai x c b' un u' B:Nat} (hx:x=c+b') (hu:un+x=ai+4294967296*u') (h:va+c*B=vo+vb):va+ai*B+u'*(4294967296*B)=vo+un*B+(vb+b'*B):=by
 have e:(un+x)*B=(ai+4294967296*u')*B:=by rw[hu]
 subst hx
 grind
theorem PN {A B:Nat} (hAB:B<=A) (hA:nl A<2^40) (K:Nat):aQ P 175 K [.mag A,.mag B] [] (aL (.mag (A-B)) []):=by
 have hB:nl B<=nl A:=iW hAB
 refine iw hT abO rfl aX rfl (fun _ c0 h0=>?_) K []
 refine ax.hole [1,1,1,0,1] ah (aG.bO hT gh hm 60 pM aar ah ?_)
 simp only[ag.all,az,bJ]
 refine⟨aa,fun s' hv=>cZ ?_⟩
 refine ax.jg (i:=0) (y:=IV) ah pM 12289 (h0 _) (fun p:Nat×Nat×(Nat->Nat)=>xD A B p.2.1 p.1 12288) (fun p=>eo 12288 (nl A) p.2.2) (fun _=>rfl) (fun _=>iU aa)
  (fun p=>p.1<=nl A/\p.2.1<=1/\(∀j,j<nl A->p.2.2 j<2^32)/\val p.1 (aD A)+p.2.1*2^(32*p.1)=val p.1 p.2.2+val p.1 (aD B))
  (fun p=>nl A-p.1) (0,0,fun _=>0) hv ⟨by simp,by simp,fun _ _=>by simp,by simp[val]⟩ ?_
 rintro⟨i,c,o⟩ ⟨hi,hc,ho,hval⟩
 simp only at hi hc ho hval
 refine ax.bO hT gh hm 60 pM aiR ah ?_
 have la:=eZ (N:=A) (i:=i)
 have lb:=eZ (N:=B) (i:=i)
 have wa:u64.wrap (aD A i:Int)=((aD A i:Nat):Int):=cK aa aa
 have wb:u64.wrap (aD B i:Int)=((aD B i:Nat):Int):=cK aa aa
 have w1:u64.wrap ((c:Int)+((aD B i:Nat):Int))=((c+aD B i:Nat):Int):=by rw[cK aa aa];omega
 have w2:u64.wrap (((aD A i:Nat):Int)+4294967296)=((aD A i+4294967296:Nat):Int):=by rw[cK aa aa];omega
 have w3:i64.wrap ((i:Int)+1)=((i+1:Nat):Int):=by rw[wrap_i64 aa aa];omega
 simp only[ag.all,az,bB,bD,bJ,Nat.add_zero,beq_iff_eq]
 rw[wa,wb,w1,w2,w3]
 -- what is put down
 have next:∀{s':aN} {x u':Nat} {v:Int},i<nl A->x=c+aD B i->u'<=1->x<=aD A i+4294967296*u'->aD A i+4294967296*u'<x+4294967296->v=((aD A i+4294967296*u'-x:Nat):Int)->
   bE pM s'=some (xD A B u' (i+1) 12288,[(12288,⟨true,true,1,nl A,fun j=>if j=i then .int .u32 (u32.wrap (u64.wrap v))else aB o j⟩)])->
   ∃k:Nat×Nat×(Nat->Nat),bE pM s'=some (xD A B k.2.1 k.1 12288,eo 12288 (nl A) k.2.2)/\(k.1<=nl A/\k.2.1<=1/\(∀j,j<nl A->k.2.2 j<2^32)/\val k.1 (aD A)+k.2.1*2^(32*k.1)=val k.1 k.2.2+val k.1 (aD B))/\nl A-k.1<nl A-i:=by
  intro s' x u' v hin hx hu1 h1 h2 hv1 hv
  refine⟨(i+1,u',cV o i (aD A i+4294967296*u'-x)),fe hv rfl ?_,⟨by simp only;omega,hu1,js aa ho,?_⟩,by simp only;omega⟩
  ·simp only[eo]
   congr 3
   funext k
   exact iY (by rw[hv1,cK aa aa,wrap_u32 aa aa]) k
  ·simp only
   rw[rV,val,val,jf]
   exact TD (b':=aD B i) (x:=x) hx aa hval
 refine⟨fun hb=>⟨fun hb2=>⟨aa,aa,fun h3=>⟨⟨aa,aa⟩,fun s' hv=>?_⟩,fun h3=>⟨⟨aa,aa⟩,fun s' hv=>?_⟩⟩,fun hb2=>⟨aa,fun h3=>⟨⟨aa,aa⟩,fun s' hv=>?_⟩,fun h3=>⟨⟨aa,aa⟩,fun s' hv=>?_⟩⟩⟩,fun hb s' hv=>gB (cZ ?_)⟩
 ·exact next (u':=1) aa rfl aa aa aa aa hv
 ·exact next (u':=0) aa rfl aa aa aa aa hv
 ·exact next (u':=1) (x:=c) aa (by rw[kG (A:=B) aa];rfl) aa aa aa aa hv
 ·exact next (u':=0) (x:=c) aa (by rw[kG (A:=B) aa];rfl) aa aa aa aa hv
 ·have hin:i=nl A:=aa
  refine aG.lO hT gh hm 60 hv (h0 _) rfl (iU aa) Tc ah ah ?_
  simp only[ag.all,az,Nat.add_zero,kY]
  refine⟨⟨iE ho,hA⟩,fk (congrArg AV.mag ?_)⟩
  rw[hin,iB,rM (eA.1 hB)]at hval
  have hlt:=g7 ho
  have:c=0:=by
   rcases Nat.eq_zero_or_pos c with h|h
   ·exact h
   ·exfalso
    have h1:1*2^(32*nl A)<=c*2^(32*nl A):=Nat.mul_le_mul_right _ h
    omega
  rw[this]at hval
  omega
theorem ahX:bR P LZ:=aJ Cw (aJ (qE fun h=>PN h.1 h.2) cz)
theorem Z3 {A B:Nat} (hA:nl A<2^40) (hB:nl B<2^40) (K:Nat):aQ P 147 K [.mag A,.mag B] [] (aL (.tuple [.mag (A-B),.int .i64 (if A<B then 7 else 0)]) []):=by
 refine ck hT ahX hm ade rfl aX rfl 60 ZC (fun _=>?_) K []
 simp only[ag.all,az,bB,bD,De]
 refine⟨⟨hA,hB⟩,fun h=>⟨?_,cw (by rw[if_pos h]),trivial⟩,fun h=>⟨⟨aa,hA⟩,.refl _,cw (by rw[if_neg h]),trivial⟩⟩
 rw[Nat.sub_eq_zero_of_le aa];exact l9
def Mo:Spec:=ow (fun A B=>.tuple [.mag (A-B),.int .i64 (if A<B then 7 else 0)]) E4
theorem agB:aY P Mo 147:=qE fun h=>Z3 h.1 h.2
theorem aa5 {A B:Nat} (hA:nl A<2^39) (hB:nl B<2^39) (K:Nat):aQ P 85 K [.mag A,.mag B] [] (aL (.mag (A*B)) []):=by
 refine iw hT abm rfl aX rfl (fun _ c0 h0=>?_) K []
 refine ax.hole [1,1,0,1] ah (aG.bO hT gh hm 60 l6 SS ah ?_)
 have hw:i64.wrap ((nl A:Int)+(nl B:Int))=((nl A+nl B:Nat):Int):=fS aa aa
 rw[hw]
 simp only[ag.all,az,bJ]
 refine⟨aa,fun s' hv=>cZ ?_⟩
 refine ax.jg (i:=0) (y:=qz) ah l6 24577 (h0 _) (fun p:Nat×(Nat->Nat)=>zy A B p.1 24576) (fun p=>eo 24576 (nl A+nl B) p.2) (fun _=>rfl) (fun _=>iU aa)
  (fun p=>p.1<=nl A/\(∀j,j<nl A+nl B->p.2 j<2^32)/\(∀j,p.1+nl B<=j->p.2 j=0)/\val (nl A+nl B) p.2=val p.1 (aD A)*B)
  (fun p=>nl A-p.1) (0,fun _=>0) hv ⟨by simp,fun _ _=>by simp,fun _ _=>rfl,?_⟩ ?_
 ·simp only
  rw[val_zero fun _ _=>rfl]
  simp[val]
 rintro⟨i,o⟩ ⟨hi,ho,ho0,hval⟩
 simp only at hi ho ho0 hval
 refine ax.hole [0] ah (show ax P c0 f85.ntmps (part qz [0]) _ _ from ax.bO hT gh hm 60 l6 RW ah ?_)
 simp only[ag.all,bB,bD]
 refine⟨fun h1 s' hv=>cZ ?_,fun h1 s' hv=>uv (gB (cZ ?_))⟩
 ·have hin:i<nl A:=aa
  have la:=eZ (N:=A) (i:=i)
  show aG P c0 f85.ntmps [part qz [1]] s' _
  refine ax.hole [0] ah ?_
  show ax P c0 f85.ntmps (part qz [1,0]) s' _
  refine ax.rO (i:=1) (y:=vq) ah (ax.lz hv (h0 24577) rfl (iU aa) ?_)
  refine ax.hole [1,0,1] ah (aG.bO hT gh hm 60 uc ZQ ah fun s' hv=>cZ ?_)
  refine ax.jg (i:=2) (y:=part vq [1,0,1,0,0]) ah uc 24577 (h0 _) (fun p:Nat×Nat×(Nat->Nat)=>DP A B i p.2.1 p.1 24576) (fun p=>eo 24576 (nl A+nl B) p.2.2) (fun _=>rfl) (fun _=>iU aa)
   (fun p=>p.1<=nl B/\p.2.1<2^32/\(∀j,j<nl A+nl B->p.2.2 j<2^32)/\(∀j,i+nl B<=j->p.2.2 j=0)/\val (nl A+nl B) p.2.2+p.2.1*2^(32*(i+p.1))=val i (aD A)*B+aD A i*val p.1 (aD B)*2^(32*i))
   (fun p=>nl B-p.1) (0,0,o) hv ⟨by simp,by simp,ho,ho0,by simp[val,hval]⟩ ?_
  rintro⟨j,c,o⟩ ⟨hj,hc,ho,ho0,hval⟩
  simp only at hj hc ho ho0 hval
  refine ax.bO hT gh hm 60 uc ahh ah ?_
  have hij:i64.wrap ((i:Int)+(j:Int))=((i+j:Nat):Int):=fS aa aa
  have lb:=eZ (N:=B) (i:=j)
  simp only[ag.all,az,bB,bD,hij,bJ,Nat.add_zero,beq_iff_eq]
  refine⟨fun h2=>?_,fun h2 s' hv=>gB ?_⟩
  ·have hjm:j<nl B:=aa
   obtain⟨m1,m2,m3⟩:=QJ hc la lb (ho (i+j) aa)
   rw[m1]
   refine⟨⟨aa,aa,aa,aa⟩,⟨aa,aa⟩,aa,fun s' hv=>⟨(j+1,(c+aD A i*aD B j+o (i+j))/4294967296,cV o (i+j) ((c+aD A i*aD B j+o (i+j))%4294967296)),fe hv ?_ ?_,⟨by simp only;omega,m3,js aa ho,fun k hk=>?_,?_⟩,by simp only;omega⟩⟩
   ·rw[mR,fS (a:=(j:Int)+1) (n:=j+1) aa aa]
    simp only[DP,List.cons.injEq,AV.int.injEq,and_true,true_and]
    omega
   ·simp only[eo]
    congr 3
    funext k
    exact iY (by rw[kX]) k
   ·exact(gX aa).trans (ho0 k hk)
   ·simp only
    rw[show 32*(i+(j+1))=32*((i+j)+1) by omega,jf,val]
    have hset:=Fl (o:=o) (x:=(c+aD A i*aD B j+o (i+j))%4294967296) (show i+j<nl A+nl B by omega)
    exact QL rfl (Nat.div_add_mod _ _) hset (by rw[<-Nat.pow_add];congr 1;omega) hval
  ·show aG P c0 f85.ntmps (behind vq [1,0,1]) s' _
   have hjm:j=nl B:=aa
   have hib:i64.wrap ((i:Int)+(nl B:Int))=((i+nl B:Nat):Int):=fS aa aa
   refine aG.gl hT gh hm 60 hv (h0 24577) rfl (iU aa) l6 acY ah ah ?_
   rw[hib]
   simp only[ag.all,az,bJ,Nat.add_zero,beq_iff_eq]
   refine⟨⟨aa,aa⟩,fun s' hv=>?_⟩
   have hf:(fun k=>if k=i+nl B then AV.int .u32 (u32.wrap (c:Int))else aB o k)=aB (cV o (i+nl B) c):=by
    funext k
    exact iY (wrap_u32 aa aa) k
   rw[hf]at hv
   show aG P c0 f85.ntmps [part qz [1,1]] s' _
   refine aG.gl hT gh hm 60 hv (h0 24577) rfl (iU aa) l6 aaS ah ah fun s' hv=>cZ ?_
   refine⟨(i+1,cV o (i+nl B) c),fe hv ?_ rfl,⟨by simp only;omega,js hc ho,fun k hk=>(gX (by simp only at hk;omega)).trans (ho0 k (by simp only at hk;omega)),?_⟩,by simp only;omega⟩
   ·rw[fS (a:=(i:Int)+1) (n:=i+1) aa aa]
   ·simp only
    rw[hjm,iB]at hval
    rw[r7 aa (ho0 _ aa),hval,val,Nat.add_mul,Nat.mul_assoc,Nat.mul_assoc,Nat.mul_comm B]
 ·have hin:i=nl A:=aa
  refine aG.lO hT gh hm 60 hv (h0 _) rfl (iU aa) RP ah ah ?_
  simp only[ag.all,az,Nat.add_zero,kY]
  refine⟨⟨iE ho,aa⟩,fk (congrArg AV.mag ?_)⟩
  rw[hval,hin,iB]
def DS:Spec:=ow (fun A B=>.mag (A*B)) fun A B=>[nl A<2^39,nl B<2^39]
theorem Rx:aY P DS 85:=qE fun h=>aa5 h.1 h.2
theorem Mk {v b r A:Nat} (h:v*b+r=A) (hr:r<b):A/b=v/\A%b=r:=by
 subst h
 refine⟨?_,?_⟩
 ·rw[Nat.mul_comm,Nat.mul_add_div aa,Nat.div_eq_of_lt hr,Nat.add_zero]
 ·rw[Nat.mul_comm,Nat.mul_add_mod,Nat.mod_eq_of_lt hr]
theorem Tp {A b:Nat} (hA:nl A<2^40) (hb0:0<b) (hb32:b<2^32) (K:Nat):aQ P 156 K [.mag A,.int .u32 b] [] (aL (.tuple [.mag (A/b),.int .u32 (A%b:Nat)]) []):=by
 refine iw hT ac6 rfl aX rfl (fun _ c0 h0=>?_) K []
 refine ax.hole [1,1,1,0,1] ah (aG.bO hT gh hm 60 sY Xd ah ?_)
 simp only[ag.all,az,bJ]
 refine⟨aa,fun s' hv=>cZ ?_⟩
 refine ax.jg (i:=0) (y:=I8) ah sY 16385 (h0 _) (fun p:Nat×Nat×(Nat->Nat)=>Hv A b p.2.1 p.1 16384) (fun p=>eo 16384 (nl A) p.2.2) (fun _=>rfl) (fun _=>iU aa)
  (fun p=>p.1<=nl A/\p.2.1<b/\(∀j,j<nl A->p.2.2 j<2^32)/\(∀j,j<p.1->p.2.2 j=0)/\val (nl A) p.2.2*b+p.2.1*2^(32*p.1)+val p.1 (aD A)=A)
  (fun p=>p.1) (nl A,0,fun _=>0) (fe hv (by rw[wrap_i64 aa aa];rfl) rfl) ⟨by simp,hb0,fun j _=>by simp,fun j _=>rfl,?_⟩ ?_
 ·simp only
  rw[val_zero fun _ _=>rfl,iB]
  simp
 rintro⟨k,r,o⟩ ⟨hk,hr,ho,ho0,hval⟩
 simp only at hk hr ho ho0 hval
 refine ax.bO hT gh hm 60 sY Ta ah ?_
 simp only[ag.all,az,bB,bD,Nat.add_zero,beq_iff_eq]
 have hbw:u64.wrap (b:Int)=(b:Int):=cK aa aa
 refine⟨fun hb=>?_,fun hb s' hv=>gB (cZ ?_)⟩
 ·obtain⟨j,rfl⟩:∃j,k=j+1:=⟨k-1,aa⟩
  have e:(((j+1:Nat):Int)-1).toNat=j:=aa
  have hzj:=eZ (N:=A) (i:=j)
  have fP:=uI (a:=r) (b:=aD A j) aa hzj
  rw[e,fP,hbw]
  have hq1:(r*4294967296+aD A j)/b<2^32:=by
   rw[Nat.div_lt_iff_lt_mul hb0]
   have:(r+1)*4294967296<=b*4294967296:=Nat.mul_le_mul_right _ hr
   omega
  have hdm:=Nat.div_add_mod (r*4294967296+aD A j) b
  refine⟨⟨aa,aa,aa⟩,⟨aa,⟨aa,aa⟩,aa⟩,aa,fun s' hv=>⟨(j,(r*4294967296+aD A j)%b,cV o j ((r*4294967296+aD A j)/b)),fe hv ?_ ?_,⟨by simp only;omega,Nat.mod_lt _ hb0,js hq1 ho,fun i hi=>?_,?_⟩,by simp only;omega⟩⟩
  ·rw[<-Int.ofNat_tmod,wrap_i64 aa aa,show((j+1:Nat):Int)-1-1=(j:Int)-1 by omega]
  ·simp only[eo]
   congr 3
   funext i
   refine iY ?_ i
   rw[<-Int.ofNat_tdiv]
   clear hdm
   generalize (r*4294967296+aD A j)/b=q at hq1 ⊢
   rw[cK aa aa,wrap_u32 aa aa]
  ·exact(gX (by simp only at hi;omega)).trans (ho0 i (by simp only at hi;omega))
  ·simp only
   rw[r7 aa (ho0 j aa)]
   rw[jf,val]at hval
   exact MI hval hdm.symm
 ·have hk0:k=0:=aa
  have hv2:val (nl A) o*b+r=A:=by rw[hk0]at hval;simpa [val]using hval
  refine aG.lO hT gh hm 60 hv (h0 _) rfl (iU aa) Zp ah ah ?_
  simp only[ag.all,az,Nat.add_zero,kY]
  obtain⟨hdiv,hmod⟩:=Mk hv2 hr
  exact⟨⟨iE ho,hA⟩,fk (congrArg AV.mag hdiv.symm),cw (by rw[hmod,wrap_u32 aa aa]),trivial⟩
def EE:Spec:=cu fun l=>match l with
 |[a,.int .u32 b]=>match jJ a with
  |some A=>some (aL (.tuple [.mag (A/b.toNat),.int .u32 (A%b.toNat:Nat)]) [nl A<2^40,0<b,b<2^32])
  |none=>none
 |_=>none
theorem O4:aY P EE 156:=by
 refine cW fun K args r hk hs _=>?_
 split at hs
 ·rename_i a b
  split at hs
  ·rename_i A hA
   simp only[ay]at hs
   subst hs
   intro need
   obtain⟨h1,h2,h3⟩:nl A<2^40/\0<b/\b<2^32:=need
   obtain⟨b,rfl⟩:=Int.eq_ofNat_of_zero_le (Int.le_of_lt h2)
   exact gW (Tp h1 aa aa K) hk ⟨mY hA,.refl _,trivial⟩ [] trivial
  ·simp at hs
 ·simp at hs
end Go.Am.B
