/- ref01: minus, Sub, Mul, byLimb. -/
import Derived.Test.YtgfjdngnneoeoaaGreatB23
set_option linter.unusedVariables false
noncomputable section
namespace Go.Am.B
open Go Go.Am.N AV Proofs.Tryz IntKind
theorem U6:aW 168 f168:=aN func168
theorem Vx:aW 126 f126:=aN func126
theorem aab:aW 106 f106:=aN func106
theorem TK:aW 122 f122:=aN func122
abbrev ny:List Nat:=[0,1,5,6,7]
abbrev wg (A B c i K:Nat):List AV:=[.mag A,.mag B,.own K 1 0 (nl A),.int .u64 c,.int .i64 i]
abbrev dn (K n:Nat) (o:Nat->Nat):aD:=[(K,⟨true,true,1,n,aA o⟩)]
abbrev G6:Code:=part (aF f168) [1,1,1,0,1,0,0]
theorem Sj {A B:Nat}:aM T e9 [] 60 ny (before (aF f168) [1,1,1,0,1]) ⟨aT 0 [.mag A,.mag B],[],0⟩=
  let c1:Int:=(↑(nl A):Int);some (ag.aj [(0:Int)<=c1/\c1<=c1/\c1<=2^47/\c1*(↑(4:Nat):Int)<=2^47] (ag.leaf ak.normal ([mag A,mag B,own 12288 1 0 c1.toNat,int .u64 (0:Int),int .i64 (0:Int)],[(12288,az.mk true true 1 c1.toNat fun x=>int .u32 (0:Int))]))):=ah
theorem PC {A B c i:Nat} {o:Nat->Nat}:aM T e9 [16,23,38] 60 ny [G6] ⟨aH ny (wg A B c i 12288),dn 12288 (nl A) o,12289⟩=
  let c13:Int:=(↑c:Int);let c8:Int:=(↑i:Int);let c5:AV:=own 12288 1 0 (nl A);let c4:List AV:=[int .i64 (i64.wrap (c8+1))];let c1:Nat:=c8.toNat;let c11:Prop:=(0:Int)<=c8/\c1<nl A;let c10:List AV:=mag A::mag B::c5::int .u64 (0:Int)::c4;let c9:List AV:=mag A::mag B::c5::int .u64 (1:Int)::c4;let c7:Nat:=c1+0;let c3:Int:=u64.wrap (c13+u64.wrap (↑(aB B c1):Int));let c2:Int:=u64.wrap (↑(aB A c1):Int);let c12:Int:=u64.wrap (c2+4294967296);let c6:List Prop:=[c11,c7<nl A];some (ag.fork (decide (c8<(↑(nl A):Int))) (ag.fork (decide (c8<(↑(nl B):Int))) (ag.aj [(0:Int)<=c8/\c1<nl B] (ag.aj [c11] (ag.fork (decide (c2<c3)) (ag.aj c6 (ag.leaf ak.normal (c9,[(12288,az.mk true true 1 (nl A) fun j=>if(j==c7)=true then int .u32 (u32.wrap (u64.wrap (c12-c3)))else aA o j)]))) (ag.aj c6 (ag.leaf ak.normal (c10,[(12288,az.mk true true 1 (nl A) fun j=>if(j==c7)=true then int .u32 (u32.wrap (u64.wrap (c2-c3)))else aA o j)])))))) (ag.aj [c11] (ag.fork (decide (c2<c13)) (ag.aj c6 (ag.leaf ak.normal (c9,[(12288,az.mk true true 1 (nl A) fun j=>if(j==c7)=true then int .u32 (u32.wrap (u64.wrap (c12-c13)))else aA o j)]))) (ag.aj c6 (ag.leaf ak.normal (c10,[(12288,az.mk true true 1 (nl A) fun j=>if(j==c7)=true then int .u32 (u32.wrap (u64.wrap (c2-c13)))else aA o j)])))))) (ag.leaf (ak.exit 0) ([mag A,mag B,c5,int .u64 c13,int .i64 c8],[(12288,az.mk true true 1 (nl A) fun a=>int .u32 (↑(o a):Int))]))):=ah
theorem WE {A B c i:Nat} {o:Nat->Nat}:cR T e9 [] 60 f168 (behind (aF f168) [1,1,1,0,1]) ⟨aH ny (wg A B c i 12288),dn 12288 (nl A) o,12289⟩=
  some (ag.aj [ee (nl A) fun i=>aA o (i+0),nl A<2^40] (ag.leaf ak.ret [mag (val (nl A) fun i=>numOf (aA o (i+0)))])):=ah
abbrev kJ:List Nat:=[0,1,5,6]
abbrev uB (A B i K:Nat):List AV:=[.mag A,.mag B,.own K 1 0 (nl A+nl B),.int .i64 i]
abbrev qZ:List Nat:=[0,1,5,6,7,8]
abbrev yV (A B i c j K:Nat):List AV:=[.mag A,.mag B,.own K 1 0 (nl A+nl B),.int .i64 i,.int .u64 c,.int .i64 j]
abbrev oH:Code:=part (aF f106) [1,1,0,1,0,0]
abbrev tL:Code:=part oH [1,0,0]
theorem Pd {A B:Nat}:aM T e9 [] 60 kJ (before (aF f106) [1,1,0,1]) ⟨aT 0 [.mag A,.mag B],[],0⟩=
  let c1:Int:=i64.wrap ((↑(nl A):Int)+(↑(nl B):Int));some (ag.aj [(0:Int)<=c1/\c1<=c1/\c1<=2^47/\c1*(↑(4:Nat):Int)<=2^47] (ag.leaf ak.normal ([mag A,mag B,own 24576 1 0 c1.toNat,int .i64 (0:Int)],[(24576,az.mk true true 1 c1.toNat fun x=>int .u32 (0:Int))]))):=ah
theorem Rj {A B i:Nat} {o:Nat->Nat}:aM T e9 [18] 60 kJ [part oH [0]] ⟨aH kJ (uB A B i 24576),dn 24576 (nl A+nl B) o,24577⟩=
  let c1:List AV×aD:=([mag A,mag B,own 24576 1 0 (nl A+nl B),int .i64 (↑i:Int)],[(24576,az.mk true true 1 (nl A+nl B) fun a=>int .u32 (↑(o a):Int))]);some (ag.fork (decide ((↑i:Int)<(↑(nl A):Int))) (ag.leaf ak.normal c1) (ag.leaf (ak.exit 0) c1)):=ah
theorem RQ {A B i:Nat} {o:Nat->Nat}:aM T e9 [] 60 qZ (before tL [1,0,1]) ⟨aH kJ (uB A B i 24576),dn 24576 (nl A+nl B) o,24577⟩=
  some (ag.leaf ak.normal ([mag A,mag B,own 24576 1 0 (nl A+nl B),int .i64 (↑i:Int),int .u64 (0:Int),int .i64 (0:Int)],[(24576,az.mk true true 1 (nl A+nl B) fun a=>int .u32 (↑(o a):Int))])):=ah
theorem U8 {A B i c j:Nat} {o:Nat->Nat}:aM T e9 [24] 60 qZ [part tL [1,0,1,0,0]] ⟨aH qZ (yV A B i c j 24576),dn 24576 (nl A+nl B) o,24577⟩=
  let c7:Int:=(↑i:Int);let c5:Int:=(↑j:Int);let c4:Nat:=nl A+nl B;let c6:AV:=own 24576 1 0 c4;let c1:Int:=i64.wrap (c7+c5);let c3:Nat:=c1.toNat+0;let c8:List Prop:=[(0:Int)<=c1/\c1.toNat<c4,c3<c4];let c2:Int:=u64.wrap ((↑c:Int)+u64.wrap (u64.wrap (u64.wrap (↑(aB A c7.toNat):Int)*u64.wrap (↑(aB B c5.toNat):Int))+u64.wrap (↑(o c3):Int)));some (ag.fork (decide (c5<(↑(nl B):Int))) (ag.aj (((0:Int)<=c7/\c7.toNat<nl A)::((0:Int)<=c5/\c5.toNat<nl B)::c8) (ag.aj c8 (ag.aj [(0:Int)<=32] (ag.leaf ak.normal ([mag A,mag B,c6,int .i64 c7,int .u64 (c2.fdiv ((2:Int)^min (Int.toNat (32:Int)) u64.bits)),int .i64 (i64.wrap (c5+1))],[(24576,az.mk true true 1 c4 fun j=>if(j==c3)=true then int .u32 (u32.wrap c2)else aA o j)]))))) (ag.leaf (ak.exit 2) ([mag A,mag B,c6,int .i64 c7,int .u64 (↑c:Int),int .i64 c5],[(24576,az.mk true true 1 c4 fun a=>int .u32 (↑(o a):Int))]))):=ah
theorem PF {A B i c j:Nat} {o:Nat->Nat}:aM T e9 [] 60 kJ (behind tL [1,0,1]) ⟨aH qZ (yV A B i c j 24576),dn 24576 (nl A+nl B) o,24577⟩=
  let c3:Nat:=nl A+nl B;let c1:Int:=i64.wrap ((↑i:Int)+(↑(nl B):Int));let c2:Nat:=c1.toNat+0;some (ag.aj [(0:Int)<=c1/\c1.toNat<c3,c2<c3] (ag.leaf ak.normal ([mag A,mag B,own 24576 1 0 c3,int .i64 (↑i:Int)],[(24576,az.mk true true 1 c3 fun j=>if(j==c2)=true then int .u32 (u32.wrap (↑c:Int))else aA o j)]))):=ah
theorem Yf {A B i:Nat} {o:Nat->Nat}:aM T e9 [] 60 kJ [part oH [1,1]] ⟨aH kJ (uB A B i 24576),dn 24576 (nl A+nl B) o,24577⟩=
  some (ag.leaf ak.normal ([mag A,mag B,own 24576 1 0 (nl A+nl B),int .i64 (i64.wrap ((↑i:Int)+1))],[(24576,az.mk true true 1 (nl A+nl B) fun a=>int .u32 (↑(o a):Int))])):=ah
theorem U3 {A B i:Nat} {o:Nat->Nat}:cR T e9 [] 60 f106 (behind (aF f106) [1,1,0,1]) ⟨aH kJ (uB A B i 24576),dn 24576 (nl A+nl B) o,24577⟩=
  some (ag.aj [ee (nl A+nl B) fun i=>aA o (i+0),nl A+nl B<2^40] (ag.leaf ak.ret [mag (val (nl A+nl B) fun i=>numOf (aA o (i+0)))])):=ah
abbrev qk:List Nat:=[0,1,6,7,8]
abbrev B1 (A b r k K:Nat):List AV:=[.mag A,.int .u32 b,.own K 1 0 (nl A),.int .u64 r,.int .i64 ((k:Int)-1)]
abbrev LI:Code:=part (aF f122) [1,1,1,0,1,0,0]
theorem Pw {A b:Nat}:aM T e9 [] 60 qk (before (aF f122) [1,1,1,0,1]) ⟨aT 0 [.mag A,.int .u32 b],[],0⟩=
  let c1:Int:=(↑(nl A):Int);some (ag.aj [(0:Int)<=c1/\c1<=c1/\c1<=2^47/\c1*(↑(4:Nat):Int)<=2^47] (ag.leaf ak.normal ([mag A,int .u32 (↑b:Int),own 16384 1 0 c1.toNat,int .u64 (0:Int),int .i64 (i64.wrap (c1-1))],[(16384,az.mk true true 1 c1.toNat fun x=>int .u32 (0:Int))]))):=ah
theorem Q5 {A b r k:Nat} {o:Nat->Nat}:aM T e9 [16] 60 qk [LI] ⟨aH qk (B1 A b r k 16384),dn 16384 (nl A) o,16385⟩=
  let c7:AV:=int .u32 (↑b:Int);let c4:AV:=own 16384 1 0 (nl A);let c3:Int:=u64.wrap (↑b:Int);let c2:Int:=(↑k:Int)-1;let c6:Prop:=(0:Int)<=c2/\c2.toNat<nl A;let c5:Nat:=c2.toNat+0;let c1:Int:=u64.wrap (↑(BitVec.ofInt u64.bits (u64.wrap ((↑r:Int)*2^min (Int.toNat (32:Int)) u64.bits))|||BitVec.ofInt u64.bits (u64.wrap (↑(aB A c2.toNat):Int))).toNat:Int);some (ag.fork (decide (c2>=0)) (ag.aj [(0:Int)<=32,c6] (ag.aj [c3≠(0:Int),c6,c5<nl A] (ag.aj [c3≠(0:Int)] (ag.leaf ak.normal ([mag A,c7,c4,int .u64 (c1.tmod c3),int .i64 (i64.wrap (c2-1))],[(16384,az.mk true true 1 (nl A) fun j=>if(j==c5)=true then int .u32 (u32.wrap (u64.wrap (c1.tdiv c3)))else aA o j)]))))) (ag.leaf (ak.exit 0) ([mag A,c7,c4,int .u64 (↑r:Int),int .i64 c2],[(16384,az.mk true true 1 (nl A) fun a=>int .u32 (↑(o a):Int))]))):=ah
theorem Zk {A b r k:Nat} {o:Nat->Nat}:cR T e9 [] 60 f122 (behind (aF f122) [1,1,1,0,1]) ⟨aH qk (B1 A b r k 16384),dn 16384 (nl A) o,16385⟩=
  some (ag.aj [ee (nl A) fun i=>aA o (i+0),nl A<2^40] (ag.leaf ak.ret [mag (val (nl A) fun i=>numOf (aA o (i+0))),int .u32 (u32.wrap (↑r:Int))])):=ah
def Fb:aU:=[(100,wC),(168,mY (fun A B=>.mag (A-B)) fun A B=>[B<=A,nl A<2^40])]
theorem acO {A B:Nat}:bD T Fb [9] 60 f126 (aF f126) ⟨aT 0 [.mag A,.mag B],[],0⟩=
  let c1:Nat:=2^40;some (ag.aj [nl A<c1,nl B<c1] (ag.fork (decide (cV A B<0)) (ag.leaf ak.ret [nil,int .i64 (7:Int)]) (ag.aj [B<=A,nl A<c1] (ag.leaf ak.ret [mag (A-B),int .i64 (0:Int)])))):=ah
theorem gX {K n nx:Nat} {o:Nat->Nat} (h:K<nx):iE nx (dn K n o):=⟨⟨h,fun _ _=>rfl⟩,trivial⟩
theorem Ss {vo va vb ai x c b' un u' B:Nat} (hx:x=c+b') (hu:un+x=ai+4294967296*u') (h:va+c*B=vo+vb):va+ai*B+u'*(4294967296*B)=vo+un*B+(vb+b'*B):=by
 have e:(un+x)*B=(ai+4294967296*u')*B:=by rw[hu]
 subst hx
 grind
theorem Ez {A B:Nat} (hAB:B<=A) (hA:nl A<2^40) (K:Nat):aO P 168 K [.mag A,.mag B] [] (aI (.mag (A-B)) []):=by
 have hB:nl B<=nl A:=ic hAB
 refine ji hT U6 rfl aV rfl (fun _ c0 h0=>?_) K []
 refine ay.hole [1,1,1,0,1] ah (aJ.bE hT fj hm 60 ny Sj ah ?_)
 simp only[ag.all,au,bw]
 refine⟨aa,fun s' hv=>cF ?_⟩
 refine ay.ij (i:=0) (y:=G6) ah ny 12289 (h0 _) (fun p:Nat×Nat×(Nat->Nat)=>wg A B p.2.1 p.1 12288) (fun p=>dn 12288 (nl A) p.2.2) (fun _=>rfl) (fun _=>gX aa)
  (fun p=>p.1<=nl A/\p.2.1<=1/\(∀j,j<nl A->p.2.2 j<2^32)/\val p.1 (aB A)+p.2.1*2^(32*p.1)=val p.1 p.2.2+val p.1 (aB B))
  (fun p=>nl A-p.1) (0,0,fun _=>0) hv ⟨by simp,by simp,fun _ _=>by simp,by simp[val]⟩ ?_
 rintro⟨i,c,o⟩ ⟨hi,hc,ho,hval⟩
 simp only at hi hc ho hval
 refine ay.bE hT fj hm 60 ny PC ah ?_
 have la:=dO (N:=A) (i:=i)
 have lb:=dO (N:=B) (i:=i)
 have wa:u64.wrap (aB A i:Int)=((aB A i:Nat):Int):=ck aa aa
 have wb:u64.wrap (aB B i:Int)=((aB B i:Nat):Int):=ck aa aa
 have w1:u64.wrap ((c:Int)+((aB B i:Nat):Int))=((c+aB B i:Nat):Int):=by rw[ck aa aa];omega
 have w2:u64.wrap (((aB A i:Nat):Int)+4294967296)=((aB A i+4294967296:Nat):Int):=by rw[ck aa aa];omega
 have w3:i64.wrap ((i:Int)+1)=((i+1:Nat):Int):=by rw[wrap_i64 aa aa];omega
 simp only[ag.all,au,bz,bF,bw,Nat.add_zero,beq_iff_eq]
 rw[wa,wb,w1,w2,w3]
 -- what is put down
 have next:∀{s':aL} {x u':Nat} {v:Int},i<nl A->x=c+aB B i->u'<=1->x<=aB A i+4294967296*u'->aB A i+4294967296*u'<x+4294967296->v=((aB A i+4294967296*u'-x:Nat):Int)->
   bC ny s'=some (wg A B u' (i+1) 12288,[(12288,⟨true,true,1,nl A,fun j=>if j=i then .int .u32 (u32.wrap (u64.wrap v))else aA o j⟩)])->
   ∃k:Nat×Nat×(Nat->Nat),bC ny s'=some (wg A B k.2.1 k.1 12288,dn 12288 (nl A) k.2.2)/\(k.1<=nl A/\k.2.1<=1/\(∀j,j<nl A->k.2.2 j<2^32)/\val k.1 (aB A)+k.2.1*2^(32*k.1)=val k.1 k.2.2+val k.1 (aB B))/\nl A-k.1<nl A-i:=by
  intro s' x u' v hin hx hu1 h1 h2 hv1 hv
  refine⟨(i+1,u',cA o i (aB A i+4294967296*u'-x)),dS hv rfl ?_,⟨by simp only;omega,hu1,iG aa ho,?_⟩,by simp only;omega⟩
  ·simp only[dn]
   congr 3
   funext k
   exact gZ (by rw[hv1,ck aa aa,wrap_u32 aa aa]) k
  ·simp only
   rw[qi,val,val,iw]
   exact Ss (b':=aB B i) (x:=x) hx aa hval
 refine⟨fun hb=>⟨fun hb2=>⟨aa,aa,fun h3=>⟨⟨aa,aa⟩,fun s' hv=>?_⟩,fun h3=>⟨⟨aa,aa⟩,fun s' hv=>?_⟩⟩,fun hb2=>⟨aa,fun h3=>⟨⟨aa,aa⟩,fun s' hv=>?_⟩,fun h3=>⟨⟨aa,aa⟩,fun s' hv=>?_⟩⟩⟩,fun hb s' hv=>fG (cF ?_)⟩
 ·exact next (u':=1) aa rfl aa aa aa aa hv
 ·exact next (u':=0) aa rfl aa aa aa aa hv
 ·exact next (u':=1) (x:=c) aa (by rw[jq (A:=B) aa];rfl) aa aa aa aa hv
 ·exact next (u':=0) (x:=c) aa (by rw[jq (A:=B) aa];rfl) aa aa aa aa hv
 ·have hin:i=nl A:=aa
  refine aJ.jN hT fj hm 60 hv (h0 _) rfl (gX aa) WE ah ah ?_
  simp only[ag.all,au,Nat.add_zero,jE]
  refine⟨⟨gG ho,hA⟩,dM (congrArg AV.mag ?_)⟩
  rw[hin,gp,oD (dy.1 hB)]at hval
  have hlt:=ga ho
  have:c=0:=by
   rcases Nat.eq_zero_or_pos c with h|h
   ·exact h
   ·exfalso
    have h1:1*2^(32*nl A)<=c*2^(32*nl A):=Nat.mul_le_mul_right _ h
    omega
  rw[this]at hval
  omega
theorem V6:aZ P Fb:=aE yU (aE (oB fun h=>Ez h.1 h.2) bA)
theorem afr {A B:Nat} (hA:nl A<2^40) (hB:nl B<2^40) (K:Nat):aO P 126 K [.mag A,.mag B] [] (aI (.tuple [.mag (A-B),.int .i64 (if A<B then 7 else 0)]) []):=by
 refine bJ hT V6 hm Vx rfl aV rfl 60 acO (fun _=>?_) K []
 simp only[ag.all,au,bz,bF,xQ]
 refine⟨⟨hA,hB⟩,fun h=>⟨?_,bU (by rw[if_pos h]),trivial⟩,fun h=>⟨⟨aa,hA⟩,.refl _,bU (by rw[if_neg h]),trivial⟩⟩
 rw[Nat.sub_eq_zero_of_le aa];exact kP
def Lx:Spec:=mY (fun A B=>.tuple [.mag (A-B),.int .i64 (if A<B then 7 else 0)]) CD
theorem Qo:aY P Lx 126:=oB fun h=>afr h.1 h.2
theorem afd {A B:Nat} (hA:nl A<2^39) (hB:nl B<2^39) (K:Nat):aO P 106 K [.mag A,.mag B] [] (aI (.mag (A*B)) []):=by
 refine ji hT aab rfl aV rfl (fun _ c0 h0=>?_) K []
 refine ay.hole [1,1,0,1] ah (aJ.bE hT fj hm 60 kJ Pd ah ?_)
 have hw:i64.wrap ((nl A:Int)+(nl B:Int))=((nl A+nl B:Nat):Int):=eM aa aa
 rw[hw]
 simp only[ag.all,au,bw]
 refine⟨aa,fun s' hv=>cF ?_⟩
 refine ay.ij (i:=0) (y:=oH) ah kJ 24577 (h0 _) (fun p:Nat×(Nat->Nat)=>uB A B p.1 24576) (fun p=>dn 24576 (nl A+nl B) p.2) (fun _=>rfl) (fun _=>gX aa)
  (fun p=>p.1<=nl A/\(∀j,j<nl A+nl B->p.2 j<2^32)/\(∀j,p.1+nl B<=j->p.2 j=0)/\val (nl A+nl B) p.2=val p.1 (aB A)*B)
  (fun p=>nl A-p.1) (0,fun _=>0) hv ⟨by simp,fun _ _=>by simp,fun _ _=>rfl,?_⟩ ?_
 ·simp only
  rw[val_zero fun _ _=>rfl]
  simp[val]
 rintro⟨i,o⟩ ⟨hi,ho,ho0,hval⟩
 simp only at hi ho ho0 hval
 refine ay.hole [0] ah (show ay P c0 f106.ntmps (part oH [0]) _ _ from ay.bE hT fj hm 60 kJ Rj ah ?_)
 simp only[ag.all,bz,bF]
 refine⟨fun h1 s' hv=>cF ?_,fun h1 s' hv=>pY (fG (cF ?_))⟩
 ·have hin:i<nl A:=aa
  have la:=dO (N:=A) (i:=i)
  show aJ P c0 f106.ntmps [part oH [1]] s' _
  refine ay.hole [0] ah ?_
  show ay P c0 f106.ntmps (part oH [1,0]) s' _
  refine ay.oF (i:=1) (y:=tL) ah (ay.jQ hv (h0 24577) rfl (gX aa) ?_)
  refine ay.hole [1,0,1] ah (aJ.bE hT fj hm 60 qZ RQ ah fun s' hv=>cF ?_)
  refine ay.ij (i:=2) (y:=part tL [1,0,1,0,0]) ah qZ 24577 (h0 _) (fun p:Nat×Nat×(Nat->Nat)=>yV A B i p.2.1 p.1 24576) (fun p=>dn 24576 (nl A+nl B) p.2.2) (fun _=>rfl) (fun _=>gX aa)
   (fun p=>p.1<=nl B/\p.2.1<2^32/\(∀j,j<nl A+nl B->p.2.2 j<2^32)/\(∀j,i+nl B<=j->p.2.2 j=0)/\val (nl A+nl B) p.2.2+p.2.1*2^(32*(i+p.1))=val i (aB A)*B+aB A i*val p.1 (aB B)*2^(32*i))
   (fun p=>nl B-p.1) (0,0,o) hv ⟨by simp,by simp,ho,ho0,by simp[val,hval]⟩ ?_
  rintro⟨j,c,o⟩ ⟨hj,hc,ho,ho0,hval⟩
  simp only at hj hc ho ho0 hval
  refine ay.bE hT fj hm 60 qZ U8 ah ?_
  have hij:i64.wrap ((i:Int)+(j:Int))=((i+j:Nat):Int):=eM aa aa
  have lb:=dO (N:=B) (i:=j)
  simp only[ag.all,au,bz,bF,hij,bw,Nat.add_zero,beq_iff_eq]
  refine⟨fun h2=>?_,fun h2 s' hv=>fG ?_⟩
  ·have hjm:j<nl B:=aa
   obtain⟨m1,m2,m3⟩:=JK hc la lb (ho (i+j) aa)
   rw[m1]
   refine⟨⟨aa,aa,aa,aa⟩,⟨aa,aa⟩,aa,fun s' hv=>⟨(j+1,(c+aB A i*aB B j+o (i+j))/4294967296,cA o (i+j) ((c+aB A i*aB B j+o (i+j))%4294967296)),dS hv ?_ ?_,⟨by simp only;omega,m3,iG aa ho,fun k hk=>?_,?_⟩,by simp only;omega⟩⟩
   ·rw[lN,eM (a:=(j:Int)+1) (n:=j+1) aa aa]
    simp only[yV,List.cons.injEq,AV.int.injEq,and_true,true_and]
    omega
   ·simp only[dn]
    congr 3
    funext k
    exact gZ (by rw[jC]) k
   ·exact(fR aa).trans (ho0 k hk)
   ·simp only
    rw[show 32*(i+(j+1))=32*((i+j)+1) by omega,iw,val]
    have hset:=CG (o:=o) (x:=(c+aB A i*aB B j+o (i+j))%4294967296) (show i+j<nl A+nl B by omega)
    exact JM rfl (Nat.div_add_mod _ _) hset (by rw[<-Nat.pow_add];congr 1;omega) hval
  ·show aJ P c0 f106.ntmps (behind tL [1,0,1]) s' _
   have hjm:j=nl B:=aa
   have hib:i64.wrap ((i:Int)+(nl B:Int))=((i+nl B:Nat):Int):=eM aa aa
   refine aJ.fu hT fj hm 60 hv (h0 24577) rfl (gX aa) kJ PF ah ah ?_
   rw[hib]
   simp only[ag.all,au,bw,Nat.add_zero,beq_iff_eq]
   refine⟨⟨aa,aa⟩,fun s' hv=>?_⟩
   have hf:(fun k=>if k=i+nl B then AV.int .u32 (u32.wrap (c:Int))else aA o k)=aA (cA o (i+nl B) c):=by
    funext k
    exact gZ (wrap_u32 aa aa) k
   rw[hf]at hv
   show aJ P c0 f106.ntmps [part oH [1,1]] s' _
   refine aJ.fu hT fj hm 60 hv (h0 24577) rfl (gX aa) kJ Yf ah ah fun s' hv=>cF ?_
   refine⟨(i+1,cA o (i+nl B) c),dS hv ?_ rfl,⟨by simp only;omega,iG hc ho,fun k hk=>(fR (by simp only at hk;omega)).trans (ho0 k (by simp only at hk;omega)),?_⟩,by simp only;omega⟩
   ·rw[eM (a:=(i:Int)+1) (n:=i+1) aa aa]
   ·simp only
    rw[hjm,gp]at hval
    rw[p8 aa (ho0 _ aa),hval,val,Nat.add_mul,Nat.mul_assoc,Nat.mul_assoc,Nat.mul_comm B]
 ·have hin:i=nl A:=aa
  refine aJ.jN hT fj hm 60 hv (h0 _) rfl (gX aa) U3 ah ah ?_
  simp only[ag.all,au,Nat.add_zero,jE]
  refine⟨⟨gG ho,aa⟩,dM (congrArg AV.mag ?_)⟩
  rw[hval,hin,gp]
def Dw:Spec:=mY (fun A B=>.mag (A*B)) fun A B=>[nl A<2^39,nl B<2^39]
theorem Fh:aY P Dw 106:=oB fun h=>afd h.1 h.2
theorem Ff {v b r A:Nat} (h:v*b+r=A) (hr:r<b):A/b=v/\A%b=r:=by
 subst h
 refine⟨?_,?_⟩
 ·rw[Nat.mul_comm,Nat.mul_add_div aa,Nat.div_eq_of_lt hr,Nat.add_zero]
 ·rw[Nat.mul_comm,Nat.mul_add_mod,Nat.mod_eq_of_lt hr]
theorem Tl {A b:Nat} (hA:nl A<2^40) (hb0:0<b) (hb32:b<2^32) (K:Nat):aO P 122 K [.mag A,.int .u32 b] [] (aI (.tuple [.mag (A/b),.int .u32 (A%b:Nat)]) []):=by
 refine ji hT TK rfl aV rfl (fun _ c0 h0=>?_) K []
 refine ay.hole [1,1,1,0,1] ah (aJ.bE hT fj hm 60 qk Pw ah ?_)
 simp only[ag.all,au,bw]
 refine⟨aa,fun s' hv=>cF ?_⟩
 refine ay.ij (i:=0) (y:=LI) ah qk 16385 (h0 _) (fun p:Nat×Nat×(Nat->Nat)=>B1 A b p.2.1 p.1 16384) (fun p=>dn 16384 (nl A) p.2.2) (fun _=>rfl) (fun _=>gX aa)
  (fun p=>p.1<=nl A/\p.2.1<b/\(∀j,j<nl A->p.2.2 j<2^32)/\(∀j,j<p.1->p.2.2 j=0)/\val (nl A) p.2.2*b+p.2.1*2^(32*p.1)+val p.1 (aB A)=A)
  (fun p=>p.1) (nl A,0,fun _=>0) (dS hv (by rw[wrap_i64 aa aa];rfl) rfl) ⟨by simp,hb0,fun j _=>by simp,fun j _=>rfl,?_⟩ ?_
 ·simp only
  rw[val_zero fun _ _=>rfl,gp]
  simp
 rintro⟨k,r,o⟩ ⟨hk,hr,ho,ho0,hval⟩
 simp only at hk hr ho ho0 hval
 refine ay.bE hT fj hm 60 qk Q5 ah ?_
 simp only[ag.all,au,bz,bF,Nat.add_zero,beq_iff_eq]
 have hbw:u64.wrap (b:Int)=(b:Int):=ck aa aa
 refine⟨fun hb=>?_,fun hb s' hv=>fG (cF ?_)⟩
 ·obtain⟨j,rfl⟩:∃j,k=j+1:=⟨k-1,aa⟩
  have e:(((j+1:Nat):Int)-1).toNat=j:=aa
  have hzj:=dO (N:=A) (i:=j)
  have hor:=sq (a:=r) (b:=aB A j) aa hzj
  rw[e,hor,hbw]
  have hq1:(r*4294967296+aB A j)/b<2^32:=by
   rw[Nat.div_lt_iff_lt_mul hb0]
   have:(r+1)*4294967296<=b*4294967296:=Nat.mul_le_mul_right _ hr
   omega
  have hdm:=Nat.div_add_mod (r*4294967296+aB A j) b
  refine⟨⟨aa,aa,aa⟩,⟨aa,⟨aa,aa⟩,aa⟩,aa,fun s' hv=>⟨(j,(r*4294967296+aB A j)%b,cA o j ((r*4294967296+aB A j)/b)),dS hv ?_ ?_,⟨by simp only;omega,Nat.mod_lt _ hb0,iG hq1 ho,fun i hi=>?_,?_⟩,by simp only;omega⟩⟩
  ·rw[<-Int.ofNat_tmod,wrap_i64 aa aa,show((j+1:Nat):Int)-1-1=(j:Int)-1 by omega]
  ·simp only[dn]
   congr 3
   funext i
   refine gZ ?_ i
   rw[<-Int.ofNat_tdiv]
   clear hdm
   generalize (r*4294967296+aB A j)/b=q at hq1 ⊢
   rw[ck aa aa,wrap_u32 aa aa]
  ·exact(fR (by simp only at hi;omega)).trans (ho0 i (by simp only at hi;omega))
  ·simp only
   rw[p8 aa (ho0 j aa)]
   rw[iw,val]at hval
   exact HX hval hdm.symm
 ·have hk0:k=0:=aa
  have hv2:val (nl A) o*b+r=A:=by rw[hk0]at hval;simpa [val]using hval
  refine aJ.jN hT fj hm 60 hv (h0 _) rfl (gX aa) Zk ah ah ?_
  simp only[ag.all,au,Nat.add_zero,jE]
  obtain⟨hdiv,hmod⟩:=Ff hv2 hr
  exact⟨⟨gG ho,hA⟩,dM (congrArg AV.mag hdiv.symm),bU (by rw[hmod,wrap_u32 aa aa]),trivial⟩
def AT:Spec:=bY fun l=>match l with
 |[a,.int .u32 b]=>match jh a with
  |some A=>some (aI (.tuple [.mag (A/b.toNat),.int .u32 (A%b.toNat:Nat)]) [nl A<2^40,0<b,b<2^32])
  |none=>none
 |_=>none
theorem Ld:aY P AT 122:=by
 refine cJ fun K args r hk hs _=>?_
 split at hs
 ·rename_i a b
  split at hs
  ·rename_i A hA
   simp only[ax]at hs
   subst hs
   intro need
   obtain⟨h1,h2,h3⟩:nl A<2^40/\0<b/\b<2^32:=need
   obtain⟨b,rfl⟩:=Int.eq_ofNat_of_zero_le (Int.le_of_lt h2)
   exact eW (Tl h1 aa aa K) hk ⟨kY hA,.refl _,trivial⟩ [] trivial
  ·simp at hs
 ·simp at hs
end Go.Am.B
