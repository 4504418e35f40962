/- ref01: minus, Sub, Mul, byLimb. -/
import Derived.Test.YtnniljlepppdpaaGreatB23
set_option linter.unusedVariables false
noncomputable section
namespace Go.Am.B
open Go Go.Am.N AV
theorem agH:aT P DF xo (ay xo):=aU Proofs.Tryz.func210 ag ag ag
theorem an1:aT P FG FB (ay FB):=aU Proofs.Tryz.func115 ag ag ag
theorem aeW:aT P A4 nq (ay nq):=aU Proofs.Tryz.func102 ag ag ag
theorem ajA:aT P zq ve (ay ve):=aU Proofs.Tryz.func248 ag ag ag
abbrev o6:List Nat:=[0,1,5,6,7]
abbrev xA (A B c i K:Nat):List AV:=[.mag A,.mag B,.own K 1 0 (nl A),.int .u64 c,.int .i64 i]
abbrev dA (K n:Nat) (o:Nat->Nat):aE:=[(K,⟨true,true,1,n,aD o⟩)]
abbrev MV:Code:=part (ay xo) [1,1,1,0,1,0,0]
theorem ajd {A B:Nat}:aG T fA [] 60 o6 (before (ay xo) [1,1,1,0,1]) ⟨aP 0 [.mag A,.mag B],[],0⟩=
  let c1:Int:=(↑(nl A):Int);some (ah.aj [(0:Int)<=c1/\c1<=c1/\c1<=2^47/\c1*(↑(4:Nat):Int)<=2^47] (ah.leaf ax.normal ([mag A,mag B,own 12288 1 0 c1.toNat,int .u64 (0:Int),int .i64 (0:Int)],[(12288,ak.mk true true 1 c1.toNat fun x=>int .u32 (0:Int))]))):=ag
theorem ak1 {A B c i:Nat} {o:Nat->Nat}:aG T fA [16,23,38] 60 o6 [MV] ⟨aB o6 (xA A B c i 12288),dA 12288 (nl A) o,12289⟩=
  let c13:Int:=(↑c:Int);let c8:Int:=(↑i:Int);let c5:AV:=own 12288 1 0 (nl A);let c4:List AV:=[int .i64 (IntKind.i64.wrap (c8+1))];let c1:Nat:=c8.toNat;let c11:Prop:=(0:Int)<=c8/\c1<nl A;let c10:List AV:=mag A::mag B::c5::int .u64 (0:Int)::c4;let c9:List AV:=mag A::mag B::c5::int .u64 (1:Int)::c4;let c7:Nat:=c1+0;let c3:Int:=IntKind.u64.wrap (c13+IntKind.u64.wrap (↑(aF B c1):Int));let c2:Int:=IntKind.u64.wrap (↑(aF A c1):Int);let c12:Int:=IntKind.u64.wrap (c2+4294967296);let c6:List Prop:=[c11,c7<nl A];some (ah.fork (decide (c8<(↑(nl A):Int))) (ah.fork (decide (c8<(↑(nl B):Int))) (ah.aj [(0:Int)<=c8/\c1<nl B] (ah.aj [c11] (ah.fork (decide (c2<c3)) (ah.aj c6 (ah.leaf ax.normal (c9,[(12288,ak.mk true true 1 (nl A) fun j=>if(j==c7)=true then int .u32 (IntKind.u32.wrap (IntKind.u64.wrap (c12-c3)))else aD o j)]))) (ah.aj c6 (ah.leaf ax.normal (c10,[(12288,ak.mk true true 1 (nl A) fun j=>if(j==c7)=true then int .u32 (IntKind.u32.wrap (IntKind.u64.wrap (c2-c3)))else aD o j)])))))) (ah.aj [c11] (ah.fork (decide (c2<c13)) (ah.aj c6 (ah.leaf ax.normal (c9,[(12288,ak.mk true true 1 (nl A) fun j=>if(j==c7)=true then int .u32 (IntKind.u32.wrap (IntKind.u64.wrap (c12-c13)))else aD o j)]))) (ah.aj c6 (ah.leaf ax.normal (c10,[(12288,ak.mk true true 1 (nl A) fun j=>if(j==c7)=true then int .u32 (IntKind.u32.wrap (IntKind.u64.wrap (c2-c13)))else aD o j)])))))) (ah.leaf (ax.exit 0) ([mag A,mag B,c5,int .u64 c13,int .i64 c8],[(12288,ak.mk true true 1 (nl A) fun a=>int .u32 (↑(o a):Int))]))):=ag
theorem agk {A B c i:Nat} {o:Nat->Nat}:cj T fA [] 60 xo (behind (ay xo) [1,1,1,0,1]) ⟨aB o6 (xA A B c i 12288),dA 12288 (nl A) o,12289⟩=
  some (ah.aj [ek (nl A) fun i=>aD o (i+0),nl A<2^40] (ah.leaf ax.ret [mag (val (nl A) fun i=>numOf (aD o (i+0)))])):=ag
abbrev lZ:List Nat:=[0,1,5,6]
abbrev AT (A B i K:Nat):List AV:=[.mag A,.mag B,.own K 1 0 (nl A+nl B),.int .i64 i]
abbrev s7:List Nat:=[0,1,5,6,7,8]
abbrev EJ (A B i c j K:Nat):List AV:=[.mag A,.mag B,.own K 1 0 (nl A+nl B),.int .i64 i,.int .u64 c,.int .i64 j]
abbrev qZ:Code:=part (ay nq) [1,1,0,1,0,0]
abbrev uT:Code:=part qZ [1,0,0]
theorem acy {A B:Nat}:aG T fA [] 60 lZ (before (ay nq) [1,1,0,1]) ⟨aP 0 [.mag A,.mag B],[],0⟩=
  let c1:Int:=IntKind.i64.wrap ((↑(nl A):Int)+(↑(nl B):Int));some (ah.aj [(0:Int)<=c1/\c1<=c1/\c1<=2^47/\c1*(↑(4:Nat):Int)<=2^47] (ah.leaf ax.normal ([mag A,mag B,own 24576 1 0 c1.toNat,int .i64 (0:Int)],[(24576,ak.mk true true 1 c1.toNat fun x=>int .u32 (0:Int))]))):=ag
theorem Vj {A B i:Nat} {o:Nat->Nat}:aG T fA [18] 60 lZ [part qZ [0]] ⟨aB lZ (AT A B i 24576),dA 24576 (nl A+nl B) o,24577⟩=
  let c1:List AV×aE:=([mag A,mag B,own 24576 1 0 (nl A+nl B),int .i64 (↑i:Int)],[(24576,ak.mk true true 1 (nl A+nl B) fun a=>int .u32 (↑(o a):Int))]);some (ah.fork (decide ((↑i:Int)<(↑(nl A):Int))) (ah.leaf ax.normal c1) (ah.leaf (ax.exit 0) c1)):=ag
theorem alA {A B i:Nat} {o:Nat->Nat}:aG T fA [] 60 s7 (before uT [1,0,1]) ⟨aB lZ (AT A B i 24576),dA 24576 (nl A+nl B) o,24577⟩=
  some (ah.leaf ax.normal ([mag A,mag B,own 24576 1 0 (nl A+nl B),int .i64 (↑i:Int),int .u64 (0:Int),int .i64 (0:Int)],[(24576,ak.mk true true 1 (nl A+nl B) fun a=>int .u32 (↑(o a):Int))])):=ag
theorem alj {A B i c j:Nat} {o:Nat->Nat}:aG T fA [24] 60 s7 [part uT [1,0,1,0,0]] ⟨aB s7 (EJ A B i c j 24576),dA 24576 (nl A+nl B) o,24577⟩=
  let c7:Int:=(↑i:Int);let c5:Int:=(↑j:Int);let c4:Nat:=nl A+nl B;let c6:AV:=own 24576 1 0 c4;let c1:Int:=IntKind.i64.wrap (c7+c5);let c3:Nat:=c1.toNat+0;let c8:List Prop:=[(0:Int)<=c1/\c1.toNat<c4,c3<c4];let c2:Int:=IntKind.u64.wrap ((↑c:Int)+IntKind.u64.wrap (IntKind.u64.wrap (IntKind.u64.wrap (↑(aF A c7.toNat):Int)*IntKind.u64.wrap (↑(aF B c5.toNat):Int))+IntKind.u64.wrap (↑(o c3):Int)));some (ah.fork (decide (c5<(↑(nl B):Int))) (ah.aj (((0:Int)<=c7/\c7.toNat<nl A)::((0:Int)<=c5/\c5.toNat<nl B)::c8) (ah.aj c8 (ah.aj [(0:Int)<=32] (ah.leaf ax.normal ([mag A,mag B,c6,int .i64 c7,int .u64 (c2.fdiv ((2:Int)^min (Int.toNat (32:Int)) IntKind.u64.bits)),int .i64 (IntKind.i64.wrap (c5+1))],[(24576,ak.mk true true 1 c4 fun j=>if(j==c3)=true then int .u32 (IntKind.u32.wrap c2)else aD o j)]))))) (ah.leaf (ax.exit 2) ([mag A,mag B,c6,int .i64 c7,int .u64 (↑c:Int),int .i64 c5],[(24576,ak.mk true true 1 c4 fun a=>int .u32 (↑(o a):Int))]))):=ag
theorem aet {A B i c j:Nat} {o:Nat->Nat}:aG T fA [] 60 lZ (behind uT [1,0,1]) ⟨aB s7 (EJ A B i c j 24576),dA 24576 (nl A+nl B) o,24577⟩=
  let c3:Nat:=nl A+nl B;let c1:Int:=IntKind.i64.wrap ((↑i:Int)+(↑(nl B):Int));let c2:Nat:=c1.toNat+0;some (ah.aj [(0:Int)<=c1/\c1.toNat<c3,c2<c3] (ah.leaf ax.normal ([mag A,mag B,own 24576 1 0 c3,int .i64 (↑i:Int)],[(24576,ak.mk true true 1 c3 fun j=>if(j==c2)=true then int .u32 (IntKind.u32.wrap (↑c:Int))else aD o j)]))):=ag
theorem YA {A B i:Nat} {o:Nat->Nat}:aG T fA [] 60 lZ [part qZ [1,1]] ⟨aB lZ (AT A B i 24576),dA 24576 (nl A+nl B) o,24577⟩=
  some (ah.leaf ax.normal ([mag A,mag B,own 24576 1 0 (nl A+nl B),int .i64 (IntKind.i64.wrap ((↑i:Int)+1))],[(24576,ak.mk true true 1 (nl A+nl B) fun a=>int .u32 (↑(o a):Int))])):=ag
theorem Zt {A B i:Nat} {o:Nat->Nat}:cj T fA [] 60 nq (behind (ay nq) [1,1,0,1]) ⟨aB lZ (AT A B i 24576),dA 24576 (nl A+nl B) o,24577⟩=
  some (ah.aj [ek (nl A+nl B) fun i=>aD o (i+0),nl A+nl B<2^40] (ah.leaf ax.ret [mag (val (nl A+nl B) fun i=>numOf (aD o (i+0)))])):=ag
abbrev tL:List Nat:=[0,1,6,7,8]
abbrev Kf (A b r k K:Nat):List AV:=[.mag A,.int .u32 b,.own K 1 0 (nl A),.int .u64 r,.int .i64 ((k:Int)-1)]
abbrev Sy:Code:=part (ay ve) [1,1,1,0,1,0,0]
theorem amm {A b:Nat}:aG T fA [] 60 tL (before (ay ve) [1,1,1,0,1]) ⟨aP 0 [.mag A,.int .u32 b],[],0⟩=
  let c1:Int:=(↑(nl A):Int);some (ah.aj [(0:Int)<=c1/\c1<=c1/\c1<=2^47/\c1*(↑(4:Nat):Int)<=2^47] (ah.leaf ax.normal ([mag A,int .u32 (↑b:Int),own 16384 1 0 c1.toNat,int .u64 (0:Int),int .i64 (IntKind.i64.wrap (c1-1))],[(16384,ak.mk true true 1 c1.toNat fun x=>int .u32 (0:Int))]))):=ag
theorem am6 {A b r k:Nat} {o:Nat->Nat}:aG T fA [16] 60 tL [Sy] ⟨aB tL (Kf A b r k 16384),dA 16384 (nl A) o,16385⟩=
  let c7:AV:=int .u32 (↑b:Int);let c4:AV:=own 16384 1 0 (nl A);let c3:Int:=IntKind.u64.wrap (↑b:Int);let c2:Int:=(↑k:Int)-1;let c6:Prop:=(0:Int)<=c2/\c2.toNat<nl A;let c5:Nat:=c2.toNat+0;let c1:Int:=IntKind.u64.wrap (↑(BitVec.ofInt IntKind.u64.bits (IntKind.u64.wrap ((↑r:Int)*2^min (Int.toNat (32:Int)) IntKind.u64.bits))|||BitVec.ofInt IntKind.u64.bits (IntKind.u64.wrap (↑(aF A c2.toNat):Int))).toNat:Int);some (ah.fork (decide (c2>=0)) (ah.aj [(0:Int)<=32,c6] (ah.aj [c3≠(0:Int),c6,c5<nl A] (ah.aj [c3≠(0:Int)] (ah.leaf ax.normal ([mag A,c7,c4,int .u64 (c1.tmod c3),int .i64 (IntKind.i64.wrap (c2-1))],[(16384,ak.mk true true 1 (nl A) fun j=>if(j==c5)=true then int .u32 (IntKind.u32.wrap (IntKind.u64.wrap (c1.tdiv c3)))else aD o j)]))))) (ah.leaf (ax.exit 0) ([mag A,c7,c4,int .u64 (↑r:Int),int .i64 c2],[(16384,ak.mk true true 1 (nl A) fun a=>int .u32 (↑(o a):Int))]))):=ag
theorem aiX {A b r k:Nat} {o:Nat->Nat}:cj T fA [] 60 ve (behind (ay ve) [1,1,1,0,1]) ⟨aB tL (Kf A b r k 16384),dA 16384 (nl A) o,16385⟩=
  some (ah.aj [ek (nl A) fun i=>aD o (i+0),nl A<2^40] (ah.leaf ax.ret [mag (val (nl A) fun i=>numOf (aD o (i+0))),int .u32 (IntKind.u32.wrap (↑r:Int))])):=ag
def P0:bf:=[(sI,x7),(DF,oD (fun A B=>.mag (A-B)) fun A B=>[B<=A,nl A<2^40])]
theorem afA {A B:Nat}:bU T P0 [9] 60 FB (ay FB) ⟨aP 0 [.mag A,.mag B],[],0⟩=
  let c1:Nat:=2^40;some (ah.aj [nl A<c1,nl B<c1] (ah.fork (decide (dh A B<0)) (ah.leaf ax.ret [nil,int .i64 (7:Int)]) (ah.aj [B<=A,nl A<c1] (ah.leaf ax.ret [mag (A-B),int .i64 (0:Int)])))):=ag
theorem iw {K n nx:Nat} {o:Nat->Nat} (h:K<nx):iB nx (dA K n o):=⟨⟨h,fun _ _=>rfl⟩,trivial⟩
theorem Y7 {vo va vb ai x c b' un u' B:Nat} (hx:x=c+b') (hu:un+x=ai+4294967296*u') (h:va+c*B=vo+vb):va+ai*B+u'*(4294967296*B)=vo+un*B+(vb+b'*B):=by
 have e:(un+x)*B=(ai+4294967296*u')*B:=by rw[hu]
 subst hx
 grind
theorem Qc {A B:Nat} (hAB:B<=A) (hA:nl A<2^40) (K:Nat):aQ P DF K [.mag A,.mag B] [] (aJ (.mag (A-B)) []):=by
 have hB:nl B<=nl A:=iH hAB
 refine fc hT agH rfl aX rfl (fun _ c0 h0=>?_) K []
 refine au.hole [1,1,1,0,1] ag (aH.bC hT fG hm 60 o6 ajd ag ?_)
 simp only[ah.all,aA,bn]
 refine⟨aa,fun s' hv=>cO ?_⟩
 refine au.iJ (i:=0) (y:=MV) ag o6 12289 (h0 _) (fun p:Nat×Nat×(Nat->Nat)=>xA A B p.2.1 p.1 12288) (fun p=>dA 12288 (nl A) p.2.2) (fun _=>rfl) (fun _=>iw aa)
  (fun p=>p.1<=nl A/\p.2.1<=1/\(∀j,j<nl A->p.2.2 j<2^32)/\val p.1 (aF A)+p.2.1*2^(32*p.1)=val p.1 p.2.2+val p.1 (aF B))
  (fun p=>nl A-p.1) (0,0,fun _=>0) hv ⟨by simp,by simp,fun _ _=>by simp,by simp[val]⟩ ?_
 rintro⟨i,c,o⟩ ⟨hi,hc,ho,hval⟩
 simp only at hi hc ho hval
 refine au.bC hT fG hm 60 o6 ak1 ag ?_
 have la:=dL (N:=A) (i:=i)
 have lb:=dL (N:=B) (i:=i)
 have wa:IntKind.u64.wrap (aF A i:Int)=((aF A i:Nat):Int):=cu aa aa
 have wb:IntKind.u64.wrap (aF B i:Int)=((aF B i:Nat):Int):=cu aa aa
 have w1:IntKind.u64.wrap ((c:Int)+((aF B i:Nat):Int))=((c+aF B i:Nat):Int):=by rw[cu aa aa];omega
 have w2:IntKind.u64.wrap (((aF A i:Nat):Int)+4294967296)=((aF A i+4294967296:Nat):Int):=by rw[cu aa aa];omega
 have w3:IntKind.i64.wrap ((i:Int)+1)=((i+1:Nat):Int):=by rw[wrap_i64 aa aa];omega
 simp only[ah.all,aA,bq,bw,bn,Nat.add_zero,beq_iff_eq]
 rw[wa,wb,w1,w2,w3]
 -- what is put down
 have next:∀{s':aK} {x u':Nat} {v:Int},i<nl A->x=c+aF B i->u'<=1->x<=aF A i+4294967296*u'->aF A i+4294967296*u'<x+4294967296->v=((aF A i+4294967296*u'-x:Nat):Int)->
   bA o6 s'=some (xA A B u' (i+1) 12288,[(12288,⟨true,true,1,nl A,fun j=>if j=i then .int .u32 (IntKind.u32.wrap (IntKind.u64.wrap v))else aD o j⟩)])->
   ∃k:Nat×Nat×(Nat->Nat),bA o6 s'=some (xA A B k.2.1 k.1 12288,dA 12288 (nl A) k.2.2)/\(k.1<=nl A/\k.2.1<=1/\(∀j,j<nl A->k.2.2 j<2^32)/\val k.1 (aF A)+k.2.1*2^(32*k.1)=val k.1 k.2.2+val k.1 (aF B))/\nl A-k.1<nl A-i:=by
  intro s' x u' v hin hx hu1 h1 h2 hv1 hv
  refine⟨(i+1,u',cH o i (aF A i+4294967296*u'-x)),dQ hv rfl ?_,⟨by simp only;omega,hu1,iW aa ho,?_⟩,by simp only;omega⟩
  ·simp only[dA]
   congr 3
   funext k
   exact iu (by rw[hv1,cu aa aa,wrap_u32 aa aa]) k
  ·simp only
   rw[r7,val,val,iG]
   exact Y7 (b':=aF B i) (x:=x) hx aa hval
 refine⟨fun hb=>⟨fun hb2=>⟨aa,aa,fun h3=>⟨⟨aa,aa⟩,fun s' hv=>?_⟩,fun h3=>⟨⟨aa,aa⟩,fun s' hv=>?_⟩⟩,fun hb2=>⟨aa,fun h3=>⟨⟨aa,aa⟩,fun s' hv=>?_⟩,fun h3=>⟨⟨aa,aa⟩,fun s' hv=>?_⟩⟩⟩,fun hb s' hv=>fO (cO ?_)⟩
 ·exact next (u':=1) aa rfl aa aa aa aa hv
 ·exact next (u':=0) aa rfl aa aa aa aa hv
 ·exact next (u':=1) (x:=c) aa (by rw[jF (A:=B) aa];rfl) aa aa aa aa hv
 ·exact next (u':=0) (x:=c) aa (by rw[jF (A:=B) aa];rfl) aa aa aa aa hv
 ·have hin:i=nl A:=aa
  refine aH.kO hT fG hm 60 hv (h0 _) rfl (iw aa) agk ag ag ?_
  simp only[ah.all,aA,Nat.add_zero,kg]
  refine⟨⟨gF ho,hA⟩,dO (congrArg AV.mag ?_)⟩
  rw[hin,gA,qN (dF.1 hB)]at hval
  have hlt:=gp ho
  have:c=0:=by
   rcases Nat.eq_zero_or_pos c with h|h
   ·exact h
   ·exfalso
    have h1:1*2^(32*nl A)<=c*2^(32*nl A):=Nat.mul_le_mul_right _ h
    omega
  rw[this]at hval
  omega
theorem adY:bu P P0:=aI DX (aI (qe fun h=>Qc h.1 h.2) bz)
theorem ajS {A B:Nat} (hA:nl A<2^40) (hB:nl B<2^40) (K:Nat):aQ P FG K [.mag A,.mag B] [] (aJ (.tuple [.mag (A-B),.int .i64 (if A<B then 7 else 0)]) []):=by
 refine bZ hT adY hm an1 rfl aX rfl 60 afA (fun _=>?_) K []
 simp only[ah.all,aA,bq,bw,Ew]
 refine⟨⟨hA,hB⟩,fun h=>⟨?_,bK (by rw[if_pos h]),trivial⟩,fun h=>⟨⟨aa,hA⟩,.refl _,bK (by rw[if_neg h]),trivial⟩⟩
 rw[Nat.sub_eq_zero_of_le aa];exact lJ
def P6:Spec:=oD (fun A B=>.tuple [.mag (A-B),.int .i64 (if A<B then 7 else 0)]) LH
theorem ab3:aW P P6 FG:=qe fun h=>ajS h.1 h.2
theorem Xg {A B:Nat} (hA:nl A<2^39) (hB:nl B<2^39) (K:Nat):aQ P A4 K [.mag A,.mag B] [] (aJ (.mag (A*B)) []):=by
 refine fc hT aeW rfl aX rfl (fun _ c0 h0=>?_) K []
 refine au.hole [1,1,0,1] ag (aH.bC hT fG hm 60 lZ acy ag ?_)
 have hw:IntKind.i64.wrap ((nl A:Int)+(nl B:Int))=((nl A+nl B:Nat):Int):=fm aa aa
 rw[hw]
 simp only[ah.all,aA,bn]
 refine⟨aa,fun s' hv=>cO ?_⟩
 refine au.iJ (i:=0) (y:=qZ) ag lZ 24577 (h0 _) (fun p:Nat×(Nat->Nat)=>AT A B p.1 24576) (fun p=>dA 24576 (nl A+nl B) p.2) (fun _=>rfl) (fun _=>iw aa)
  (fun p=>p.1<=nl A/\(∀j,j<nl A+nl B->p.2 j<2^32)/\(∀j,p.1+nl B<=j->p.2 j=0)/\val (nl A+nl B) p.2=val p.1 (aF A)*B)
  (fun p=>nl A-p.1) (0,fun _=>0) hv ⟨by simp,fun _ _=>by simp,fun _ _=>rfl,?_⟩ ?_
 ·simp only
  rw[val_zero fun _ _=>rfl]
  simp[val]
 rintro⟨i,o⟩ ⟨hi,ho,ho0,hval⟩
 simp only at hi ho ho0 hval
 refine au.hole [0] ag (show au P c0 nq.ntmps (part qZ [0]) _ _ from au.bC hT fG hm 60 lZ Vj ag ?_)
 simp only[ah.all,bq,bw]
 refine⟨fun h1 s' hv=>cO ?_,fun h1 s' hv=>sY (fO (cO ?_))⟩
 ·have hin:i<nl A:=aa
  have la:=dL (N:=A) (i:=i)
  show aH P c0 nq.ntmps [part qZ [1]] s' _
  refine au.hole [0] ag ?_
  show au P c0 nq.ntmps (part qZ [1,0]) s' _
  refine au.qL (i:=1) (y:=uT) ag (au.kK hv (h0 24577) rfl (iw aa) ?_)
  refine au.hole [1,0,1] ag (aH.bC hT fG hm 60 s7 alA ag fun s' hv=>cO ?_)
  refine au.iJ (i:=2) (y:=part uT [1,0,1,0,0]) ag s7 24577 (h0 _) (fun p:Nat×Nat×(Nat->Nat)=>EJ A B i p.2.1 p.1 24576) (fun p=>dA 24576 (nl A+nl B) p.2.2) (fun _=>rfl) (fun _=>iw aa)
   (fun p=>p.1<=nl B/\p.2.1<2^32/\(∀j,j<nl A+nl B->p.2.2 j<2^32)/\(∀j,i+nl B<=j->p.2.2 j=0)/\val (nl A+nl B) p.2.2+p.2.1*2^(32*(i+p.1))=val i (aF A)*B+aF A i*val p.1 (aF B)*2^(32*i))
   (fun p=>nl B-p.1) (0,0,o) hv ⟨by simp,by simp,ho,ho0,by simp[val,hval]⟩ ?_
  rintro⟨j,c,o⟩ ⟨hj,hc,ho,ho0,hval⟩
  simp only at hj hc ho ho0 hval
  refine au.bC hT fG hm 60 s7 alj ag ?_
  have hij:IntKind.i64.wrap ((i:Int)+(j:Int))=((i+j:Nat):Int):=fm aa aa
  have lb:=dL (N:=B) (i:=j)
  simp only[ah.all,aA,bq,bw,hij,bn,Nat.add_zero,beq_iff_eq]
  refine⟨fun h2=>?_,fun h2 s' hv=>fO ?_⟩
  ·have hjm:j<nl B:=aa
   obtain⟨m1,m2,m3⟩:=SV hc la lb (ho (i+j) aa)
   rw[m1]
   refine⟨⟨aa,aa,aa,aa⟩,⟨aa,aa⟩,aa,fun s' hv=>⟨(j+1,(c+aF A i*aF B j+o (i+j))/4294967296,cH o (i+j) ((c+aF A i*aF B j+o (i+j))%4294967296)),dQ hv ?_ ?_,⟨by simp only;omega,m3,iW aa ho,fun k hk=>?_,?_⟩,by simp only;omega⟩⟩
   ·rw[mM,fm (a:=(j:Int)+1) (n:=j+1) aa aa]
    simp only[EJ,List.cons.injEq,AV.int.injEq,and_true,true_and]
    omega
   ·simp only[dA]
    congr 3
    funext k
    exact iu (by rw[j3]) k
   ·exact(ga aa).trans (ho0 k hk)
   ·simp only
    rw[show 32*(i+(j+1))=32*((i+j)+1) by omega,iG,val]
    have hset:=Ih (o:=o) (x:=(c+aF A i*aF B j+o (i+j))%4294967296) (show i+j<nl A+nl B by omega)
    exact QH rfl (Nat.div_add_mod _ _) hset (by rw[<-Nat.pow_add];congr 1;omega) hval
  ·show aH P c0 nq.ntmps (behind uT [1,0,1]) s' _
   have hjm:j=nl B:=aa
   have hib:IntKind.i64.wrap ((i:Int)+(nl B:Int))=((i+nl B:Nat):Int):=fm aa aa
   refine aH.fJ hT fG hm 60 hv (h0 24577) rfl (iw aa) lZ aet ag ag ?_
   rw[hib]
   simp only[ah.all,aA,bn,Nat.add_zero,beq_iff_eq]
   refine⟨⟨aa,aa⟩,fun s' hv=>?_⟩
   have hf:(fun k=>if k=i+nl B then AV.int .u32 (IntKind.u32.wrap (c:Int))else aD o k)=aD (cH o (i+nl B) c):=by
    funext k
    exact iu (wrap_u32 aa aa) k
   rw[hf]at hv
   show aH P c0 nq.ntmps [part qZ [1,1]] s' _
   refine aH.fJ hT fG hm 60 hv (h0 24577) rfl (iw aa) lZ YA ag ag fun s' hv=>cO ?_
   refine⟨(i+1,cH o (i+nl B) c),dQ hv ?_ rfl,⟨by simp only;omega,iW hc ho,fun k hk=>(ga (by simp only at hk;omega)).trans (ho0 k (by simp only at hk;omega)),?_⟩,by simp only;omega⟩
   ·rw[fm (a:=(i:Int)+1) (n:=i+1) aa aa]
   ·simp only
    rw[hjm,gA]at hval
    rw[rS aa (ho0 _ aa),hval,val,Nat.add_mul,Nat.mul_assoc,Nat.mul_assoc,Nat.mul_comm B]
 ·have hin:i=nl A:=aa
  refine aH.kO hT fG hm 60 hv (h0 _) rfl (iw aa) Zt ag ag ?_
  simp only[ah.all,aA,Nat.add_zero,kg]
  refine⟨⟨gF ho,aa⟩,dO (congrArg AV.mag ?_)⟩
  rw[hval,hin,gA]
def Kb:Spec:=oD (fun A B=>.mag (A*B)) fun A B=>[nl A<2^39,nl B<2^39]
theorem R4:aW P Kb A4:=qe fun h=>Xg h.1 h.2
theorem Sk {v b r A:Nat} (h:v*b+r=A) (hr:r<b):A/b=v/\A%b=r:=by
 subst h
 refine⟨?_,?_⟩
 ·rw[Nat.mul_comm,Nat.mul_add_div aa,Nat.div_eq_of_lt hr,Nat.add_zero]
 ·rw[Nat.mul_comm,Nat.mul_add_mod,Nat.mod_eq_of_lt hr]
theorem anM {A b:Nat} (hA:nl A<2^40) (hb0:0<b) (hb32:b<2^32) (K:Nat):aQ P zq K [.mag A,.int .u32 b] [] (aJ (.tuple [.mag (A/b),.int .u32 (A%b:Nat)]) []):=by
 refine fc hT ajA rfl aX rfl (fun _ c0 h0=>?_) K []
 refine au.hole [1,1,1,0,1] ag (aH.bC hT fG hm 60 tL amm ag ?_)
 simp only[ah.all,aA,bn]
 refine⟨aa,fun s' hv=>cO ?_⟩
 refine au.iJ (i:=0) (y:=Sy) ag tL 16385 (h0 _) (fun p:Nat×Nat×(Nat->Nat)=>Kf A b p.2.1 p.1 16384) (fun p=>dA 16384 (nl A) p.2.2) (fun _=>rfl) (fun _=>iw aa)
  (fun p=>p.1<=nl A/\p.2.1<b/\(∀j,j<nl A->p.2.2 j<2^32)/\(∀j,j<p.1->p.2.2 j=0)/\val (nl A) p.2.2*b+p.2.1*2^(32*p.1)+val p.1 (aF A)=A)
  (fun p=>p.1) (nl A,0,fun _=>0) (dQ hv (by rw[wrap_i64 aa aa];rfl) rfl) ⟨by simp,hb0,fun j _=>by simp,fun j _=>rfl,?_⟩ ?_
 ·simp only
  rw[val_zero fun _ _=>rfl,gA]
  simp
 rintro⟨k,r,o⟩ ⟨hk,hr,ho,ho0,hval⟩
 simp only at hk hr ho ho0 hval
 refine au.bC hT fG hm 60 tL am6 ag ?_
 simp only[ah.all,aA,bq,bw,Nat.add_zero,beq_iff_eq]
 have hbw:IntKind.u64.wrap (b:Int)=(b:Int):=cu aa aa
 refine⟨fun hb=>?_,fun hb s' hv=>fO (cO ?_)⟩
 ·obtain⟨j,rfl⟩:∃j,k=j+1:=⟨k-1,aa⟩
  have e:(((j+1:Nat):Int)-1).toNat=j:=aa
  have hzj:=dL (N:=A) (i:=j)
  have hor:=wz (a:=r) (b:=aF A j) aa hzj
  rw[e,hor,hbw]
  have hq1:(r*4294967296+aF A j)/b<2^32:=by
   rw[Nat.div_lt_iff_lt_mul hb0]
   have:(r+1)*4294967296<=b*4294967296:=Nat.mul_le_mul_right _ hr
   omega
  have hdm:=Nat.div_add_mod (r*4294967296+aF A j) b
  refine⟨⟨aa,aa,aa⟩,⟨aa,⟨aa,aa⟩,aa⟩,aa,fun s' hv=>⟨(j,(r*4294967296+aF A j)%b,cH o j ((r*4294967296+aF A j)/b)),dQ hv ?_ ?_,⟨by simp only;omega,Nat.mod_lt _ hb0,iW hq1 ho,fun i hi=>?_,?_⟩,by simp only;omega⟩⟩
  ·rw[<-Int.ofNat_tmod,wrap_i64 aa aa,show((j+1:Nat):Int)-1-1=(j:Int)-1 by omega]
  ·simp only[dA]
   congr 3
   funext i
   refine iu ?_ i
   rw[<-Int.ofNat_tdiv]
   clear hdm
   generalize (r*4294967296+aF A j)/b=q at hq1 ⊢
   rw[cu aa aa,wrap_u32 aa aa]
  ·exact(ga (by simp only at hi;omega)).trans (ho0 i (by simp only at hi;omega))
  ·simp only
   rw[rS aa (ho0 j aa)]
   rw[iG,val]at hval
   exact NS hval hdm.symm
 ·have hk0:k=0:=aa
  have hv2:val (nl A) o*b+r=A:=by rw[hk0]at hval;simpa [val]using hval
  refine aH.kO hT fG hm 60 hv (h0 _) rfl (iw aa) aiX ag ag ?_
  simp only[ah.all,aA,Nat.add_zero,kg]
  obtain⟨hdiv,hmod⟩:=Sk hv2 hr
  exact⟨⟨gF ho,hA⟩,dO (congrArg AV.mag hdiv.symm),bK (by rw[hmod,wrap_u32 aa aa]),trivial⟩
def J3:Spec:=bY fun l=>match l with
 |[a,.int .u32 b]=>match jB a with
  |some A=>some (aJ (.tuple [.mag (A/b.toNat),.int .u32 (A%b.toNat:Nat)]) [nl A<2^40,0<b,b<2^32])
  |none=>none
 |_=>none
theorem Nc:aW P J3 zq:=by
 refine cJ fun K args r hk hs _=>?_
 split at hs
 ·rename_i a b
  split at hs
  ·rename_i A hA
   simp only[az]at hs
   subst hs
   intro need
   obtain⟨h1,h2,h3⟩:nl A<2^40/\0<b/\b<2^32:=need
   obtain⟨b,rfl⟩:=Int.eq_ofNat_of_zero_le (Int.le_of_lt h2)
   exact gZ (anM h1 aa aa K) hk ⟨mF hA,.refl _,trivial⟩ [] trivial
  ·simp at hs
 ·simp at hs
end Go.Am.B
