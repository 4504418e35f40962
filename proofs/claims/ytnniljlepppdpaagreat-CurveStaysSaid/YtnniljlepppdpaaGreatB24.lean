/- ref01: minus, Sub, Mul, byLimb. -/
import Derived.Test.YtnniljlepppdpaaGreatB23
set_option linter.unusedVariables false
noncomputable section
namespace Go.Am.B
open Go Go.Am.N AV
theorem Yi:aR P Bt vl (az vl):=aS Proofs.Tryz.func210 ag ag ag
theorem al1:aR P Du Cr (az Cr):=aS Proofs.Tryz.func115 ag ag ag
theorem alR:aR P zK ng (az ng):=aS Proofs.Tryz.func102 ag ag ag
theorem agJ:aR P xF vq (az vq):=aS Proofs.Tryz.func248 ag ag ag
abbrev pD:List Nat:=[0,1,5,6,7]
abbrev xV (A B c i K:Nat):List AV:=[.mag A,.mag B,.own K 1 0 (nl A),.int .u64 c,.int .i64 i]
abbrev dy (K n:Nat) (o:Nat->Nat):aF:=[(K,⟨true,true,1,n,aB o⟩)]
abbrev PG:Code:=part (az vl) [1,1,1,0,1,0,0]
theorem aax {A B:Nat}:aI T fh [] 60 pD (before (az vl) [1,1,1,0,1]) ⟨aP 0 [.mag A,.mag B],[],0⟩=
  let c1:Int:=(↑(nl A):Int);some (ah.aj [(0:Int)<=c1/\c1<=c1/\c1<=(2:Int)^47/\c1*(↑(4:Nat):Int)<=(2:Int)^47] (ah.leaf aq.normal ([mag A,mag B,own 12288 1 0 c1.toNat,int IntKind.u64 (0:Int),int IntKind.i64 (0:Int)],[(12288,au.mk true true 1 c1.toNat fun x=>int IntKind.u32 (0:Int))]))):=ag
theorem Zb {A B c i:Nat} {o:Nat->Nat}:aI T fh [16,23,38] 60 pD [PG] ⟨aE pD (xV A B c i 12288),dy 12288 (nl A) o,12289⟩=
  let c13:Int:=(↑c:Int);let c8:Int:=(↑i:Int);let c5:AV:=own 12288 1 0 (nl A);let c4:List AV:=[int IntKind.i64 (IntKind.i64.wrap (c8+(1:Int)))];let c1:Nat:=c8.toNat;let c11:Prop:=(0:Int)<=c8/\c1<nl A;let c10:List AV:=mag A::mag B::c5::int IntKind.u64 (0:Int)::c4;let c9:List AV:=mag A::mag B::c5::int IntKind.u64 (1:Int)::c4;let c7:Nat:=c1+0;let c3:Int:=IntKind.u64.wrap (c13+IntKind.u64.wrap (↑(aC B c1):Int));let c2:Int:=IntKind.u64.wrap (↑(aC A c1):Int);let c12:Int:=IntKind.u64.wrap (c2+(4294967296:Int));let c6:List Prop:=[c11,c7<nl A];some (ah.fork (decide (c8<(↑(nl A):Int))) (ah.fork (decide (c8<(↑(nl B):Int))) (ah.aj [(0:Int)<=c8/\c1<nl B] (ah.aj [c11] (ah.fork (decide (c2<c3)) (ah.aj c6 (ah.leaf aq.normal (c9,[(12288,au.mk true true 1 (nl A) fun j=>if(j==c7)=true then int IntKind.u32 (IntKind.u32.wrap (IntKind.u64.wrap (c12-c3)))else aB o j)]))) (ah.aj c6 (ah.leaf aq.normal (c10,[(12288,au.mk true true 1 (nl A) fun j=>if(j==c7)=true then int IntKind.u32 (IntKind.u32.wrap (IntKind.u64.wrap (c2-c3)))else aB o j)])))))) (ah.aj [c11] (ah.fork (decide (c2<c13)) (ah.aj c6 (ah.leaf aq.normal (c9,[(12288,au.mk true true 1 (nl A) fun j=>if(j==c7)=true then int IntKind.u32 (IntKind.u32.wrap (IntKind.u64.wrap (c12-c13)))else aB o j)]))) (ah.aj c6 (ah.leaf aq.normal (c10,[(12288,au.mk true true 1 (nl A) fun j=>if(j==c7)=true then int IntKind.u32 (IntKind.u32.wrap (IntKind.u64.wrap (c2-c13)))else aB o j)])))))) (ah.leaf (aq.exit 0) ([mag A,mag B,c5,int IntKind.u64 c13,int IntKind.i64 c8],[(12288,au.mk true true 1 (nl A) fun a=>int IntKind.u32 (↑(o a):Int))]))):=ag
theorem abD {A B c i:Nat} {o:Nat->Nat}:cJ T fh [] 60 vl (behind (az vl) [1,1,1,0,1]) ⟨aE pD (xV A B c i 12288),dy 12288 (nl A) o,12289⟩=
  some (ah.aj [dZ (nl A) fun i=>aB o (i+0),nl A<2^40] (ah.leaf aq.ret [mag (val (nl A) fun i=>numOf (aB o (i+0)))])):=ag
abbrev lC:List Nat:=[0,1,5,6]
abbrev yb (A B i K:Nat):List AV:=[.mag A,.mag B,.own K 1 0 (nl A+nl B),.int .i64 i]
abbrev rM:List Nat:=[0,1,5,6,7,8]
abbrev EM (A B i c j K:Nat):List AV:=[.mag A,.mag B,.own K 1 0 (nl A+nl B),.int .i64 i,.int .u64 c,.int .i64 j]
abbrev qL:Code:=part (az ng) [1,1,0,1,0,0]
abbrev uC:Code:=part qL [1,0,0]
theorem ae1 {A B:Nat}:aI T fh [] 60 lC (before (az ng) [1,1,0,1]) ⟨aP 0 [.mag A,.mag B],[],0⟩=
  let c1:Int:=IntKind.i64.wrap ((↑(nl A):Int)+(↑(nl B):Int));some (ah.aj [(0:Int)<=c1/\c1<=c1/\c1<=(2:Int)^47/\c1*(↑(4:Nat):Int)<=(2:Int)^47] (ah.leaf aq.normal ([mag A,mag B,own 24576 1 0 c1.toNat,int IntKind.i64 (0:Int)],[(24576,au.mk true true 1 c1.toNat fun x=>int IntKind.u32 (0:Int))]))):=ag
theorem ae6 {A B i:Nat} {o:Nat->Nat}:aI T fh [18] 60 lC [part qL [0]] ⟨aE lC (yb A B i 24576),dy 24576 (nl A+nl B) o,24577⟩=
  let c1:List AV×aF:=([mag A,mag B,own 24576 1 0 (nl A+nl B),int IntKind.i64 (↑i:Int)],[(24576,au.mk true true 1 (nl A+nl B) fun a=>int IntKind.u32 (↑(o a):Int))]);some (ah.fork (decide ((↑i:Int)<(↑(nl A):Int))) (ah.leaf aq.normal c1) (ah.leaf (aq.exit 0) c1)):=ag
theorem Y2 {A B i:Nat} {o:Nat->Nat}:aI T fh [] 60 rM (before uC [1,0,1]) ⟨aE lC (yb A B i 24576),dy 24576 (nl A+nl B) o,24577⟩=
  some (ah.leaf aq.normal ([mag A,mag B,own 24576 1 0 (nl A+nl B),int IntKind.i64 (↑i:Int),int IntKind.u64 (0:Int),int IntKind.i64 (0:Int)],[(24576,au.mk true true 1 (nl A+nl B) fun a=>int IntKind.u32 (↑(o a):Int))])):=ag
theorem amz {A B i c j:Nat} {o:Nat->Nat}:aI T fh [24] 60 rM [part uC [1,0,1,0,0]] ⟨aE rM (EM A B i c j 24576),dy 24576 (nl A+nl B) o,24577⟩=
  let c7:Int:=(↑i:Int);let c5:Int:=(↑j:Int);let c4:Nat:=nl A+nl B;let c6:AV:=own 24576 1 0 c4;let c1:Int:=IntKind.i64.wrap (c7+c5);let c3:Nat:=c1.toNat+0;let c8:List Prop:=[(0:Int)<=c1/\c1.toNat<c4,c3<c4];let c2:Int:=IntKind.u64.wrap ((↑c:Int)+IntKind.u64.wrap (IntKind.u64.wrap (IntKind.u64.wrap (↑(aC A c7.toNat):Int)*IntKind.u64.wrap (↑(aC B c5.toNat):Int))+IntKind.u64.wrap (↑(o c3):Int)));some (ah.fork (decide (c5<(↑(nl B):Int))) (ah.aj (((0:Int)<=c7/\c7.toNat<nl A)::((0:Int)<=c5/\c5.toNat<nl B)::c8) (ah.aj c8 (ah.aj [(0:Int)<=(32:Int)] (ah.leaf aq.normal ([mag A,mag B,c6,int IntKind.i64 c7,int IntKind.u64 (c2.fdiv ((2:Int)^min (Int.toNat (32:Int)) IntKind.u64.bits)),int IntKind.i64 (IntKind.i64.wrap (c5+(1:Int)))],[(24576,au.mk true true 1 c4 fun j=>if(j==c3)=true then int IntKind.u32 (IntKind.u32.wrap c2)else aB o j)]))))) (ah.leaf (aq.exit 2) ([mag A,mag B,c6,int IntKind.i64 c7,int IntKind.u64 (↑c:Int),int IntKind.i64 c5],[(24576,au.mk true true 1 c4 fun a=>int IntKind.u32 (↑(o a):Int))]))):=ag
theorem aiG {A B i c j:Nat} {o:Nat->Nat}:aI T fh [] 60 lC (behind uC [1,0,1]) ⟨aE rM (EM A B i c j 24576),dy 24576 (nl A+nl B) o,24577⟩=
  let c3:Nat:=nl A+nl B;let c1:Int:=IntKind.i64.wrap ((↑i:Int)+(↑(nl B):Int));let c2:Nat:=c1.toNat+0;some (ah.aj [(0:Int)<=c1/\c1.toNat<c3,c2<c3] (ah.leaf aq.normal ([mag A,mag B,own 24576 1 0 c3,int IntKind.i64 (↑i:Int)],[(24576,au.mk true true 1 c3 fun j=>if(j==c2)=true then int IntKind.u32 (IntKind.u32.wrap (↑c:Int))else aB o j)]))):=ag
theorem aaw {A B i:Nat} {o:Nat->Nat}:aI T fh [] 60 lC [part qL [1,1]] ⟨aE lC (yb A B i 24576),dy 24576 (nl A+nl B) o,24577⟩=
  some (ah.leaf aq.normal ([mag A,mag B,own 24576 1 0 (nl A+nl B),int IntKind.i64 (IntKind.i64.wrap ((↑i:Int)+(1:Int)))],[(24576,au.mk true true 1 (nl A+nl B) fun a=>int IntKind.u32 (↑(o a):Int))])):=ag
theorem aac {A B i:Nat} {o:Nat->Nat}:cJ T fh [] 60 ng (behind (az ng) [1,1,0,1]) ⟨aE lC (yb A B i 24576),dy 24576 (nl A+nl B) o,24577⟩=
  some (ah.aj [dZ (nl A+nl B) fun i=>aB o (i+0),nl A+nl B<2^40] (ah.leaf aq.ret [mag (val (nl A+nl B) fun i=>numOf (aB o (i+0)))])):=ag
abbrev tU:List Nat:=[0,1,6,7,8]
abbrev HV (A b r k K:Nat):List AV:=[.mag A,.int .u32 b,.own K 1 0 (nl A),.int .u64 r,.int .i64 ((k:Int)-1)]
abbrev Qm:Code:=part (az vq) [1,1,1,0,1,0,0]
theorem amI {A b:Nat}:aI T fh [] 60 tU (before (az vq) [1,1,1,0,1]) ⟨aP 0 [.mag A,.int .u32 b],[],0⟩=
  let c1:Int:=(↑(nl A):Int);some (ah.aj [(0:Int)<=c1/\c1<=c1/\c1<=(2:Int)^47/\c1*(↑(4:Nat):Int)<=(2:Int)^47] (ah.leaf aq.normal ([mag A,int IntKind.u32 (↑b:Int),own 16384 1 0 c1.toNat,int IntKind.u64 (0:Int),int IntKind.i64 (IntKind.i64.wrap (c1-(1:Int)))],[(16384,au.mk true true 1 c1.toNat fun x=>int IntKind.u32 (0:Int))]))):=ag
theorem ahZ {A b r k:Nat} {o:Nat->Nat}:aI T fh [16] 60 tU [Qm] ⟨aE tU (HV A b r k 16384),dy 16384 (nl A) o,16385⟩=
  let c7:AV:=int IntKind.u32 (↑b:Int);let c4:AV:=own 16384 1 0 (nl A);let c3:Int:=IntKind.u64.wrap (↑b:Int);let c2:Int:=(↑k:Int)-(1:Int);let c6:Prop:=(0:Int)<=c2/\c2.toNat<nl A;let c5:Nat:=c2.toNat+0;let c1:Int:=IntKind.u64.wrap (↑(BitVec.ofInt IntKind.u64.bits (IntKind.u64.wrap ((↑r:Int)*(2:Int)^min (Int.toNat (32:Int)) IntKind.u64.bits))|||BitVec.ofInt IntKind.u64.bits (IntKind.u64.wrap (↑(aC A c2.toNat):Int))).toNat:Int);some (ah.fork (decide (c2>=(0:Int))) (ah.aj [(0:Int)<=(32:Int),c6] (ah.aj [c3≠(0:Int),c6,c5<nl A] (ah.aj [c3≠(0:Int)] (ah.leaf aq.normal ([mag A,c7,c4,int IntKind.u64 (c1.tmod c3),int IntKind.i64 (IntKind.i64.wrap (c2-(1:Int)))],[(16384,au.mk true true 1 (nl A) fun j=>if(j==c5)=true then int IntKind.u32 (IntKind.u32.wrap (IntKind.u64.wrap (c1.tdiv c3)))else aB o j)]))))) (ah.leaf (aq.exit 0) ([mag A,c7,c4,int IntKind.u64 (↑r:Int),int IntKind.i64 c2],[(16384,au.mk true true 1 (nl A) fun a=>int IntKind.u32 (↑(o a):Int))]))):=ag
theorem aaV {A b r k:Nat} {o:Nat->Nat}:cJ T fh [] 60 vq (behind (az vq) [1,1,1,0,1]) ⟨aE tU (HV A b r k 16384),dy 16384 (nl A) o,16385⟩=
  some (ah.aj [dZ (nl A) fun i=>aB o (i+0),nl A<2^40] (ah.leaf aq.ret [mag (val (nl A) fun i=>numOf (aB o (i+0))),int IntKind.u32 (IntKind.u32.wrap (↑r:Int))])):=ag
def Tb:aX:=[(sq,Au),(Bt,nS (fun A B=>.mag (A-B)) fun A B=>[B<=A,nl A<2^40])]
theorem abX {A B:Nat}:bS T Tb [9] 60 Cr (az Cr) ⟨aP 0 [.mag A,.mag B],[],0⟩=
  let c1:Nat:=2^40;some (ah.aj [nl A<c1,nl B<c1] (ah.fork (decide (cZ A B<(0:Int))) (ah.leaf aq.ret [nil,int IntKind.i64 (7:Int)]) (ah.aj [B<=A,nl A<c1] (ah.leaf aq.ret [mag (A-B),int IntKind.i64 (0:Int)])))):=ag
theorem ia {K n nx:Nat} {o:Nat->Nat} (h:K<nx):gW nx (dy K n o):=⟨⟨h,fun _ _=>rfl⟩,trivial⟩
theorem VY {vo va vb ai x c b' un u' B:Nat} (hx:x=c+b') (hu:un+x=ai+4294967296*u') (h:va+c*B=vo+vb):va+ai*B+u'*(4294967296*B)=vo+un*B+(vb+b'*B):=by
 have e:(un+x)*B=(ai+4294967296*u')*B:=by rw[hu]
 subst hx
 grind
theorem MQ {A B:Nat} (hAB:B<=A) (hA:nl A<2^40) (K:Nat):aD P Bt K [.mag A,.mag B] [] (aK (.mag (A-B)) []):=by
 have hB:nl B<=nl A:=iA hAB
 refine iP hT Yi rfl aW rfl (fun _ c0 h0=>?_) K []
 refine ay.hole [1,1,1,0,1] ag (aG.bB hT fB hm 60 pD aax ag ?_)
 simp only[ah.all,aA,aZ]
 refine⟨aa,fun s' hv=>cF ?_⟩
 refine ay.iC (i:=0) (y:=PG) ag pD 12289 (h0 _) (fun p:Nat×Nat×(Nat->Nat)=>xV A B p.2.1 p.1 12288) (fun p=>dy 12288 (nl A) p.2.2) (fun _=>rfl) (fun _=>ia aa)
  (fun p=>p.1<=nl A/\p.2.1<=1/\(∀j,j<nl A->p.2.2 j<2^32)/\val p.1 (aC A)+p.2.1*2^(32*p.1)=val p.1 p.2.2+val p.1 (aC B))
  (fun p=>nl A-p.1) (0,0,fun _=>0) hv ⟨by simp,by simp,fun _ _=>by simp,by simp[val]⟩ ?_
 rintro⟨i,c,o⟩ ⟨hi,hc,ho,hval⟩
 simp only at hi hc ho hval
 refine ay.bB hT fB hm 60 pD Zb ag ?_
 have la:=dK (N:=A) (i:=i)
 have lb:=dK (N:=B) (i:=i)
 have wa:IntKind.u64.wrap (aC A i:Int)=((aC A i:Nat):Int):=cr aa aa
 have wb:IntKind.u64.wrap (aC B i:Int)=((aC B i:Nat):Int):=cr aa aa
 have w1:IntKind.u64.wrap ((c:Int)+((aC B i:Nat):Int))=((c+aC B i:Nat):Int):=by rw[cr aa aa];omega
 have w2:IntKind.u64.wrap (((aC A i:Nat):Int)+4294967296)=((aC A i+4294967296:Nat):Int):=by rw[cr aa aa];omega
 have w3:IntKind.i64.wrap ((i:Int)+1)=((i+1:Nat):Int):=by rw[wrap_i64 aa aa];omega
 simp only[ah.all,aA,bh,bz,aZ,Nat.add_zero,beq_iff_eq]
 rw[wa,wb,w1,w2,w3]
 -- what is put down
 have next:∀{s':aJ} {x u':Nat} {v:Int},i<nl A->x=c+aC B i->u'<=1->x<=aC A i+4294967296*u'->aC A i+4294967296*u'<x+4294967296->v=((aC A i+4294967296*u'-x:Nat):Int)->
   bw pD s'=some (xV A B u' (i+1) 12288,[(12288,⟨true,true,1,nl A,fun j=>if j=i then .int .u32 (IntKind.u32.wrap (IntKind.u64.wrap v))else aB o j⟩)])->
   ∃k:Nat×Nat×(Nat->Nat),bw pD s'=some (xV A B k.2.1 k.1 12288,dy 12288 (nl A) k.2.2)/\(k.1<=nl A/\k.2.1<=1/\(∀j,j<nl A->k.2.2 j<2^32)/\val k.1 (aC A)+k.2.1*2^(32*k.1)=val k.1 k.2.2+val k.1 (aC B))/\nl A-k.1<nl A-i:=by
  intro s' x u' v hin hx hu1 h1 h2 hv1 hv
  refine⟨(i+1,u',cA o i (aC A i+4294967296*u'-x)),dP hv rfl ?_,⟨by simp only;omega,hu1,iN aa ho,?_⟩,by simp only;omega⟩
  ·simp only[dy]
   congr 3
   funext k
   exact g9 (by rw[hv1,cr aa aa,wrap_u32 aa aa]) k
  ·simp only
   rw[rE,val,val,iy]
   exact VY (b':=aC B i) (x:=x) hx aa hval
 refine⟨fun hb=>⟨fun hb2=>⟨aa,aa,fun h3=>⟨⟨aa,aa⟩,fun s' hv=>?_⟩,fun h3=>⟨⟨aa,aa⟩,fun s' hv=>?_⟩⟩,fun hb2=>⟨aa,fun h3=>⟨⟨aa,aa⟩,fun s' hv=>?_⟩,fun h3=>⟨⟨aa,aa⟩,fun s' hv=>?_⟩⟩⟩,fun hb s' hv=>fN (cF ?_)⟩
 ·exact next (u':=1) aa rfl aa aa aa aa hv
 ·exact next (u':=0) aa rfl aa aa aa aa hv
 ·exact next (u':=1) (x:=c) aa (by rw[jT (A:=B) aa];rfl) aa aa aa aa hv
 ·exact next (u':=0) (x:=c) aa (by rw[jT (A:=B) aa];rfl) aa aa aa aa hv
 ·have hin:i=nl A:=aa
  refine aG.k8 hT fB hm 60 hv (h0 _) rfl (ia aa) abD ag ag ?_
  simp only[ah.all,aA,Nat.add_zero,j6]
  refine⟨⟨gE ho,hA⟩,dL (congrArg AV.mag ?_)⟩
  rw[hin,gu,qi (dB.1 hB)]at hval
  have hlt:=gh ho
  have:c=0:=by
   rcases Nat.eq_zero_or_pos c with h|h
   ·exact h
   ·exfalso
    have h1:1*2^(32*nl A)<=c*2^(32*nl A):=Nat.mul_le_mul_right _ h
    omega
  rw[this]at hval
  omega
theorem abW:bq P Tb:=aH Bb (aH (rB fun h=>MQ h.1 h.2) bC)
theorem WZ {A B:Nat} (hA:nl A<2^40) (hB:nl B<2^40) (K:Nat):aD P Du K [.mag A,.mag B] [] (aK (.tuple [.mag (A-B),.int .i64 (if A<B then 7 else 0)]) []):=by
 refine bY hT abW hm al1 rfl aW rfl 60 abX (fun _=>?_) K []
 simp only[ah.all,aA,bh,bz,Fq]
 refine⟨⟨hA,hB⟩,fun h=>⟨?_,bN (by rw[if_pos h]),trivial⟩,fun h=>⟨⟨aa,hA⟩,.refl _,bN (by rw[if_neg h]),trivial⟩⟩
 rw[Nat.sub_eq_zero_of_le aa];exact lO
def NU:Spec:=nS (fun A B=>.tuple [.mag (A-B),.int .i64 (if A<B then 7 else 0)]) La
theorem ZT:∀K args pre r,NU K args pre=some r->aD P Du K args pre r:=rB fun h=>WZ h.1 h.2
theorem YF {A B:Nat} (hA:nl A<2^39) (hB:nl B<2^39) (K:Nat):aD P zK K [.mag A,.mag B] [] (aK (.mag (A*B)) []):=by
 refine iP hT alR rfl aW rfl (fun _ c0 h0=>?_) K []
 refine ay.hole [1,1,0,1] ag (aG.bB hT fB hm 60 lC ae1 ag ?_)
 have hw:IntKind.i64.wrap ((nl A:Int)+(nl B:Int))=((nl A+nl B:Nat):Int):=eV aa aa
 rw[hw]
 simp only[ah.all,aA,aZ]
 refine⟨aa,fun s' hv=>cF ?_⟩
 refine ay.iC (i:=0) (y:=qL) ag lC 24577 (h0 _) (fun p:Nat×(Nat->Nat)=>yb A B p.1 24576) (fun p=>dy 24576 (nl A+nl B) p.2) (fun _=>rfl) (fun _=>ia aa)
  (fun p=>p.1<=nl A/\(∀j,j<nl A+nl B->p.2 j<2^32)/\(∀j,p.1+nl B<=j->p.2 j=0)/\val (nl A+nl B) p.2=val p.1 (aC A)*B)
  (fun p=>nl A-p.1) (0,fun _=>0) hv ⟨by simp,fun _ _=>by simp,fun _ _=>rfl,?_⟩ ?_
 ·simp only
  rw[val_zero fun _ _=>rfl]
  simp[val]
 rintro⟨i,o⟩ ⟨hi,ho,ho0,hval⟩
 simp only at hi ho ho0 hval
 refine ay.hole [0] ag (show ay P c0 ng.ntmps (part qL [0]) _ _ from ay.bB hT fB hm 60 lC ae6 ag ?_)
 simp only[ah.all,bh,bz]
 refine⟨fun h1 s' hv=>cF ?_,fun h1 s' hv=>tZ (fN (cF ?_))⟩
 ·have hin:i<nl A:=aa
  have la:=dK (N:=A) (i:=i)
  show aG P c0 ng.ntmps [part qL [1]] s' _
  refine ay.hole [0] ag ?_
  show ay P c0 ng.ntmps (part qL [1,0]) s' _
  refine ay.q9 (i:=1) (y:=uC) ag (ay.kM hv (h0 24577) rfl (ia aa) ?_)
  refine ay.hole [1,0,1] ag (aG.bB hT fB hm 60 rM Y2 ag fun s' hv=>cF ?_)
  refine ay.iC (i:=2) (y:=part uC [1,0,1,0,0]) ag rM 24577 (h0 _) (fun p:Nat×Nat×(Nat->Nat)=>EM A B i p.2.1 p.1 24576) (fun p=>dy 24576 (nl A+nl B) p.2.2) (fun _=>rfl) (fun _=>ia aa)
   (fun p=>p.1<=nl B/\p.2.1<2^32/\(∀j,j<nl A+nl B->p.2.2 j<2^32)/\(∀j,i+nl B<=j->p.2.2 j=0)/\val (nl A+nl B) p.2.2+p.2.1*2^(32*(i+p.1))=val i (aC A)*B+aC A i*val p.1 (aC B)*2^(32*i))
   (fun p=>nl B-p.1) (0,0,o) hv ⟨by simp,by simp,ho,ho0,by simp[val,hval]⟩ ?_
  rintro⟨j,c,o⟩ ⟨hj,hc,ho,ho0,hval⟩
  simp only at hj hc ho ho0 hval
  refine ay.bB hT fB hm 60 rM amz ag ?_
  have hij:IntKind.i64.wrap ((i:Int)+(j:Int))=((i+j:Nat):Int):=eV aa aa
  have lb:=dK (N:=B) (i:=j)
  simp only[ah.all,aA,bh,bz,hij,aZ,Nat.add_zero,beq_iff_eq]
  refine⟨fun h2=>?_,fun h2 s' hv=>fN ?_⟩
  ·have hjm:j<nl B:=aa
   obtain⟨m1,m2,m3⟩:=Mt hc la lb (ho (i+j) aa)
   rw[m1]
   refine⟨⟨aa,aa,aa,aa⟩,⟨aa,aa⟩,aa,fun s' hv=>⟨(j+1,(c+aC A i*aC B j+o (i+j))/4294967296,cA o (i+j) ((c+aC A i*aC B j+o (i+j))%4294967296)),dP hv ?_ ?_,⟨by simp only;omega,m3,iN aa ho,fun k hk=>?_,?_⟩,by simp only;omega⟩⟩
   ·rw[mE,eV (a:=(j:Int)+1) (n:=j+1) aa aa]
    simp only[EM,List.cons.injEq,AV.int.injEq,and_true,true_and]
    omega
   ·simp only[dy]
    congr 3
    funext k
    exact g9 (by rw[j8]) k
   ·exact(fW aa).trans (ho0 k hk)
   ·simp only
    rw[show 32*(i+(j+1))=32*((i+j)+1) by omega,iy,val]
    have hset:=Ge (o:=o) (x:=(c+aC A i*aC B j+o (i+j))%4294967296) (show i+j<nl A+nl B by omega)
    exact Ri rfl (Nat.div_add_mod _ _) hset (by rw[<-Nat.pow_add];congr 1;omega) hval
  ·show aG P c0 ng.ntmps (behind uC [1,0,1]) s' _
   have hjm:j=nl B:=aa
   have hib:IntKind.i64.wrap ((i:Int)+(nl B:Int))=((i+nl B:Nat):Int):=eV aa aa
   refine aG.fE hT fB hm 60 hv (h0 24577) rfl (ia aa) lC aiG ag ag ?_
   rw[hib]
   simp only[ah.all,aA,aZ,Nat.add_zero,beq_iff_eq]
   refine⟨⟨aa,aa⟩,fun s' hv=>?_⟩
   have hf:(fun k=>if k=i+nl B then AV.int .u32 (IntKind.u32.wrap (c:Int))else aB o k)=aB (cA o (i+nl B) c):=by
    funext k
    exact g9 (wrap_u32 aa aa) k
   rw[hf]at hv
   show aG P c0 ng.ntmps [part qL [1,1]] s' _
   refine aG.fE hT fB hm 60 hv (h0 24577) rfl (ia aa) lC aaw ag ag fun s' hv=>cF ?_
   refine⟨(i+1,cA o (i+nl B) c),dP hv ?_ rfl,⟨by simp only;omega,iN hc ho,fun k hk=>(fW (by simp only at hk;omega)).trans (ho0 k (by simp only at hk;omega)),?_⟩,by simp only;omega⟩
   ·rw[eV (a:=(i:Int)+1) (n:=i+1) aa aa]
   ·simp only
    rw[hjm,gu]at hval
    rw[sS aa (ho0 _ aa),hval,val,Nat.add_mul,Nat.mul_assoc,Nat.mul_assoc,Nat.mul_comm B]
 ·have hin:i=nl A:=aa
  refine aG.k8 hT fB hm 60 hv (h0 _) rfl (ia aa) aac ag ag ?_
  simp only[ah.all,aA,Nat.add_zero,j6]
  refine⟨⟨gE ho,aa⟩,dL (congrArg AV.mag ?_)⟩
  rw[hval,hin,gu]
def Kt:Spec:=nS (fun A B=>.mag (A*B)) fun A B=>[nl A<2^39,nl B<2^39]
theorem Qz:∀K args pre r,Kt K args pre=some r->aD P zK K args pre r:=rB fun h=>YF h.1 h.2
theorem SR {v b r A:Nat} (h:v*b+r=A) (hr:r<b):A/b=v/\A%b=r:=by
 subst h
 refine⟨?_,?_⟩
 ·rw[Nat.mul_comm,Nat.mul_add_div aa,Nat.div_eq_of_lt hr,Nat.add_zero]
 ·rw[Nat.mul_comm,Nat.mul_add_mod,Nat.mod_eq_of_lt hr]
theorem Xl {A b:Nat} (hA:nl A<2^40) (hb0:0<b) (hb32:b<2^32) (K:Nat):aD P xF K [.mag A,.int .u32 b] [] (aK (.tuple [.mag (A/b),.int .u32 (A%b:Nat)]) []):=by
 refine iP hT agJ rfl aW rfl (fun _ c0 h0=>?_) K []
 refine ay.hole [1,1,1,0,1] ag (aG.bB hT fB hm 60 tU amI ag ?_)
 simp only[ah.all,aA,aZ]
 refine⟨aa,fun s' hv=>cF ?_⟩
 refine ay.iC (i:=0) (y:=Qm) ag tU 16385 (h0 _) (fun p:Nat×Nat×(Nat->Nat)=>HV A b p.2.1 p.1 16384) (fun p=>dy 16384 (nl A) p.2.2) (fun _=>rfl) (fun _=>ia aa)
  (fun p=>p.1<=nl A/\p.2.1<b/\(∀j,j<nl A->p.2.2 j<2^32)/\(∀j,j<p.1->p.2.2 j=0)/\val (nl A) p.2.2*b+p.2.1*2^(32*p.1)+val p.1 (aC A)=A)
  (fun p=>p.1) (nl A,0,fun _=>0) (dP hv (by rw[wrap_i64 aa aa];rfl) rfl) ⟨by simp,hb0,fun j _=>by simp,fun j _=>rfl,?_⟩ ?_
 ·simp only
  rw[val_zero fun _ _=>rfl,gu]
  simp
 rintro⟨k,r,o⟩ ⟨hk,hr,ho,ho0,hval⟩
 simp only at hk hr ho ho0 hval
 refine ay.bB hT fB hm 60 tU ahZ ag ?_
 simp only[ah.all,aA,bh,bz,Nat.add_zero,beq_iff_eq]
 have hbw:IntKind.u64.wrap (b:Int)=(b:Int):=cr aa aa
 refine⟨fun hb=>?_,fun hb s' hv=>fN (cF ?_)⟩
 ·obtain⟨j,rfl⟩:∃j,k=j+1:=⟨k-1,aa⟩
  have e:(((j+1:Nat):Int)-1).toNat=j:=aa
  have hzj:=dK (N:=A) (i:=j)
  have hor:=vD (a:=r) (b:=aC A j) aa hzj
  rw[e,hor,hbw]
  have hq1:(r*4294967296+aC A j)/b<2^32:=by
   rw[Nat.div_lt_iff_lt_mul hb0]
   have:(r+1)*4294967296<=b*4294967296:=Nat.mul_le_mul_right _ hr
   omega
  have hdm:=Nat.div_add_mod (r*4294967296+aC A j) b
  refine⟨⟨aa,aa,aa⟩,⟨aa,⟨aa,aa⟩,aa⟩,aa,fun s' hv=>⟨(j,(r*4294967296+aC A j)%b,cA o j ((r*4294967296+aC A j)/b)),dP hv ?_ ?_,⟨by simp only;omega,Nat.mod_lt _ hb0,iN hq1 ho,fun i hi=>?_,?_⟩,by simp only;omega⟩⟩
  ·rw[<-Int.ofNat_tmod,wrap_i64 aa aa,show((j+1:Nat):Int)-1-1=(j:Int)-1 by omega]
  ·simp only[dy]
   congr 3
   funext i
   refine g9 ?_ i
   rw[<-Int.ofNat_tdiv]
   clear hdm
   generalize (r*4294967296+aC A j)/b=q at hq1 ⊢
   rw[cr aa aa,wrap_u32 aa aa]
  ·exact(fW (by simp only at hi;omega)).trans (ho0 i (by simp only at hi;omega))
  ·simp only
   rw[sS aa (ho0 j aa)]
   rw[iy,val]at hval
   exact SY hval hdm.symm
 ·have hk0:k=0:=aa
  have hv2:val (nl A) o*b+r=A:=by rw[hk0]at hval;simpa [val]using hval
  refine aG.k8 hT fB hm 60 hv (h0 _) rfl (ia aa) aaV ag ag ?_
  simp only[ah.all,aA,Nat.add_zero,j6]
  obtain⟨hdiv,hmod⟩:=SR hv2 hr
  exact⟨⟨gE ho,hA⟩,dL (congrArg AV.mag hdiv.symm),bN (by rw[hmod,wrap_u32 aa aa]),trivial⟩
def Iq:Spec:=bU fun l=>match l with
 |[a,.int .u32 b]=>match jr a with
  |some A=>some (aK (.tuple [.mag (A/b.toNat),.int .u32 (A%b.toNat:Nat)]) [nl A<2^40,0<b,b<2^32])
  |none=>none
 |_=>none
theorem Og:∀K args pre r,Iq K args pre=some r->aD P xF K args pre r:=by
 refine cB fun K args r hk hs _=>?_
 split at hs
 ·rename_i a b
  split at hs
  ·rename_i A hA
   simp only[ax]at hs
   subst hs
   intro need
   obtain⟨h1,h2,h3⟩:nl A<2^40/\0<b/\b<2^32:=need
   obtain⟨b,rfl⟩:=Int.eq_ofNat_of_zero_le (Int.le_of_lt h2)
   exact gR (Xl h1 aa aa K) hk ⟨mq hA,.refl _,trivial⟩ [] trivial
  ·simp at hs
 ·simp at hs
end Go.Am.B
