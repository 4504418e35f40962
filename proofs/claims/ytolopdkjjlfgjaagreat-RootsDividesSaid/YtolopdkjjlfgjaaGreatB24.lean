/- ref01: minus, Sub, Mul, byLimb. -/
import Derived.Test.YtolopdkjjlfgjaaGreatB23
set_option linter.unusedVariables false
noncomputable section
namespace Go.Am.B
open Go Go.Am.N AV Proofs.Tryz IntKind
theorem P8:aX 175 f175:=aZ func175
theorem SV:aX 147 f147:=aZ func147
theorem PI:aX 85 f85:=aZ func85
theorem abN:aX 156 f156:=aZ func156
abbrev m9:List Nat:=[0,1,5,6,7]
abbrev wJ (A B c i K:Nat):List AV:=[.mag A,.mag B,.own K 1 0 (nl A),.int .u64 c,.int .i64 i]
abbrev dF (K n:Nat) (o:Nat->Nat):aE:=[(K,⟨true,true,1,n,aB o⟩)]
abbrev LH:Code:=part (aH f175) [1,1,1,0,1,0,0]
theorem adR {A B:Nat}:aG T fh [] 60 m9 (before (aH f175) [1,1,1,0,1]) ⟨aT 0 [.mag A,.mag B],[],0⟩=
  let c1:Int:=(↑(nl A):Int);some (af.aj [(0:Int)<=c1/\c1<=c1/\c1<=2^47/\c1*(↑(4:Nat):Int)<=2^47] (af.leaf aq.normal ([mag A,mag B,own 12288 1 0 c1.toNat,int .u64 (0:Int),int .i64 (0:Int)],[(12288,ax.mk true true 1 c1.toNat fun x=>int .u32 (0:Int))]))):=ah
theorem QN {A B c i:Nat} {o:Nat->Nat}:aG T fh [16,23,38] 60 m9 [LH] ⟨aC m9 (wJ A B c i 12288),dF 12288 (nl A) o,12289⟩=
  let c13:Int:=(↑c:Int);let c8:Int:=(↑i:Int);let c5:AV:=own 12288 1 0 (nl A);let c4:List AV:=[int .i64 (i64.wrap (c8+1))];let c1:Nat:=c8.toNat;let c11:Prop:=(0:Int)<=c8/\c1<nl A;let c10:List AV:=mag A::mag B::c5::int .u64 (0:Int)::c4;let c9:List AV:=mag A::mag B::c5::int .u64 (1:Int)::c4;let c7:Nat:=c1+0;let c3:Int:=u64.wrap (c13+u64.wrap (↑(aD B c1):Int));let c2:Int:=u64.wrap (↑(aD A c1):Int);let c12:Int:=u64.wrap (c2+4294967296);let c6:List Prop:=[c11,c7<nl A];some (af.fork (decide (c8<(↑(nl A):Int))) (af.fork (decide (c8<(↑(nl B):Int))) (af.aj [(0:Int)<=c8/\c1<nl B] (af.aj [c11] (af.fork (decide (c2<c3)) (af.aj c6 (af.leaf aq.normal (c9,[(12288,ax.mk true true 1 (nl A) fun j=>if(j==c7)=true then int .u32 (u32.wrap (u64.wrap (c12-c3)))else aB o j)]))) (af.aj c6 (af.leaf aq.normal (c10,[(12288,ax.mk true true 1 (nl A) fun j=>if(j==c7)=true then int .u32 (u32.wrap (u64.wrap (c2-c3)))else aB o j)])))))) (af.aj [c11] (af.fork (decide (c2<c13)) (af.aj c6 (af.leaf aq.normal (c9,[(12288,ax.mk true true 1 (nl A) fun j=>if(j==c7)=true then int .u32 (u32.wrap (u64.wrap (c12-c13)))else aB o j)]))) (af.aj c6 (af.leaf aq.normal (c10,[(12288,ax.mk true true 1 (nl A) fun j=>if(j==c7)=true then int .u32 (u32.wrap (u64.wrap (c2-c13)))else aB o j)])))))) (af.leaf (aq.exit 0) ([mag A,mag B,c5,int .u64 c13,int .i64 c8],[(12288,ax.mk true true 1 (nl A) fun a=>int .u32 (↑(o a):Int))]))):=ah
theorem PT {A B c i:Nat} {o:Nat->Nat}:cA T fh [] 60 f175 (behind (aH f175) [1,1,1,0,1]) ⟨aC m9 (wJ A B c i 12288),dF 12288 (nl A) o,12289⟩=
  some (af.aj [ej (nl A) fun i=>aB o (i+0),nl A<2^40] (af.leaf aq.ret [mag (val (nl A) fun i=>numOf (aB o (i+0)))])):=ah
abbrev kq:List Nat:=[0,1,5,6]
abbrev wN (A B i K:Nat):List AV:=[.mag A,.mag B,.own K 1 0 (nl A+nl B),.int .i64 i]
abbrev qT:List Nat:=[0,1,5,6,7,8]
abbrev zl (A B i c j K:Nat):List AV:=[.mag A,.mag B,.own K 1 0 (nl A+nl B),.int .i64 i,.int .u64 c,.int .i64 j]
abbrev pn:Code:=part (aH f85) [1,1,0,1,0,0]
abbrev rV:Code:=part pn [1,0,0]
theorem SN {A B:Nat}:aG T fh [] 60 kq (before (aH f85) [1,1,0,1]) ⟨aT 0 [.mag A,.mag B],[],0⟩=
  let c1:Int:=i64.wrap ((↑(nl A):Int)+(↑(nl B):Int));some (af.aj [(0:Int)<=c1/\c1<=c1/\c1<=2^47/\c1*(↑(4:Nat):Int)<=2^47] (af.leaf aq.normal ([mag A,mag B,own 24576 1 0 c1.toNat,int .i64 (0:Int)],[(24576,ax.mk true true 1 c1.toNat fun x=>int .u32 (0:Int))]))):=ah
theorem abl {A B i:Nat} {o:Nat->Nat}:aG T fh [18] 60 kq [part pn [0]] ⟨aC kq (wN A B i 24576),dF 24576 (nl A+nl B) o,24577⟩=
  let c1:List AV×aE:=([mag A,mag B,own 24576 1 0 (nl A+nl B),int .i64 (↑i:Int)],[(24576,ax.mk true true 1 (nl A+nl B) fun a=>int .u32 (↑(o a):Int))]);some (af.fork (decide ((↑i:Int)<(↑(nl A):Int))) (af.leaf aq.normal c1) (af.leaf (aq.exit 0) c1)):=ah
theorem UQ {A B i:Nat} {o:Nat->Nat}:aG T fh [] 60 qT (before rV [1,0,1]) ⟨aC kq (wN A B i 24576),dF 24576 (nl A+nl B) o,24577⟩=
  some (af.leaf aq.normal ([mag A,mag B,own 24576 1 0 (nl A+nl B),int .i64 (↑i:Int),int .u64 (0:Int),int .i64 (0:Int)],[(24576,ax.mk true true 1 (nl A+nl B) fun a=>int .u32 (↑(o a):Int))])):=ah
theorem R8 {A B i c j:Nat} {o:Nat->Nat}:aG T fh [24] 60 qT [part rV [1,0,1,0,0]] ⟨aC qT (zl A B i c j 24576),dF 24576 (nl A+nl B) o,24577⟩=
  let c7:Int:=(↑i:Int);let c5:Int:=(↑j:Int);let c4:Nat:=nl A+nl B;let c6:AV:=own 24576 1 0 c4;let c1:Int:=i64.wrap (c7+c5);let c3:Nat:=c1.toNat+0;let c8:List Prop:=[(0:Int)<=c1/\c1.toNat<c4,c3<c4];let c2:Int:=u64.wrap ((↑c:Int)+u64.wrap (u64.wrap (u64.wrap (↑(aD A c7.toNat):Int)*u64.wrap (↑(aD B c5.toNat):Int))+u64.wrap (↑(o c3):Int)));some (af.fork (decide (c5<(↑(nl B):Int))) (af.aj (((0:Int)<=c7/\c7.toNat<nl A)::((0:Int)<=c5/\c5.toNat<nl B)::c8) (af.aj c8 (af.aj [(0:Int)<=32] (af.leaf aq.normal ([mag A,mag B,c6,int .i64 c7,int .u64 (c2.fdiv ((2:Int)^min (Int.toNat (32:Int)) u64.bits)),int .i64 (i64.wrap (c5+1))],[(24576,ax.mk true true 1 c4 fun j=>if(j==c3)=true then int .u32 (u32.wrap c2)else aB o j)]))))) (af.leaf (aq.exit 2) ([mag A,mag B,c6,int .i64 c7,int .u64 (↑c:Int),int .i64 c5],[(24576,ax.mk true true 1 c4 fun a=>int .u32 (↑(o a):Int))]))):=ah
theorem ZE {A B i c j:Nat} {o:Nat->Nat}:aG T fh [] 60 kq (behind rV [1,0,1]) ⟨aC qT (zl A B i c j 24576),dF 24576 (nl A+nl B) o,24577⟩=
  let c3:Nat:=nl A+nl B;let c1:Int:=i64.wrap ((↑i:Int)+(↑(nl B):Int));let c2:Nat:=c1.toNat+0;some (af.aj [(0:Int)<=c1/\c1.toNat<c3,c2<c3] (af.leaf aq.normal ([mag A,mag B,own 24576 1 0 c3,int .i64 (↑i:Int)],[(24576,ax.mk true true 1 c3 fun j=>if(j==c2)=true then int .u32 (u32.wrap (↑c:Int))else aB o j)]))):=ah
theorem Ns {A B i:Nat} {o:Nat->Nat}:aG T fh [] 60 kq [part pn [1,1]] ⟨aC kq (wN A B i 24576),dF 24576 (nl A+nl B) o,24577⟩=
  some (af.leaf aq.normal ([mag A,mag B,own 24576 1 0 (nl A+nl B),int .i64 (i64.wrap ((↑i:Int)+1))],[(24576,ax.mk true true 1 (nl A+nl B) fun a=>int .u32 (↑(o a):Int))])):=ah
theorem Qn {A B i:Nat} {o:Nat->Nat}:cA T fh [] 60 f85 (behind (aH f85) [1,1,0,1]) ⟨aC kq (wN A B i 24576),dF 24576 (nl A+nl B) o,24577⟩=
  some (af.aj [ej (nl A+nl B) fun i=>aB o (i+0),nl A+nl B<2^40] (af.leaf aq.ret [mag (val (nl A+nl B) fun i=>numOf (aB o (i+0)))])):=ah
abbrev qV:List Nat:=[0,1,6,7,8]
abbrev B8 (A b r k K:Nat):List AV:=[.mag A,.int .u32 b,.own K 1 0 (nl A),.int .u64 r,.int .i64 ((k:Int)-1)]
abbrev Jn:Code:=part (aH f156) [1,1,1,0,1,0,0]
theorem aa5 {A b:Nat}:aG T fh [] 60 qV (before (aH f156) [1,1,1,0,1]) ⟨aT 0 [.mag A,.int .u32 b],[],0⟩=
  let c1:Int:=(↑(nl A):Int);some (af.aj [(0:Int)<=c1/\c1<=c1/\c1<=2^47/\c1*(↑(4:Nat):Int)<=2^47] (af.leaf aq.normal ([mag A,int .u32 (↑b:Int),own 16384 1 0 c1.toNat,int .u64 (0:Int),int .i64 (i64.wrap (c1-1))],[(16384,ax.mk true true 1 c1.toNat fun x=>int .u32 (0:Int))]))):=ah
theorem W6 {A b r k:Nat} {o:Nat->Nat}:aG T fh [16] 60 qV [Jn] ⟨aC qV (B8 A b r k 16384),dF 16384 (nl A) o,16385⟩=
  let c7:AV:=int .u32 (↑b:Int);let c4:AV:=own 16384 1 0 (nl A);let c3:Int:=u64.wrap (↑b:Int);let c2:Int:=(↑k:Int)-1;let c6:Prop:=(0:Int)<=c2/\c2.toNat<nl A;let c5:Nat:=c2.toNat+0;let c1:Int:=u64.wrap (↑(BitVec.ofInt u64.bits (u64.wrap ((↑r:Int)*2^min (Int.toNat (32:Int)) u64.bits))|||BitVec.ofInt u64.bits (u64.wrap (↑(aD A c2.toNat):Int))).toNat:Int);some (af.fork (decide (c2>=0)) (af.aj [(0:Int)<=32,c6] (af.aj [c3≠(0:Int),c6,c5<nl A] (af.aj [c3≠(0:Int)] (af.leaf aq.normal ([mag A,c7,c4,int .u64 (c1.tmod c3),int .i64 (i64.wrap (c2-1))],[(16384,ax.mk true true 1 (nl A) fun j=>if(j==c5)=true then int .u32 (u32.wrap (u64.wrap (c1.tdiv c3)))else aB o j)]))))) (af.leaf (aq.exit 0) ([mag A,c7,c4,int .u64 (↑r:Int),int .i64 c2],[(16384,ax.mk true true 1 (nl A) fun a=>int .u32 (↑(o a):Int))]))):=ah
theorem Qe {A b r k:Nat} {o:Nat->Nat}:cA T fh [] 60 f156 (behind (aH f156) [1,1,1,0,1]) ⟨aC qV (B8 A b r k 16384),dF 16384 (nl A) o,16385⟩=
  some (af.aj [ej (nl A) fun i=>aB o (i+0),nl A<2^40] (af.leaf aq.ret [mag (val (nl A) fun i=>numOf (aB o (i+0))),int .u32 (u32.wrap (↑r:Int))])):=ah
def K8:bh:=[(84,vF),(175,l7 (fun A B=>.mag (A-B)) fun A B=>[B<=A,nl A<2^40])]
theorem PN {A B:Nat}:bR T K8 [9] 60 f147 (aH f147) ⟨aT 0 [.mag A,.mag B],[],0⟩=
  let c1:Nat:=2^40;some (af.aj [nl A<c1,nl B<c1] (af.fork (decide (de A B<0)) (af.leaf aq.ret [nil,int .i64 (7:Int)]) (af.aj [B<=A,nl A<c1] (af.leaf aq.ret [mag (A-B),int .i64 (0:Int)])))):=ah
theorem gR {K n nx:Nat} {o:Nat->Nat} (h:K<nx):iI nx (dF K n o):=⟨⟨h,fun _ _=>rfl⟩,trivial⟩
theorem Yq {vo va vb ai x c b' un u' B:Nat} (hx:x=c+b') (hu:un+x=ai+4294967296*u') (h:va+c*B=vo+vb):va+ai*B+u'*(4294967296*B)=vo+un*B+(vb+b'*B):=by
 have e:(un+x)*B=(ai+4294967296*u')*B:=by rw[hu]
 subst hx
 grind
theorem Gv {A B:Nat} (hAB:B<=A) (hA:nl A<2^40) (K:Nat):aP P 175 K [.mag A,.mag B] [] (aK (.mag (A-B)) []):=by
 have hB:nl B<=nl A:=gW hAB
 refine gm hT P8 rfl aW rfl (fun _ c0 h0=>?_) K []
 refine au.hole [1,1,1,0,1] ah (aF.bD hT fm hm 60 m9 adR ah ?_)
 simp only[af.all,aA,bu]
 refine⟨aa,fun s' hv=>cE ?_⟩
 refine au.g8 (i:=0) (y:=LH) ah m9 12289 (h0 _) (fun p:Nat×Nat×(Nat->Nat)=>wJ A B p.2.1 p.1 12288) (fun p=>dF 12288 (nl A) p.2.2) (fun _=>rfl) (fun _=>gR aa)
  (fun p=>p.1<=nl A/\p.2.1<=1/\(∀j,j<nl A->p.2.2 j<2^32)/\val p.1 (aD A)+p.2.1*2^(32*p.1)=val p.1 p.2.2+val p.1 (aD B))
  (fun p=>nl A-p.1) (0,0,fun _=>0) hv ⟨by simp,by simp,fun _ _=>by simp,by simp[val]⟩ ?_
 rintro⟨i,c,o⟩ ⟨hi,hc,ho,hval⟩
 simp only at hi hc ho hval
 refine au.bD hT fm hm 60 m9 QN ah ?_
 have la:=dQ (N:=A) (i:=i)
 have lb:=dQ (N:=B) (i:=i)
 have wa:u64.wrap (aD A i:Int)=((aD A i:Nat):Int):=ck aa aa
 have wb:u64.wrap (aD B i:Int)=((aD B i:Nat):Int):=ck aa aa
 have w1:u64.wrap ((c:Int)+((aD B i:Nat):Int))=((c+aD B i:Nat):Int):=by rw[ck aa aa];omega
 have w2:u64.wrap (((aD A i:Nat):Int)+4294967296)=((aD A i+4294967296:Nat):Int):=by rw[ck aa aa];omega
 have w3:i64.wrap ((i:Int)+1)=((i+1:Nat):Int):=by rw[wrap_i64 aa aa];omega
 simp only[af.all,aA,bw,bB,bu,Nat.add_zero,beq_iff_eq]
 rw[wa,wb,w1,w2,w3]
 -- what is put down
 have next:∀{s':aJ} {x u':Nat} {v:Int},i<nl A->x=c+aD B i->u'<=1->x<=aD A i+4294967296*u'->aD A i+4294967296*u'<x+4294967296->v=((aD A i+4294967296*u'-x:Nat):Int)->
   bk m9 s'=some (wJ A B u' (i+1) 12288,[(12288,⟨true,true,1,nl A,fun j=>if j=i then .int .u32 (u32.wrap (u64.wrap v))else aB o j⟩)])->
   ∃k:Nat×Nat×(Nat->Nat),bk m9 s'=some (wJ A B k.2.1 k.1 12288,dF 12288 (nl A) k.2.2)/\(k.1<=nl A/\k.2.1<=1/\(∀j,j<nl A->k.2.2 j<2^32)/\val k.1 (aD A)+k.2.1*2^(32*k.1)=val k.1 k.2.2+val k.1 (aD B))/\nl A-k.1<nl A-i:=by
  intro s' x u' v hin hx hu1 h1 h2 hv1 hv
  refine⟨(i+1,u',cy o i (aD A i+4294967296*u'-x)),dY hv rfl ?_,⟨by simp only;omega,hu1,ij aa ho,?_⟩,by simp only;omega⟩
  ·simp only[dF]
   congr 3
   funext k
   exact gT (by rw[hv1,ck aa aa,wrap_u32 aa aa]) k
  ·simp only
   rw[ry,val,val,gX]
   exact Yq (b':=aD B i) (x:=x) hx aa hval
 refine⟨fun hb=>⟨fun hb2=>⟨aa,aa,fun h3=>⟨⟨aa,aa⟩,fun s' hv=>?_⟩,fun h3=>⟨⟨aa,aa⟩,fun s' hv=>?_⟩⟩,fun hb2=>⟨aa,fun h3=>⟨⟨aa,aa⟩,fun s' hv=>?_⟩,fun h3=>⟨⟨aa,aa⟩,fun s' hv=>?_⟩⟩⟩,fun hb s' hv=>fz (cE ?_)⟩
 ·exact next (u':=1) aa rfl aa aa aa aa hv
 ·exact next (u':=0) aa rfl aa aa aa aa hv
 ·exact next (u':=1) (x:=c) aa (by rw[jk (A:=B) aa];rfl) aa aa aa aa hv
 ·exact next (u':=0) (x:=c) aa (by rw[jk (A:=B) aa];rfl) aa aa aa aa hv
 ·have hin:i=nl A:=aa
  refine aF.jM hT fm hm 60 hv (h0 _) rfl (gR aa) PT ah ah ?_
  simp only[af.all,aA,Nat.add_zero,jz]
  refine⟨⟨gy ho,hA⟩,ef (congrArg AV.mag ?_)⟩
  rw[hin,gn,pz (dJ.1 hB)]at hval
  have hlt:=fV ho
  have:c=0:=by
   rcases Nat.eq_zero_or_pos c with h|h
   ·exact h
   ·exfalso
    have h1:1*2^(32*nl A)<=c*2^(32*nl A):=Nat.mul_le_mul_right _ h
    omega
  rw[this]at hval
  omega
theorem aaU:bI P K8:=aL z8 (aL (ou fun h=>Gv h.1 h.2) b9)
theorem Q0 {A B:Nat} (hA:nl A<2^40) (hB:nl B<2^40) (K:Nat):aP P 147 K [.mag A,.mag B] [] (aK (.tuple [.mag (A-B),.int .i64 (if A<B then 7 else 0)]) []):=by
 refine bZ hT aaU hm SV rfl aW rfl 60 PN (fun _=>?_) K []
 simp only[af.all,aA,bw,bB,zu]
 refine⟨⟨hA,hB⟩,fun h=>⟨?_,bN (by rw[if_pos h]),trivial⟩,fun h=>⟨⟨aa,hA⟩,.refl _,bN (by rw[if_neg h]),trivial⟩⟩
 rw[Nat.sub_eq_zero_of_le aa];exact kz
def LS:Spec:=l7 (fun A B=>.tuple [.mag (A-B),.int .i64 (if A<B then 7 else 0)]) DT
theorem WN:bf P LS 147:=ou fun h=>Q0 h.1 h.2
theorem Yt {A B:Nat} (hA:nl A<2^39) (hB:nl B<2^39) (K:Nat):aP P 85 K [.mag A,.mag B] [] (aK (.mag (A*B)) []):=by
 refine gm hT PI rfl aW rfl (fun _ c0 h0=>?_) K []
 refine au.hole [1,1,0,1] ah (aF.bD hT fm hm 60 kq SN ah ?_)
 have hw:i64.wrap ((nl A:Int)+(nl B:Int))=((nl A+nl B:Nat):Int):=eO aa aa
 rw[hw]
 simp only[af.all,aA,bu]
 refine⟨aa,fun s' hv=>cE ?_⟩
 refine au.g8 (i:=0) (y:=pn) ah kq 24577 (h0 _) (fun p:Nat×(Nat->Nat)=>wN A B p.1 24576) (fun p=>dF 24576 (nl A+nl B) p.2) (fun _=>rfl) (fun _=>gR aa)
  (fun p=>p.1<=nl A/\(∀j,j<nl A+nl B->p.2 j<2^32)/\(∀j,p.1+nl B<=j->p.2 j=0)/\val (nl A+nl B) p.2=val p.1 (aD A)*B)
  (fun p=>nl A-p.1) (0,fun _=>0) hv ⟨by simp,fun _ _=>by simp,fun _ _=>rfl,?_⟩ ?_
 ·simp only
  rw[val_zero fun _ _=>rfl]
  simp[val]
 rintro⟨i,o⟩ ⟨hi,ho,ho0,hval⟩
 simp only at hi ho ho0 hval
 refine au.hole [0] ah (show au P c0 f85.ntmps (part pn [0]) _ _ from au.bD hT fm hm 60 kq abl ah ?_)
 simp only[af.all,bw,bB]
 refine⟨fun h1 s' hv=>cE ?_,fun h1 s' hv=>pV (fz (cE ?_))⟩
 ·have hin:i<nl A:=aa
  have la:=dQ (N:=A) (i:=i)
  show aF P c0 f85.ntmps [part pn [1]] s' _
  refine au.hole [0] ah ?_
  show au P c0 f85.ntmps (part pn [1,0]) s' _
  refine au.oy (i:=1) (y:=rV) ah (au.jK hv (h0 24577) rfl (gR aa) ?_)
  refine au.hole [1,0,1] ah (aF.bD hT fm hm 60 qT UQ ah fun s' hv=>cE ?_)
  refine au.g8 (i:=2) (y:=part rV [1,0,1,0,0]) ah qT 24577 (h0 _) (fun p:Nat×Nat×(Nat->Nat)=>zl A B i p.2.1 p.1 24576) (fun p=>dF 24576 (nl A+nl B) p.2.2) (fun _=>rfl) (fun _=>gR aa)
   (fun p=>p.1<=nl B/\p.2.1<2^32/\(∀j,j<nl A+nl B->p.2.2 j<2^32)/\(∀j,i+nl B<=j->p.2.2 j=0)/\val (nl A+nl B) p.2.2+p.2.1*2^(32*(i+p.1))=val i (aD A)*B+aD A i*val p.1 (aD B)*2^(32*i))
   (fun p=>nl B-p.1) (0,0,o) hv ⟨by simp,by simp,ho,ho0,by simp[val,hval]⟩ ?_
  rintro⟨j,c,o⟩ ⟨hj,hc,ho,ho0,hval⟩
  simp only at hj hc ho ho0 hval
  refine au.bD hT fm hm 60 qT R8 ah ?_
  have hij:i64.wrap ((i:Int)+(j:Int))=((i+j:Nat):Int):=eO aa aa
  have lb:=dQ (N:=B) (i:=j)
  simp only[af.all,aA,bw,bB,hij,bu,Nat.add_zero,beq_iff_eq]
  refine⟨fun h2=>?_,fun h2 s' hv=>fz ?_⟩
  ·have hjm:j<nl B:=aa
   obtain⟨m1,m2,m3⟩:=Lx hc la lb (ho (i+j) aa)
   rw[m1]
   refine⟨⟨aa,aa,aa,aa⟩,⟨aa,aa⟩,aa,fun s' hv=>⟨(j+1,(c+aD A i*aD B j+o (i+j))/4294967296,cy o (i+j) ((c+aD A i*aD B j+o (i+j))%4294967296)),dY hv ?_ ?_,⟨by simp only;omega,m3,ij aa ho,fun k hk=>?_,?_⟩,by simp only;omega⟩⟩
   ·rw[kU,eO (a:=(j:Int)+1) (n:=j+1) aa aa]
    simp only[zl,List.cons.injEq,AV.int.injEq,and_true,true_and]
    omega
   ·simp only[dF]
    congr 3
    funext k
    exact gT (by rw[jw]) k
   ·exact(fN aa).trans (ho0 k hk)
   ·simp only
    rw[show 32*(i+(j+1))=32*((i+j)+1) by omega,gX,val]
    have hset:=CT (o:=o) (x:=(c+aD A i*aD B j+o (i+j))%4294967296) (show i+j<nl A+nl B by omega)
    exact MW rfl (Nat.div_add_mod _ _) hset (by rw[<-Nat.pow_add];congr 1;omega) hval
  ·show aF P c0 f85.ntmps (behind rV [1,0,1]) s' _
   have hjm:j=nl B:=aa
   have hib:i64.wrap ((i:Int)+(nl B:Int))=((i+nl B:Nat):Int):=eO aa aa
   refine aF.fu hT fm hm 60 hv (h0 24577) rfl (gR aa) kq ZE ah ah ?_
   rw[hib]
   simp only[af.all,aA,bu,Nat.add_zero,beq_iff_eq]
   refine⟨⟨aa,aa⟩,fun s' hv=>?_⟩
   have hf:(fun k=>if k=i+nl B then AV.int .u32 (u32.wrap (c:Int))else aB o k)=aB (cy o (i+nl B) c):=by
    funext k
    exact gT (wrap_u32 aa aa) k
   rw[hf]at hv
   show aF P c0 f85.ntmps [part pn [1,1]] s' _
   refine aF.fu hT fm hm 60 hv (h0 24577) rfl (gR aa) kq Ns ah ah fun s' hv=>cE ?_
   refine⟨(i+1,cy o (i+nl B) c),dY hv ?_ rfl,⟨by simp only;omega,ij hc ho,fun k hk=>(fN (by simp only at hk;omega)).trans (ho0 k (by simp only at hk;omega)),?_⟩,by simp only;omega⟩
   ·rw[eO (a:=(i:Int)+1) (n:=i+1) aa aa]
   ·simp only
    rw[hjm,gn]at hval
    rw[qG aa (ho0 _ aa),hval,val,Nat.add_mul,Nat.mul_assoc,Nat.mul_assoc,Nat.mul_comm B]
 ·have hin:i=nl A:=aa
  refine aF.jM hT fm hm 60 hv (h0 _) rfl (gR aa) Qn ah ah ?_
  simp only[af.all,aA,Nat.add_zero,jz]
  refine⟨⟨gy ho,aa⟩,ef (congrArg AV.mag ?_)⟩
  rw[hval,hin,gn]
def BP:Spec:=l7 (fun A B=>.mag (A*B)) fun A B=>[nl A<2^39,nl B<2^39]
theorem Ll:bf P BP 85:=ou fun h=>Yt h.1 h.2
theorem Ih {v b r A:Nat} (h:v*b+r=A) (hr:r<b):A/b=v/\A%b=r:=by
 subst h
 refine⟨?_,?_⟩
 ·rw[Nat.mul_comm,Nat.mul_add_div aa,Nat.div_eq_of_lt hr,Nat.add_zero]
 ·rw[Nat.mul_comm,Nat.mul_add_mod,Nat.mod_eq_of_lt hr]
theorem aa0 {A b:Nat} (hA:nl A<2^40) (hb0:0<b) (hb32:b<2^32) (K:Nat):aP P 156 K [.mag A,.int .u32 b] [] (aK (.tuple [.mag (A/b),.int .u32 (A%b:Nat)]) []):=by
 refine gm hT abN rfl aW rfl (fun _ c0 h0=>?_) K []
 refine au.hole [1,1,1,0,1] ah (aF.bD hT fm hm 60 qV aa5 ah ?_)
 simp only[af.all,aA,bu]
 refine⟨aa,fun s' hv=>cE ?_⟩
 refine au.g8 (i:=0) (y:=Jn) ah qV 16385 (h0 _) (fun p:Nat×Nat×(Nat->Nat)=>B8 A b p.2.1 p.1 16384) (fun p=>dF 16384 (nl A) p.2.2) (fun _=>rfl) (fun _=>gR aa)
  (fun p=>p.1<=nl A/\p.2.1<b/\(∀j,j<nl A->p.2.2 j<2^32)/\(∀j,j<p.1->p.2.2 j=0)/\val (nl A) p.2.2*b+p.2.1*2^(32*p.1)+val p.1 (aD A)=A)
  (fun p=>p.1) (nl A,0,fun _=>0) (dY hv (by rw[wrap_i64 aa aa];rfl) rfl) ⟨by simp,hb0,fun j _=>by simp,fun j _=>rfl,?_⟩ ?_
 ·simp only
  rw[val_zero fun _ _=>rfl,gn]
  simp
 rintro⟨k,r,o⟩ ⟨hk,hr,ho,ho0,hval⟩
 simp only at hk hr ho ho0 hval
 refine au.bD hT fm hm 60 qV W6 ah ?_
 simp only[af.all,aA,bw,bB,Nat.add_zero,beq_iff_eq]
 have hbw:u64.wrap (b:Int)=(b:Int):=ck aa aa
 refine⟨fun hb=>?_,fun hb s' hv=>fz (cE ?_)⟩
 ·obtain⟨j,rfl⟩:∃j,k=j+1:=⟨k-1,aa⟩
  have e:(((j+1:Nat):Int)-1).toNat=j:=aa
  have hzj:=dQ (N:=A) (i:=j)
  have eR:=sx (a:=r) (b:=aD A j) aa hzj
  rw[e,eR,hbw]
  have hq1:(r*4294967296+aD A j)/b<2^32:=by
   rw[Nat.div_lt_iff_lt_mul hb0]
   have:(r+1)*4294967296<=b*4294967296:=Nat.mul_le_mul_right _ hr
   omega
  have hdm:=Nat.div_add_mod (r*4294967296+aD A j) b
  refine⟨⟨aa,aa,aa⟩,⟨aa,⟨aa,aa⟩,aa⟩,aa,fun s' hv=>⟨(j,(r*4294967296+aD A j)%b,cy o j ((r*4294967296+aD A j)/b)),dY hv ?_ ?_,⟨by simp only;omega,Nat.mod_lt _ hb0,ij hq1 ho,fun i hi=>?_,?_⟩,by simp only;omega⟩⟩
  ·rw[<-Int.ofNat_tmod,wrap_i64 aa aa,show((j+1:Nat):Int)-1-1=(j:Int)-1 by omega]
  ·simp only[dF]
   congr 3
   funext i
   refine gT ?_ i
   rw[<-Int.ofNat_tdiv]
   clear hdm
   generalize (r*4294967296+aD A j)/b=q at hq1 ⊢
   rw[ck aa aa,wrap_u32 aa aa]
  ·exact(fN (by simp only at hi;omega)).trans (ho0 i (by simp only at hi;omega))
  ·simp only
   rw[qG aa (ho0 j aa)]
   rw[gX,val]at hval
   exact Ge hval hdm.symm
 ·have hk0:k=0:=aa
  have hv2:val (nl A) o*b+r=A:=by rw[hk0]at hval;simpa [val]using hval
  refine aF.jM hT fm hm 60 hv (h0 _) rfl (gR aa) Qe ah ah ?_
  simp only[af.all,aA,Nat.add_zero,jz]
  obtain⟨hdiv,hmod⟩:=Ih hv2 hr
  exact⟨⟨gy ho,hA⟩,ef (congrArg AV.mag hdiv.symm),bN (by rw[hmod,wrap_u32 aa aa]),trivial⟩
def BL:Spec:=bU fun l=>match l with
 |[a,.int .u32 b]=>match iY a with
  |some A=>some (aK (.tuple [.mag (A/b.toNat),.int .u32 (A%b.toNat:Nat)]) [nl A<2^40,0<b,b<2^32])
  |none=>none
 |_=>none
theorem Mh:bf P BL 156:=by
 refine cJ fun K args r hk hs _=>?_
 split at hs
 ·rename_i a b
  split at hs
  ·rename_i A hA
   simp only[ay]at hs
   subst hs
   intro need
   obtain⟨h1,h2,h3⟩:nl A<2^40/\0<b/\b<2^32:=need
   obtain⟨b,rfl⟩:=Int.eq_ofNat_of_zero_le (Int.le_of_lt h2)
   exact gD (aa0 h1 aa aa K) hk ⟨kG hA,.refl _,trivial⟩ [] trivial
  ·simp at hs
 ·simp at hs
end Go.Am.B
