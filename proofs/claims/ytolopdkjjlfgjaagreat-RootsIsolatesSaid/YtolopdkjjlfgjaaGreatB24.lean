/- ref01: minus, Sub, Mul, byLimb. -/
import Derived.Test.YtolopdkjjlfgjaaGreatB23
set_option linter.unusedVariables false
noncomputable section
namespace Go.Am.B
open Go Go.Am.N AV Proofs.Tryz IntKind
theorem Ye:br 175 f175:=bu func175
theorem aco:br 147 f147:=bu func147
theorem Zs:br 85 f85:=bu func85
theorem adi:br 156 f156:=bu func156
abbrev pe:List Nat:=[0,1,5,6,7]
abbrev xM (A B c i K:Nat):List AV:=[.mag A,.mag B,.own K 1 0 (nl A),.int .u64 c,.int .i64 i]
abbrev ef (K n:Nat) (o:Nat->Nat):aE:=[(K,⟨true,true,1,n,aA o⟩)]
abbrev Jb:Code:=part (aI f175) [1,1,1,0,1,0,0]
theorem SB {A B:Nat}:aH T fW [] 60 pe (before (aI f175) [1,1,1,0,1]) ⟨aU 0 [.mag A,.mag B],[],0⟩=
  let c1:Int:=(↑(nl A):Int);some (af.aj [(0:Int)<=c1/\c1<=c1/\c1<=2^47/\c1*(↑(4:Nat):Int)<=2^47] (af.leaf aq.normal ([mag A,mag B,own 12288 1 0 c1.toNat,int .u64 (0:Int),int .i64 (0:Int)],[(12288,ax.mk true true 1 c1.toNat fun x=>int .u32 (0:Int))]))):=ah
theorem ahz {A B c i:Nat} {o:Nat->Nat}:aH T fW [16,23,38] 60 pe [Jb] ⟨aB pe (xM A B c i 12288),ef 12288 (nl A) o,12289⟩=
  let c13:Int:=(↑c:Int);let c8:Int:=(↑i:Int);let c5:AV:=own 12288 1 0 (nl A);let c4:List AV:=[int .i64 (i64.wrap (c8+1))];let c1:Nat:=c8.toNat;let c11:Prop:=(0:Int)<=c8/\c1<nl A;let c10:List AV:=mag A::mag B::c5::int .u64 (0:Int)::c4;let c9:List AV:=mag A::mag B::c5::int .u64 (1:Int)::c4;let c7:Nat:=c1+0;let c3:Int:=u64.wrap (c13+u64.wrap (↑(aD B c1):Int));let c2:Int:=u64.wrap (↑(aD A c1):Int);let c12:Int:=u64.wrap (c2+4294967296);let c6:List Prop:=[c11,c7<nl A];some (af.fork (decide (c8<(↑(nl A):Int))) (af.fork (decide (c8<(↑(nl B):Int))) (af.aj [(0:Int)<=c8/\c1<nl B] (af.aj [c11] (af.fork (decide (c2<c3)) (af.aj c6 (af.leaf aq.normal (c9,[(12288,ax.mk true true 1 (nl A) fun j=>if(j==c7)=true then int .u32 (u32.wrap (u64.wrap (c12-c3)))else aA o j)]))) (af.aj c6 (af.leaf aq.normal (c10,[(12288,ax.mk true true 1 (nl A) fun j=>if(j==c7)=true then int .u32 (u32.wrap (u64.wrap (c2-c3)))else aA o j)])))))) (af.aj [c11] (af.fork (decide (c2<c13)) (af.aj c6 (af.leaf aq.normal (c9,[(12288,ax.mk true true 1 (nl A) fun j=>if(j==c7)=true then int .u32 (u32.wrap (u64.wrap (c12-c13)))else aA o j)]))) (af.aj c6 (af.leaf aq.normal (c10,[(12288,ax.mk true true 1 (nl A) fun j=>if(j==c7)=true then int .u32 (u32.wrap (u64.wrap (c2-c13)))else aA o j)])))))) (af.leaf (aq.exit 0) ([mag A,mag B,c5,int .u64 c13,int .i64 c8],[(12288,ax.mk true true 1 (nl A) fun a=>int .u32 (↑(o a):Int))]))):=ah
theorem UI {A B c i:Nat} {o:Nat->Nat}:cR T fW [] 60 f175 (behind (aI f175) [1,1,1,0,1]) ⟨aB pe (xM A B c i 12288),ef 12288 (nl A) o,12289⟩=
  some (af.aj [fe (nl A) fun i=>aA o (i+0),nl A<2^40] (af.leaf aq.ret [mag (val (nl A) fun i=>numOf (aA o (i+0)))])):=ah
abbrev lO:List Nat:=[0,1,5,6]
abbrev yx (A B i K:Nat):List AV:=[.mag A,.mag B,.own K 1 0 (nl A+nl B),.int .i64 i]
abbrev sE:List Nat:=[0,1,5,6,7,8]
abbrev CY (A B i c j K:Nat):List AV:=[.mag A,.mag B,.own K 1 0 (nl A+nl B),.int .i64 i,.int .u64 c,.int .i64 j]
abbrev qS:Code:=part (aI f85) [1,1,0,1,0,0]
abbrev vu:Code:=part qS [1,0,0]
theorem XK {A B:Nat}:aH T fW [] 60 lO (before (aI f85) [1,1,0,1]) ⟨aU 0 [.mag A,.mag B],[],0⟩=
  let c1:Int:=i64.wrap ((↑(nl A):Int)+(↑(nl B):Int));some (af.aj [(0:Int)<=c1/\c1<=c1/\c1<=2^47/\c1*(↑(4:Nat):Int)<=2^47] (af.leaf aq.normal ([mag A,mag B,own 24576 1 0 c1.toNat,int .i64 (0:Int)],[(24576,ax.mk true true 1 c1.toNat fun x=>int .u32 (0:Int))]))):=ah
theorem YE {A B i:Nat} {o:Nat->Nat}:aH T fW [18] 60 lO [part qS [0]] ⟨aB lO (yx A B i 24576),ef 24576 (nl A+nl B) o,24577⟩=
  let c1:List AV×aE:=([mag A,mag B,own 24576 1 0 (nl A+nl B),int .i64 (↑i:Int)],[(24576,ax.mk true true 1 (nl A+nl B) fun a=>int .u32 (↑(o a):Int))]);some (af.fork (decide ((↑i:Int)<(↑(nl A):Int))) (af.leaf aq.normal c1) (af.leaf (aq.exit 0) c1)):=ah
theorem WR {A B i:Nat} {o:Nat->Nat}:aH T fW [] 60 sE (before vu [1,0,1]) ⟨aB lO (yx A B i 24576),ef 24576 (nl A+nl B) o,24577⟩=
  some (af.leaf aq.normal ([mag A,mag B,own 24576 1 0 (nl A+nl B),int .i64 (↑i:Int),int .u64 (0:Int),int .i64 (0:Int)],[(24576,ax.mk true true 1 (nl A+nl B) fun a=>int .u32 (↑(o a):Int))])):=ah
theorem age {A B i c j:Nat} {o:Nat->Nat}:aH T fW [24] 60 sE [part vu [1,0,1,0,0]] ⟨aB sE (CY A B i c j 24576),ef 24576 (nl A+nl B) o,24577⟩=
  let c7:Int:=(↑i:Int);let c5:Int:=(↑j:Int);let c4:Nat:=nl A+nl B;let c6:AV:=own 24576 1 0 c4;let c1:Int:=i64.wrap (c7+c5);let c3:Nat:=c1.toNat+0;let c8:List Prop:=[(0:Int)<=c1/\c1.toNat<c4,c3<c4];let c2:Int:=u64.wrap ((↑c:Int)+u64.wrap (u64.wrap (u64.wrap (↑(aD A c7.toNat):Int)*u64.wrap (↑(aD B c5.toNat):Int))+u64.wrap (↑(o c3):Int)));some (af.fork (decide (c5<(↑(nl B):Int))) (af.aj (((0:Int)<=c7/\c7.toNat<nl A)::((0:Int)<=c5/\c5.toNat<nl B)::c8) (af.aj c8 (af.aj [(0:Int)<=32] (af.leaf aq.normal ([mag A,mag B,c6,int .i64 c7,int .u64 (c2.fdiv ((2:Int)^min (Int.toNat (32:Int)) u64.bits)),int .i64 (i64.wrap (c5+1))],[(24576,ax.mk true true 1 c4 fun j=>if(j==c3)=true then int .u32 (u32.wrap c2)else aA o j)]))))) (af.leaf (aq.exit 2) ([mag A,mag B,c6,int .i64 c7,int .u64 (↑c:Int),int .i64 c5],[(24576,ax.mk true true 1 c4 fun a=>int .u32 (↑(o a):Int))]))):=ah
theorem VT {A B i c j:Nat} {o:Nat->Nat}:aH T fW [] 60 lO (behind vu [1,0,1]) ⟨aB sE (CY A B i c j 24576),ef 24576 (nl A+nl B) o,24577⟩=
  let c3:Nat:=nl A+nl B;let c1:Int:=i64.wrap ((↑i:Int)+(↑(nl B):Int));let c2:Nat:=c1.toNat+0;some (af.aj [(0:Int)<=c1/\c1.toNat<c3,c2<c3] (af.leaf aq.normal ([mag A,mag B,own 24576 1 0 c3,int .i64 (↑i:Int)],[(24576,ax.mk true true 1 c3 fun j=>if(j==c2)=true then int .u32 (u32.wrap (↑c:Int))else aA o j)]))):=ah
theorem TC {A B i:Nat} {o:Nat->Nat}:aH T fW [] 60 lO [part qS [1,1]] ⟨aB lO (yx A B i 24576),ef 24576 (nl A+nl B) o,24577⟩=
  some (af.leaf aq.normal ([mag A,mag B,own 24576 1 0 (nl A+nl B),int .i64 (i64.wrap ((↑i:Int)+1))],[(24576,ax.mk true true 1 (nl A+nl B) fun a=>int .u32 (↑(o a):Int))])):=ah
theorem Zm {A B i:Nat} {o:Nat->Nat}:cR T fW [] 60 f85 (behind (aI f85) [1,1,0,1]) ⟨aB lO (yx A B i 24576),ef 24576 (nl A+nl B) o,24577⟩=
  some (af.aj [fe (nl A+nl B) fun i=>aA o (i+0),nl A+nl B<2^40] (af.leaf aq.ret [mag (val (nl A+nl B) fun i=>numOf (aA o (i+0)))])):=ah
abbrev sJ:List Nat:=[0,1,6,7,8]
abbrev Hs (A b r k K:Nat):List AV:=[.mag A,.int .u32 b,.own K 1 0 (nl A),.int .u64 r,.int .i64 ((k:Int)-1)]
abbrev MQ:Code:=part (aI f156) [1,1,1,0,1,0,0]
theorem adv {A b:Nat}:aH T fW [] 60 sJ (before (aI f156) [1,1,1,0,1]) ⟨aU 0 [.mag A,.int .u32 b],[],0⟩=
  let c1:Int:=(↑(nl A):Int);some (af.aj [(0:Int)<=c1/\c1<=c1/\c1<=2^47/\c1*(↑(4:Nat):Int)<=2^47] (af.leaf aq.normal ([mag A,int .u32 (↑b:Int),own 16384 1 0 c1.toNat,int .u64 (0:Int),int .i64 (i64.wrap (c1-1))],[(16384,ax.mk true true 1 c1.toNat fun x=>int .u32 (0:Int))]))):=ah
theorem afV {A b r k:Nat} {o:Nat->Nat}:aH T fW [16] 60 sJ [MQ] ⟨aB sJ (Hs A b r k 16384),ef 16384 (nl A) o,16385⟩=
  let c7:AV:=int .u32 (↑b:Int);let c4:AV:=own 16384 1 0 (nl A);let c3:Int:=u64.wrap (↑b:Int);let c2:Int:=(↑k:Int)-1;let c6:Prop:=(0:Int)<=c2/\c2.toNat<nl A;let c5:Nat:=c2.toNat+0;let c1:Int:=u64.wrap (↑(BitVec.ofInt u64.bits (u64.wrap ((↑r:Int)*2^min (Int.toNat (32:Int)) u64.bits))|||BitVec.ofInt u64.bits (u64.wrap (↑(aD A c2.toNat):Int))).toNat:Int);some (af.fork (decide (c2>=0)) (af.aj [(0:Int)<=32,c6] (af.aj [c3≠(0:Int),c6,c5<nl A] (af.aj [c3≠(0:Int)] (af.leaf aq.normal ([mag A,c7,c4,int .u64 (c1.tmod c3),int .i64 (i64.wrap (c2-1))],[(16384,ax.mk true true 1 (nl A) fun j=>if(j==c5)=true then int .u32 (u32.wrap (u64.wrap (c1.tdiv c3)))else aA o j)]))))) (af.leaf (aq.exit 0) ([mag A,c7,c4,int .u64 (↑r:Int),int .i64 c2],[(16384,ax.mk true true 1 (nl A) fun a=>int .u32 (↑(o a):Int))]))):=ah
theorem ahB {A b r k:Nat} {o:Nat->Nat}:cR T fW [] 60 f156 (behind (aI f156) [1,1,1,0,1]) ⟨aB sJ (Hs A b r k 16384),ef 16384 (nl A) o,16385⟩=
  some (af.aj [fe (nl A) fun i=>aA o (i+0),nl A<2^40] (af.leaf aq.ret [mag (val (nl A) fun i=>numOf (aA o (i+0))),int .u32 (u32.wrap (↑r:Int))])):=ah
def Lx:bz:=[(84,zS),(175,oH (fun A B=>.mag (A-B)) fun A B=>[B<=A,nl A<2^40])]
theorem agc {A B:Nat}:cB T Lx [9] 60 f147 (aI f147) ⟨aU 0 [.mag A,.mag B],[],0⟩=
  let c1:Nat:=2^40;some (af.aj [nl A<c1,nl B<c1] (af.fork (decide (dJ A B<0)) (af.leaf aq.ret [nil,int .i64 (7:Int)]) (af.aj [B<=A,nl A<c1] (af.leaf aq.ret [mag (A-B),int .i64 (0:Int)])))):=ah
theorem iU {K n nx:Nat} {o:Nat->Nat} (h:K<nx):jA nx (ef K n o):=⟨⟨h,fun _ _=>rfl⟩,trivial⟩
theorem afa {vo va vb ai x c b' un u' B:Nat} (hx:x=c+b') (hu:un+x=ai+4294967296*u') (h:va+c*B=vo+vb):va+ai*B+u'*(4294967296*B)=vo+un*B+(vb+b'*B):=by
 have e:(un+x)*B=(ai+4294967296*u')*B:=by rw[hu]
 subst hx
 grind
theorem I0 {A B:Nat} (hAB:B<=A) (hA:nl A<2^40) (K:Nat):aS P 175 K [.mag A,.mag B] [] (aM (.mag (A-B)) []):=by
 have hB:nl B<=nl A:=jd hAB
 refine iE hT Ye rfl aZ rfl (fun _ c0 h0=>?_) K []
 refine au.hole [1,1,1,0,1] ah (aF.bL hT fZ hm 60 pe SB ah ?_)
 simp only[af.all,az,bG]
 refine⟨aa,fun s' hv=>cW ?_⟩
 refine au.jh (i:=0) (y:=Jb) ah pe 12289 (h0 _) (fun p:Nat×Nat×(Nat->Nat)=>xM A B p.2.1 p.1 12288) (fun p=>ef 12288 (nl A) p.2.2) (fun _=>rfl) (fun _=>iU aa)
  (fun p=>p.1<=nl A/\p.2.1<=1/\(∀j,j<nl A->p.2.2 j<2^32)/\val p.1 (aD A)+p.2.1*2^(32*p.1)=val p.1 p.2.2+val p.1 (aD B))
  (fun p=>nl A-p.1) (0,0,fun _=>0) hv ⟨by simp,by simp,fun _ _=>by simp,by simp[val]⟩ ?_
 rintro⟨i,c,o⟩ ⟨hi,hc,ho,hval⟩
 simp only at hi hc ho hval
 refine au.bL hT fZ hm 60 pe ahz ah ?_
 have la:=eO (N:=A) (i:=i)
 have lb:=eO (N:=B) (i:=i)
 have wa:u64.wrap (aD A i:Int)=((aD A i:Nat):Int):=cJ aa aa
 have wb:u64.wrap (aD B i:Int)=((aD B i:Nat):Int):=cJ aa aa
 have w1:u64.wrap ((c:Int)+((aD B i:Nat):Int))=((c+aD B i:Nat):Int):=by rw[cJ aa aa];omega
 have w2:u64.wrap (((aD A i:Nat):Int)+4294967296)=((aD A i+4294967296:Nat):Int):=by rw[cJ aa aa];omega
 have w3:i64.wrap ((i:Int)+1)=((i+1:Nat):Int):=by rw[wrap_i64 aa aa];omega
 simp only[af.all,az,bD,bI,bG,Nat.add_zero,beq_iff_eq]
 rw[wa,wb,w1,w2,w3]
 -- what is put down
 have next:∀{s':aK} {x u':Nat} {v:Int},i<nl A->x=c+aD B i->u'<=1->x<=aD A i+4294967296*u'->aD A i+4294967296*u'<x+4294967296->v=((aD A i+4294967296*u'-x:Nat):Int)->
   bA pe s'=some (xM A B u' (i+1) 12288,[(12288,⟨true,true,1,nl A,fun j=>if j=i then .int .u32 (u32.wrap (u64.wrap v))else aA o j⟩)])->
   ∃k:Nat×Nat×(Nat->Nat),bA pe s'=some (xM A B k.2.1 k.1 12288,ef 12288 (nl A) k.2.2)/\(k.1<=nl A/\k.2.1<=1/\(∀j,j<nl A->k.2.2 j<2^32)/\val k.1 (aD A)+k.2.1*2^(32*k.1)=val k.1 k.2.2+val k.1 (aD B))/\nl A-k.1<nl A-i:=by
  intro s' x u' v hin hx hu1 h1 h2 hv1 hv
  refine⟨(i+1,u',cQ o i (aD A i+4294967296*u'-x)),eP hv rfl ?_,⟨by simp only;omega,hu1,jn aa ho,?_⟩,by simp only;omega⟩
  ·simp only[ef]
   congr 3
   funext k
   exact iQ (by rw[hv1,cJ aa aa,wrap_u32 aa aa]) k
  ·simp only
   rw[sj,val,val,je]
   exact afa (b':=aD B i) (x:=x) hx aa hval
 refine⟨fun hb=>⟨fun hb2=>⟨aa,aa,fun h3=>⟨⟨aa,aa⟩,fun s' hv=>?_⟩,fun h3=>⟨⟨aa,aa⟩,fun s' hv=>?_⟩⟩,fun hb2=>⟨aa,fun h3=>⟨⟨aa,aa⟩,fun s' hv=>?_⟩,fun h3=>⟨⟨aa,aa⟩,fun s' hv=>?_⟩⟩⟩,fun hb s' hv=>gv (cW ?_)⟩
 ·exact next (u':=1) aa rfl aa aa aa aa hv
 ·exact next (u':=0) aa rfl aa aa aa aa hv
 ·exact next (u':=1) (x:=c) aa (by rw[ki (A:=B) aa];rfl) aa aa aa aa hv
 ·exact next (u':=0) (x:=c) aa (by rw[ki (A:=B) aa];rfl) aa aa aa aa hv
 ·have hin:i=nl A:=aa
  refine aF.lI hT fZ hm 60 hv (h0 _) rfl (iU aa) UI ah ah ?_
  simp only[af.all,az,Nat.add_zero,kq]
  refine⟨⟨iu ho,hA⟩,eU (congrArg AV.mag ?_)⟩
  rw[hin,ic,qm (eo.1 hB)]at hval
  have hlt:=gV ho
  have:c=0:=by
   rcases Nat.eq_zero_or_pos c with h|h
   ·exact h
   ·exfalso
    have h1:1*2^(32*nl A)<=c*2^(32*nl A):=Nat.mul_le_mul_right _ h
    omega
  rw[this]at hval
  omega
theorem acU:bU P Lx:=aL CL (aL (qK fun h=>I0 h.1 h.2) cG)
theorem Rr {A B:Nat} (hA:nl A<2^40) (hB:nl B<2^40) (K:Nat):aS P 147 K [.mag A,.mag B] [] (aM (.tuple [.mag (A-B),.int .i64 (if A<B then 7 else 0)]) []):=by
 refine cF hT acU hm aco rfl aZ rfl 60 agc (fun _=>?_) K []
 simp only[af.all,az,bD,bI,Cv]
 refine⟨⟨hA,hB⟩,fun h=>⟨?_,cq (by rw[if_pos h]),trivial⟩,fun h=>⟨⟨aa,hA⟩,.refl _,cq (by rw[if_neg h]),trivial⟩⟩
 rw[Nat.sub_eq_zero_of_le aa];exact lT
def NJ:Spec:=oH (fun A B=>.tuple [.mag (A-B),.int .i64 (if A<B then 7 else 0)]) Gn
theorem Tk:bf P NJ 147:=qK fun h=>Rr h.1 h.2
theorem Ts {A B:Nat} (hA:nl A<2^39) (hB:nl B<2^39) (K:Nat):aS P 85 K [.mag A,.mag B] [] (aM (.mag (A*B)) []):=by
 refine iE hT Zs rfl aZ rfl (fun _ c0 h0=>?_) K []
 refine au.hole [1,1,0,1] ah (aF.bL hT fZ hm 60 lO XK ah ?_)
 have hw:i64.wrap ((nl A:Int)+(nl B:Int))=((nl A+nl B:Nat):Int):=fR aa aa
 rw[hw]
 simp only[af.all,az,bG]
 refine⟨aa,fun s' hv=>cW ?_⟩
 refine au.jh (i:=0) (y:=qS) ah lO 24577 (h0 _) (fun p:Nat×(Nat->Nat)=>yx A B p.1 24576) (fun p=>ef 24576 (nl A+nl B) p.2) (fun _=>rfl) (fun _=>iU aa)
  (fun p=>p.1<=nl A/\(∀j,j<nl A+nl B->p.2 j<2^32)/\(∀j,p.1+nl B<=j->p.2 j=0)/\val (nl A+nl B) p.2=val p.1 (aD A)*B)
  (fun p=>nl A-p.1) (0,fun _=>0) hv ⟨by simp,fun _ _=>by simp,fun _ _=>rfl,?_⟩ ?_
 ·simp only
  rw[val_zero fun _ _=>rfl]
  simp[val]
 rintro⟨i,o⟩ ⟨hi,ho,ho0,hval⟩
 simp only at hi ho ho0 hval
 refine au.hole [0] ah (show au P c0 f85.ntmps (part qS [0]) _ _ from au.bL hT fZ hm 60 lO YE ah ?_)
 simp only[af.all,bD,bI]
 refine⟨fun h1 s' hv=>cW ?_,fun h1 s' hv=>su (gv (cW ?_))⟩
 ·have hin:i<nl A:=aa
  have la:=eO (N:=A) (i:=i)
  show aF P c0 f85.ntmps [part qS [1]] s' _
  refine au.hole [0] ah ?_
  show au P c0 f85.ntmps (part qS [1,0]) s' _
  refine au.qF (i:=1) (y:=vu) ah (au.kZ hv (h0 24577) rfl (iU aa) ?_)
  refine au.hole [1,0,1] ah (aF.bL hT fZ hm 60 sE WR ah fun s' hv=>cW ?_)
  refine au.jh (i:=2) (y:=part vu [1,0,1,0,0]) ah sE 24577 (h0 _) (fun p:Nat×Nat×(Nat->Nat)=>CY A B i p.2.1 p.1 24576) (fun p=>ef 24576 (nl A+nl B) p.2.2) (fun _=>rfl) (fun _=>iU aa)
   (fun p=>p.1<=nl B/\p.2.1<2^32/\(∀j,j<nl A+nl B->p.2.2 j<2^32)/\(∀j,i+nl B<=j->p.2.2 j=0)/\val (nl A+nl B) p.2.2+p.2.1*2^(32*(i+p.1))=val i (aD A)*B+aD A i*val p.1 (aD B)*2^(32*i))
   (fun p=>nl B-p.1) (0,0,o) hv ⟨by simp,by simp,ho,ho0,by simp[val,hval]⟩ ?_
  rintro⟨j,c,o⟩ ⟨hj,hc,ho,ho0,hval⟩
  simp only at hj hc ho ho0 hval
  refine au.bL hT fZ hm 60 sE age ah ?_
  have hij:i64.wrap ((i:Int)+(j:Int))=((i+j:Nat):Int):=fR aa aa
  have lb:=eO (N:=B) (i:=j)
  simp only[af.all,az,bD,bI,hij,bG,Nat.add_zero,beq_iff_eq]
  refine⟨fun h2=>?_,fun h2 s' hv=>gv ?_⟩
  ·have hjm:j<nl B:=aa
   obtain⟨m1,m2,m3⟩:=Nk hc la lb (ho (i+j) aa)
   rw[m1]
   refine⟨⟨aa,aa,aa,aa⟩,⟨aa,aa⟩,aa,fun s' hv=>⟨(j+1,(c+aD A i*aD B j+o (i+j))/4294967296,cQ o (i+j) ((c+aD A i*aD B j+o (i+j))%4294967296)),eP hv ?_ ?_,⟨by simp only;omega,m3,jn aa ho,fun k hk=>?_,?_⟩,by simp only;omega⟩⟩
   ·rw[mO,fR (a:=(j:Int)+1) (n:=j+1) aa aa]
    simp only[CY,List.cons.injEq,AV.int.injEq,and_true,true_and]
    omega
   ·simp only[ef]
    congr 3
    funext k
    exact iQ (by rw[kz]) k
   ·exact(gG aa).trans (ho0 k hk)
   ·simp only
    rw[show 32*(i+(j+1))=32*((i+j)+1) by omega,je,val]
    have hset:=Hx (o:=o) (x:=(c+aD A i*aD B j+o (i+j))%4294967296) (show i+j<nl A+nl B by omega)
    exact JA rfl (Nat.div_add_mod _ _) hset (by rw[<-Nat.pow_add];congr 1;omega) hval
  ·show aF P c0 f85.ntmps (behind vu [1,0,1]) s' _
   have hjm:j=nl B:=aa
   have hib:i64.wrap ((i:Int)+(nl B:Int))=((i+nl B:Nat):Int):=fR aa aa
   refine aF.gh hT fZ hm 60 hv (h0 24577) rfl (iU aa) lO VT ah ah ?_
   rw[hib]
   simp only[af.all,az,bG,Nat.add_zero,beq_iff_eq]
   refine⟨⟨aa,aa⟩,fun s' hv=>?_⟩
   have hf:(fun k=>if k=i+nl B then AV.int .u32 (u32.wrap (c:Int))else aA o k)=aA (cQ o (i+nl B) c):=by
    funext k
    exact iQ (wrap_u32 aa aa) k
   rw[hf]at hv
   show aF P c0 f85.ntmps [part qS [1,1]] s' _
   refine aF.gh hT fZ hm 60 hv (h0 24577) rfl (iU aa) lO TC ah ah fun s' hv=>cW ?_
   refine⟨(i+1,cQ o (i+nl B) c),eP hv ?_ rfl,⟨by simp only;omega,jn hc ho,fun k hk=>(gG (by simp only at hk;omega)).trans (ho0 k (by simp only at hk;omega)),?_⟩,by simp only;omega⟩
   ·rw[fR (a:=(i:Int)+1) (n:=i+1) aa aa]
   ·simp only
    rw[hjm,ic]at hval
    rw[rZ aa (ho0 _ aa),hval,val,Nat.add_mul,Nat.mul_assoc,Nat.mul_assoc,Nat.mul_comm B]
 ·have hin:i=nl A:=aa
  refine aF.lI hT fZ hm 60 hv (h0 _) rfl (iU aa) Zm ah ah ?_
  simp only[af.all,az,Nat.add_zero,kq]
  refine⟨⟨iu ho,aa⟩,eU (congrArg AV.mag ?_)⟩
  rw[hval,hin,ic]
def Hf:Spec:=oH (fun A B=>.mag (A*B)) fun A B=>[nl A<2^39,nl B<2^39]
theorem KT:bf P Hf 85:=qK fun h=>Ts h.1 h.2
theorem OO {v b r A:Nat} (h:v*b+r=A) (hr:r<b):A/b=v/\A%b=r:=by
 subst h
 refine⟨?_,?_⟩
 ·rw[Nat.mul_comm,Nat.mul_add_div aa,Nat.div_eq_of_lt hr,Nat.add_zero]
 ·rw[Nat.mul_comm,Nat.mul_add_mod,Nat.mod_eq_of_lt hr]
theorem Te {A b:Nat} (hA:nl A<2^40) (hb0:0<b) (hb32:b<2^32) (K:Nat):aS P 156 K [.mag A,.int .u32 b] [] (aM (.tuple [.mag (A/b),.int .u32 (A%b:Nat)]) []):=by
 refine iE hT adi rfl aZ rfl (fun _ c0 h0=>?_) K []
 refine au.hole [1,1,1,0,1] ah (aF.bL hT fZ hm 60 sJ adv ah ?_)
 simp only[af.all,az,bG]
 refine⟨aa,fun s' hv=>cW ?_⟩
 refine au.jh (i:=0) (y:=MQ) ah sJ 16385 (h0 _) (fun p:Nat×Nat×(Nat->Nat)=>Hs A b p.2.1 p.1 16384) (fun p=>ef 16384 (nl A) p.2.2) (fun _=>rfl) (fun _=>iU aa)
  (fun p=>p.1<=nl A/\p.2.1<b/\(∀j,j<nl A->p.2.2 j<2^32)/\(∀j,j<p.1->p.2.2 j=0)/\val (nl A) p.2.2*b+p.2.1*2^(32*p.1)+val p.1 (aD A)=A)
  (fun p=>p.1) (nl A,0,fun _=>0) (eP hv (by rw[wrap_i64 aa aa];rfl) rfl) ⟨by simp,hb0,fun j _=>by simp,fun j _=>rfl,?_⟩ ?_
 ·simp only
  rw[val_zero fun _ _=>rfl,ic]
  simp
 rintro⟨k,r,o⟩ ⟨hk,hr,ho,ho0,hval⟩
 simp only at hk hr ho ho0 hval
 refine au.bL hT fZ hm 60 sJ afV ah ?_
 simp only[af.all,az,bD,bI,Nat.add_zero,beq_iff_eq]
 have hbw:u64.wrap (b:Int)=(b:Int):=cJ aa aa
 refine⟨fun hb=>?_,fun hb s' hv=>gv (cW ?_)⟩
 ·obtain⟨j,rfl⟩:∃j,k=j+1:=⟨k-1,aa⟩
  have e:(((j+1:Nat):Int)-1).toNat=j:=aa
  have hzj:=eO (N:=A) (i:=j)
  have fH:=uG (a:=r) (b:=aD A j) aa hzj
  rw[e,fH,hbw]
  have hq1:(r*4294967296+aD A j)/b<2^32:=by
   rw[Nat.div_lt_iff_lt_mul hb0]
   have:(r+1)*4294967296<=b*4294967296:=Nat.mul_le_mul_right _ hr
   omega
  have hdm:=Nat.div_add_mod (r*4294967296+aD A j) b
  refine⟨⟨aa,aa,aa⟩,⟨aa,⟨aa,aa⟩,aa⟩,aa,fun s' hv=>⟨(j,(r*4294967296+aD A j)%b,cQ o j ((r*4294967296+aD A j)/b)),eP hv ?_ ?_,⟨by simp only;omega,Nat.mod_lt _ hb0,jn hq1 ho,fun i hi=>?_,?_⟩,by simp only;omega⟩⟩
  ·rw[<-Int.ofNat_tmod,wrap_i64 aa aa,show((j+1:Nat):Int)-1-1=(j:Int)-1 by omega]
  ·simp only[ef]
   congr 3
   funext i
   refine iQ ?_ i
   rw[<-Int.ofNat_tdiv]
   clear hdm
   generalize (r*4294967296+aD A j)/b=q at hq1 ⊢
   rw[cJ aa aa,wrap_u32 aa aa]
  ·exact(gG (by simp only at hi;omega)).trans (ho0 i (by simp only at hi;omega))
  ·simp only
   rw[rZ aa (ho0 j aa)]
   rw[je,val]at hval
   exact IW hval hdm.symm
 ·have hk0:k=0:=aa
  have hv2:val (nl A) o*b+r=A:=by rw[hk0]at hval;simpa [val]using hval
  refine aF.lI hT fZ hm 60 hv (h0 _) rfl (iU aa) ahB ah ah ?_
  simp only[af.all,az,Nat.add_zero,kq]
  obtain⟨hdiv,hmod⟩:=OO hv2 hr
  exact⟨⟨iu ho,hA⟩,eU (congrArg AV.mag hdiv.symm),cq (by rw[hmod,wrap_u32 aa aa]),trivial⟩
def Fh:Spec:=cw fun l=>match l with
 |[a,.int .u32 b]=>match jK a with
  |some A=>some (aM (.tuple [.mag (A/b.toNat),.int .u32 (A%b.toNat:Nat)]) [nl A<2^40,0<b,b<2^32])
  |none=>none
 |_=>none
theorem Ja:bf P Fh 156:=by
 refine dc fun K args r hk hs _=>?_
 split at hs
 ·rename_i a b
  split at hs
  ·rename_i A hA
   simp only[ay]at hs
   subst hs
   intro need
   obtain⟨h1,h2,h3⟩:nl A<2^40/\0<b/\b<2^32:=need
   obtain⟨b,rfl⟩:=Int.eq_ofNat_of_zero_le (Int.le_of_lt h2)
   exact gT (Te h1 aa aa K) hk ⟨mB hA,.refl _,trivial⟩ [] trivial
  ·simp at hs
 ·simp at hs
end Go.Am.B
