/- natural.Sub, natural.small, natural.raise. -/
import Derived.Test.YtnniljlepppdpaaGreatB3
set_option linter.unusedVariables false
namespace Go.Am.B
open Go Go.Am.N AV
theorem Zq:aT P DK oo (ay oo):=aU Proofs.Tryz.func270 ag ag ag
theorem afa:aT P DC r4 (ay r4):=aU Proofs.Tryz.func287 ag ag ag
theorem abw:aT P EU oA (ay oA):=aU Proofs.Tryz.func289 ag ag ag
def G2:bf:=(vE,bY (iN F7))::G1
theorem amf:bu P G2:=aI Mb gR
theorem aov {n m:Nat} {z y:Nat->Nat}:aG T G2 [15] 30 [1,6,7,21,22,23,4,5] (before (ay oo) [1,1,1,1,1,0,1]) ⟨aP 0 [.aq 1 n (aD z),.aq 1 m (aD y)],[],0⟩=
  let c5:AV:=tuple [];let c4:AV:=int .i64 (0:Int);let c3:Nat:=val m fun i=>numOf (aD y i);let c2:Int:=(↑n:Int);let c1:Int:=dh (val n fun i=>numOf (aD z i)) c3;some (ah.aj [ek n (aD z),ek m (aD y),n<2^40,m<2^40] (ah.fork (decide (c1<0)) (ah.leaf ax.ret ([aq 1 m fun a=>int .u32 (↑(y a):Int),c5,c5,c5,c5,c5,nil,int .i64 (7:Int)],[])) (ah.aj [ek m (aD y),m<2^62] (ah.aj [(0:Int)<=c2/\c2<=c2/\c2<=2^47/\c2*(↑(4:Nat):Int)<=2^47] (ah.leaf ax.normal ([mag c3,own 45056 1 0 c2.toNat,int .u64 (0:Int),aq 1 n fun a=>int .u32 (↑(z a):Int),int .i64 c2,c4,nil,c4],[(45056,ak.mk true true 1 c2.toNat fun x=>int .u32 (0:Int))])))))):=ag
theorem af0 {n B i w:Nat} {z o:Nat->Nat}:aG T [] [24,32] 30 [1,6,7,21,22,23,4,5] [part (ay oo) [1,1,1,1,1,0,1,0,0]] ⟨aB [1,6,7,21,22,23,4,5] [.mag B,.own 7 1 0 n,.int .u64 w,.aq 1 n (aD z),.int .i64 n,.int .i64 i,.nil,.int .i64 0],[(7,⟨true,true,1,n,aD o⟩)],8⟩=
  let c13:AV:=int .i64 (↑n:Int);let c12:List AV:=[nil,int .i64 (0:Int)];let c9:Int:=(2:Int)^min (Int.toNat (63:Int)) IntKind.u64.bits;let c8:AV:=aq 1 n fun a=>int .u32 (↑(z a):Int);let c5:AV:=own 7 1 0 n;let c4:Int:=(↑i:Int);let c2:List AV:=c8::c13::int .i64 (IntKind.i64.wrap (c4+1))::c12;let c1:Nat:=c4.toNat;let c11:Int:=IntKind.u64.wrap (↑(z c1):Int);let c10:Prop:=(0:Int)<=c4/\c1<n;let c7:Nat:=c1+0;let c6:Int:=IntKind.u64.wrap (c11-(↑w:Int));let c3:Int:=IntKind.u64.wrap (c11-IntKind.u64.wrap ((↑w:Int)+IntKind.u64.wrap (↑(aF B c1):Int)));some (ah.fork (decide (c4<(↑n:Int))) (ah.aj [c10] (ah.fork (decide (c4<(↑(nl B):Int))) (ah.aj [(0:Int)<=c4/\c1<nl B] (ah.aj [c10,c7<n] (ah.aj [(0:Int)<=63] (ah.leaf ax.normal (mag B::c5::int .u64 (c3.fdiv c9)::c2,[(7,ak.mk true true 1 n fun j=>if(j==c7)=true then int .u32 (IntKind.u32.wrap c3)else aD o j)]))))) (ah.aj [c10,c7<n] (ah.aj [(0:Int)<=63] (ah.leaf ax.normal (mag B::c5::int .u64 (c6.fdiv c9)::c2,[(7,ak.mk true true 1 n fun j=>if(j==c7)=true then int .u32 (IntKind.u32.wrap c6)else aD o j)])))))) (ah.leaf (ax.exit 0) (mag B::c5::int .u64 (↑w:Int)::c8::c13::int .i64 c4::c12,[(7,ak.mk true true 1 n fun a=>int .u32 (↑(o a):Int))]))):=ag
theorem Xd {n B i w:Nat} {z o:Nat->Nat}:cj T G1 [] 30 oo (behind (ay oo) [1,1,1,1,1,0,1]) ⟨aB [1,6,7,21,22,23,4,5] [.mag B,.own 7 1 0 n,.int .u64 w,.aq 1 n (aD z),.int .i64 n,.int .i64 i,.nil,.int .i64 0],[(7,⟨true,true,1,n,aD o⟩)],8⟩=
  some (ah.aj [ek n fun i=>aD o (i+0),n<2^62] (ah.leaf ax.ret [mag (val n fun i=>numOf (aD o (i+0))),int .i64 (0:Int)])):=ag
theorem afk {n b:Nat} {z:Nat->Nat}:aG T G1 [] 30 [0,1,6,7,8] (before (ay r4) [1,1,1,0,1]) ⟨aP 0 [.aq 1 n (aD z),.int .u32 b],[],0⟩=
  let c1:Int:=(↑n:Int);some (ah.aj [(0:Int)<=c1/\c1<=c1/\c1<=2^47/\c1*(↑(4:Nat):Int)<=2^47] (ah.leaf ax.normal ([aq 1 n fun a=>int .u32 (↑(z a):Int),int .u32 (↑b:Int),own 16384 1 0 c1.toNat,int .u64 (0:Int),int .i64 (IntKind.i64.wrap (c1-1))],[(16384,ak.mk true true 1 c1.toNat fun x=>int .u32 (0:Int))]))):=ag
theorem ajt {n b k r:Nat} {z o:Nat->Nat}:aG T [] [16] 30 [0,1,6,7,8] [part (ay r4) [1,1,1,0,1,0,0]] ⟨aB [0,1,6,7,8] [.aq 1 n (aD z),.int .u32 b,.own 7 1 0 n,.int .u64 r,.int .i64 ((k:Int)-1)],[(7,⟨true,true,1,n,aD o⟩)],8⟩=
  let c8:AV:=int .u32 (↑b:Int);let c6:AV:=own 7 1 0 n;let c4:AV:=aq 1 n fun a=>int .u32 (↑(z a):Int);let c3:Int:=IntKind.u64.wrap (↑b:Int);let c2:Int:=(↑k:Int)-1;let c7:Prop:=(0:Int)<=c2/\c2.toNat<n;let c5:Nat:=c2.toNat+0;let c1:Int:=IntKind.u64.wrap (↑(BitVec.ofInt IntKind.u64.bits (IntKind.u64.wrap ((↑r:Int)*2^min (Int.toNat (32:Int)) IntKind.u64.bits))|||BitVec.ofInt IntKind.u64.bits (IntKind.u64.wrap (↑(z c2.toNat):Int))).toNat:Int);some (ah.fork (decide (c2>=0)) (ah.aj [(0:Int)<=32,c7] (ah.aj [c3≠(0:Int),c7,c5<n] (ah.aj [c3≠(0:Int)] (ah.leaf ax.normal ([c4,c8,c6,int .u64 (c1.tmod c3),int .i64 (IntKind.i64.wrap (c2-1))],[(7,ak.mk true true 1 n fun j=>if(j==c5)=true then int .u32 (IntKind.u32.wrap (IntKind.u64.wrap (c1.tdiv c3)))else aD o j)]))))) (ah.leaf (ax.exit 0) ([c4,c8,c6,int .u64 (↑r:Int),int .i64 c2],[(7,ak.mk true true 1 n fun a=>int .u32 (↑(o a):Int))]))):=ag
theorem acT {n b k r:Nat} {z o:Nat->Nat}:cj T G1 [] 30 r4 (behind (ay r4) [1,1,1,0,1]) ⟨aB [0,1,6,7,8] [.aq 1 n (aD z),.int .u32 b,.own 7 1 0 n,.int .u64 r,.int .i64 ((k:Int)-1)],[(7,⟨true,true,1,n,aD o⟩)],8⟩=
  some (ah.aj [ek n fun i=>aD o (i+0),n<2^62] (ah.leaf ax.ret [mag (val n fun i=>numOf (aD o (i+0))),int .u32 (IntKind.u32.wrap (↑r:Int))])):=ag
theorem aok {n s:Nat} {z:Nat->Nat}:aG T G1 [] 30 [0,1,5,6,13,14,15] (before (ay oA) [1,1,1,0,1]) ⟨aP 0 [.aq 1 n (aD z),.int .i64 s],[],0⟩=
  let c2:AV:=aq 1 n fun a=>int .u32 (↑(z a):Int);let c1:Int:=IntKind.i64.wrap ((↑n:Int)+1);some (ah.aj [(0:Int)<=c1/\c1<=c1/\c1<=2^47/\c1*(↑(4:Nat):Int)<=2^47] (ah.leaf ax.normal ([c2,int .i64 (↑s:Int),own 16384 1 0 c1.toNat,int .u64 (0:Int),c2,int .i64 (↑n:Int),int .i64 (0:Int)],[(16384,ak.mk true true 1 c1.toNat fun x=>int .u32 (0:Int))]))):=ag
theorem ahT {n s i c:Nat} {z o:Nat->Nat}:aG T [] [16] 30 [0,1,5,6,13,14,15] [part (ay oA) [1,1,1,0,1,0,0]] ⟨aB [0,1,5,6,13,14,15] [.aq 1 n (aD z),.int .i64 s,.own 7 1 0 (n+1),.int .u64 c,.aq 1 n (aD z),.int .i64 n,.int .i64 i],[(7,⟨true,true,1,n+1,aD o⟩)],8⟩=
  let c8:AV:=int .i64 (↑s:Int);let c7:AV:=int .i64 (↑n:Int);let c4:Nat:=n+1;let c3:Int:=(↑i:Int);let c2:AV:=aq 1 n fun a=>int .u32 (↑(z a):Int);let c6:Nat:=c3.toNat+0;let c5:AV:=own 7 1 0 c4;let c1:Int:=IntKind.u64.wrap (↑(BitVec.ofInt IntKind.u64.bits (↑c:Int)|||BitVec.ofInt IntKind.u64.bits (IntKind.u64.wrap (IntKind.u64.wrap (↑(z c3.toNat):Int)*2^min (↑s:Int).toNat IntKind.u64.bits))).toNat:Int);some (ah.fork (decide (c3<(↑n:Int))) (ah.aj [(0:Int)<=c3/\c3.toNat<n] (ah.aj [(0:Int)<=(↑s:Int)] (ah.aj [(0:Int)<=c3/\c3.toNat<c4,c6<c4] (ah.aj [(0:Int)<=32] (ah.leaf ax.normal ([c2,c8,c5,int .u64 (c1.fdiv ((2:Int)^min (Int.toNat (32:Int)) IntKind.u64.bits)),c2,c7,int .i64 (IntKind.i64.wrap (c3+1))],[(7,ak.mk true true 1 c4 fun j=>if(j==c6)=true then int .u32 (IntKind.u32.wrap c1)else aD o j)])))))) (ah.leaf (ax.exit 0) ([c2,c8,c5,int .u64 (↑c:Int),c2,c7,int .i64 c3],[(7,ak.mk true true 1 c4 fun a=>int .u32 (↑(o a):Int))]))):=ag
theorem alE {B x y r v w' t:Nat} (hr:r+y=x+w'*4294967296) (h:v=t):v+r*B+y*B=t+x*B+w'*(4294967296*B):=by
 subst h
 have:(r+y)*B=(x+w'*4294967296)*B:=by rw[hr]
 grind
theorem PX {x y:Nat} (hx:x<2^32) (hy:y<=2^32):∃r w:Nat,r<2^32/\w<=1/\r+y=x+w*4294967296/\((x:Int)-y)%2^64%2^32=r/\((x:Int)-y)%2^64/9223372036854775808=w:=by
 rcases Nat.lt_or_ge x y with h|h
 ·exact⟨x+4294967296-y,1,aa,aa,aa,aa,aa⟩
 ·exact⟨x-y,0,aa,aa,aa,aa,aa⟩
abbrev vY:List Nat:=[1,6,7,21,22,23,4,5]
abbrev CO (B n:Nat) (z:Nat->Nat) (K w i:Nat):List AV:=[.mag B,.own K 1 0 n,.int .u64 w,.aq 1 n (aD z),.int .i64 n,.int .i64 i,.nil,.int .i64 0]
theorem VM {n m:Nat} {z y:Nat->Nat} (hz:∀i,i<n->z i<2^32) (hy:∀i,i<m->y i<2^32) (hn:n<2^40) (hm':m<2^40) (K:Nat) (pre:aE):
  aQ P DK K [.aq 1 n (aD z),.aq 1 m (aD y)] pre (aJ (.tuple [.mag (val n z-val m y),.int .i64 (if val n z<val m y then 7 else 0)]) []):=by
 refine j9 hT Zq rfl aX rfl (fun _ c h0=>?_) K pre
 refine au.hole [1,1,1,1,1,0,1] ag (aH.bC hT amf hm 30 vY aov ag ?_)
 have hA:nl (val n z)<=n:=dF.2 (gp hz)
 have hAlt:=gp hz
 generalize hB:val m y=B at*
 simp only[ah.all,aA,bq,bw,kg,hB]
 refine⟨⟨gF hz,gF hy,aa,aa⟩,fun hb s' hv=>?_,fun hb=>⟨⟨gF hy,aa⟩,aa,fun s' hv=>?_⟩⟩
 ·have h1:val n z<B:=by
   unfold dh at hb
   split at hb
   ·assumption
   ·split at hb<;>omega
  refine gQ (us:=[.nil,.int .i64 7]) (.inr rfl) hv ag ⟨lJ.trans (dO (congrArg AV.mag aa)),bK (by rw[if_pos h1]),trivial⟩
 have hBA:B<=val n z:=by
  unfold dh at hb
  split at hb<;>omega
 have hnB:nl B<=n:=Nat.le_trans (iH hBA) hA
 refine au.iZ (i:=0) (y:=part (ay oo) [1,1,1,1,1,0,1,0,0]) ag
  (fun p:Nat×Nat×(Nat->Nat)=>⟨aB vY (CO B n z 7 p.2.1 p.1),[(7,⟨true,true,1,n,aD p.2.2⟩)],8⟩)
  (fun p=>p.1<=n/\p.2.1<=1/\(∀j,j<n->p.2.2 j<2^32)/\val p.1 p.2.2+val (min p.1 (nl B)) (aF B)=val p.1 z+p.2.1*2^(32*p.1))
  (fun p=>n-p.1) (0,0,fun _=>0)
  (dH [(7,45056)] hv h0 rfl ⟨aM,⟨rfl,bW rfl rfl rfl⟩,aM,aM,aM,aM,aM,aM,trivial⟩
   ⟨⟨_,_,rfl,rfl,fS rfl fun j _=>rfl⟩,trivial⟩)
  ⟨by simp,by simp,fun j _=>by simp,by simp[val]⟩ ?_
 rintro⟨i,w,o⟩ ⟨hi,hw,ho,hval⟩
 simp only at hi hw ho hval
 refine au.bC hT bz hm 30 vY af0 ag ?_
 have key:∀{yi:Nat} {s':aK} {u v:Int} {f':Nat->AV} {r w':Nat},i<n->yi=(if i<nl B then aF B i else 0)->r<2^32->w'<=1->r+(w+yi)=z i+w'*4294967296->
   bA vY s'=some ([.mag B,.own 7 1 0 n,.int .u64 u,.aq 1 n (aD z),.int .i64 n,.int .i64 v,.nil,.int .i64 0],[(7,⟨true,true,1,n,f'⟩)])->
   u=(w':Nat)->v=(i+1:Nat)->(∀j,f' j=aD (cH o i r) j)->
   ∃k:Nat×Nat×(Nat->Nat),(∃ρ,Le c ρ s' ⟨aB vY (CO B n z 7 k.2.1 k.1),[(7,⟨true,true,1,n,aD k.2.2⟩)],8⟩)/\
    (k.1<=n/\k.2.1<=1/\(∀j,j<n->k.2.2 j<2^32)/\val k.1 k.2.2+val (min k.1 (nl B)) (aF B)=val k.1 z+k.2.1*2^(32*k.1))/\n-k.1<n-i:=by
  intro yi s' u v f' r w' hin hyi hr hw1 hrw hv hu hv1 hf
  refine⟨(i+1,w',cH o i r),dH [(7,7)] hv h0 rfl ⟨aM,⟨rfl,bW rfl rfl rfl⟩,⟨rfl,gI hu⟩,aM,aM,⟨rfl,gI hv1⟩,aM,aM,trivial⟩
   ⟨⟨_,_,rfl,rfl,fS rfl fun j _=>hf j⟩,trivial⟩,⟨by simp only;omega,hw1,iW hr ho,?_⟩,by simp only;omega⟩
  simp only
  rw[SN,<-hyi,r7,iG]
  show _=val i z+z i*2^(32*i)+_
  have:=alE (B:=2^(32*i)) hrw hval
  rw[Nat.add_mul]at this
  omega
 have fin:i=n->∀s',bA vY s'=some (CO B n z 7 w i,[(7,⟨true,true,1,n,aD o⟩)])->
   aH P c oo.ntmps (behind (ay oo) [1,1,1,1,1,0,1]) s' (Fin T oo (.tuple [.mag (val n z-B),.int .i64 (if val n z<B then 7 else 0)])):=by
  intro hin s' hv
  subst hin
  rw[Nat.min_eq_right hnB,gA]at hval
  have hlt:=gp ho
  have hw0:w=0:=by
   rcases Nat.eq_zero_or_pos w with h|h
   ·exact h
   ·have:w=1:=aa
    subst this
    omega
  subst hw0
  refine aH.weak ag (dH (vs:=CO B i z 7 0 i) (ps:=[(7,⟨true,true,1,i,aD o⟩)]) (nx:=8) [(7,7)] hv h0 rfl
    ⟨aM,⟨rfl,bW rfl rfl rfl⟩,aM,aM,aM,aM,aM,aM,trivial⟩
    ⟨⟨_,_,rfl,rfl,fS rfl fun j _=>rfl⟩,trivial⟩)
   (aH.fin hT gR hm 30 Xd ag ?_)
  simp only[ah.all,aA,Nat.add_zero,kg]
  exact⟨⟨gF ho,aa⟩,dO (congrArg AV.mag aa),bK (by rw[if_neg aa]),trivial⟩
 simp only[ah.all,aA,bq,bw,bn,Nat.add_zero,beq_iff_eq]
 refine⟨fun hb=>?_,fun hb s' hv=>fin aa s' hv⟩
 have h1:i<n:=aa
 have hzi:=hz i h1
 have hl:=dL (N:=B) (i:=i)
 have e1:IntKind.u64.wrap (z i:Int)=(z i:Int):=cu aa aa
 have e2:IntKind.u64.wrap (aF B i:Int)=(aF B i:Int):=cu aa aa
 have e3:IntKind.u64.wrap ((w:Int)+(aF B i:Int))=((w+aF B i:Nat):Int):=by rw[cu aa aa];omega
 rw[e1,e2,e3]
 refine⟨aa,fun hb2=>?_,fun hb2=>?_⟩
 ·have h2:i<nl B:=aa
  obtain⟨r,w',q1,q2,q3,q4,q5⟩:=PX hzi (y:=w+aF B i) aa
  refine⟨aa,aa,aa,fun s' hv=>key (yi:=aF B i) h1 (by rw[if_pos h2]) q1 q2 q3 hv ?_ (by rw[wrap_i64 aa aa];omega) fun j=>iu ?_ j⟩
  ·rw[Hw,pP];exact q5
  ·rw[mw,pP];exact q4
 ·have h2:¬i<nl B:=aa
  obtain⟨r,w',q1,q2,q3,q4,q5⟩:=PX hzi (y:=w) aa
  refine⟨aa,aa,fun s' hv=>key (yi:=0) h1 (by rw[if_neg h2]) q1 q2 q3 hv ?_ (by rw[wrap_i64 aa aa];omega) fun j=>iu ?_ j⟩
  ·rw[Hw,pP];exact q5
  ·rw[mw,pP];exact q4
theorem ame {r x:Nat} (hr:r<2^32) (hx:x<2^32):
  IntKind.u64.wrap ((BitVec.ofInt IntKind.u64.bits (IntKind.u64.wrap ((r:Int)*2^min (Int.toNat 32) IntKind.u64.bits))|||BitVec.ofInt IntKind.u64.bits (IntKind.u64.wrap (x:Int))).toNat:Int)=((r*4294967296+x:Nat):Int):=by
 rw[Bx,cu (x:=(x:Int)) aa aa,cu (x:=(r:Int)*4294967296) aa aa]
 rw[show(r:Int)*4294967296=((r*2^32:Nat):Int) by omega,vW aa aa,sn hx]
theorem NS {r z b B v t vz q r':Nat} (h:v*b+r*(4294967296*B)+(vz+z*B)=t) (hq:r*4294967296+z=b*q+r'):(v+q*B)*b+r'*B+vz=t:=by
 have:(r*4294967296+z)*B=(b*q+r')*B:=by rw[hq]
 grind
abbrev JA:List Nat:=[0,1,6,7,8]
abbrev Qq (n:Nat) (z:Nat->Nat) (b K r k:Nat):List AV:=[.aq 1 n (aD z),.int .u32 b,.own K 1 0 n,.int .u64 r,.int .i64 ((k:Int)-1)]
theorem akF {n b:Nat} {z:Nat->Nat} (hz:∀i,i<n->z i<2^32) (hn:n<2^40) (hb0:0<b) (hb32:b<2^32) (K:Nat) (pre:aE):
  aQ P DC K [.aq 1 n (aD z),.int .u32 b] pre (aJ (.tuple [.mag (val n z/b),.int .u32 (val n z%b:Nat)]) []):=by
 refine j9 hT afa rfl aX rfl (fun _ c h0=>?_) K pre
 refine au.hole [1,1,1,0,1] ag (aH.bC hT gR hm 30 JA afk ag ?_)
 simp only[ah.all,aA]
 refine⟨aa,fun s' hv=>?_⟩
 refine au.iZ (i:=0) (y:=part (ay r4) [1,1,1,0,1,0,0]) ag
  (fun p:Nat×Nat×(Nat->Nat)=>⟨aB JA (Qq n z b 7 p.2.1 p.1),[(7,⟨true,true,1,n,aD p.2.2⟩)],8⟩)
  (fun p=>p.1<=n/\p.2.1<b/\(∀j,j<n->p.2.2 j<2^32)/\(∀j,j<p.1->p.2.2 j=0)/\val n p.2.2*b+p.2.1*2^(32*p.1)+val p.1 z=val n z)
  (fun p=>p.1) (n,0,fun _=>0)
  (dH [(7,16384)] hv h0 rfl ⟨aM,aM,⟨rfl,bW rfl rfl rfl⟩,aM,⟨rfl,gI (wrap_i64 aa aa)⟩,trivial⟩
   ⟨⟨_,_,rfl,rfl,fS rfl fun j _=>rfl⟩,trivial⟩)
  ⟨by simp,hb0,fun j _=>by simp,fun j _=>rfl,?_⟩ ?_
 ·simp only
  rw[oJ (k:=0) aa fun _ _ _=>rfl]
  simp[val]
 rintro⟨k,r,o⟩ ⟨hk,hr,ho,ho0,hval⟩
 simp only at hk hr ho ho0 hval
 refine au.bC hT bz hm 30 JA ajt ag ?_
 simp only[ah.all,aA,bq,bw,Nat.add_zero,beq_iff_eq]
 have hbw:IntKind.u64.wrap (b:Int)=(b:Int):=cu aa aa
 refine⟨fun hb=>?_,fun hb s' hv=>?_⟩
 ·obtain⟨j,rfl⟩:∃j,k=j+1:=⟨k-1,aa⟩
  have e:(((j+1:Nat):Int)-1).toNat=j:=aa
  have hzj:=hz j aa
  have hor:=ame (r:=r) (x:=z j) aa hzj
  rw[e,hor,hbw]
  have hq1:(r*4294967296+z j)/b<2^32:=by
   rw[Nat.div_lt_iff_lt_mul hb0]
   have:(r+1)*4294967296<=b*4294967296:=Nat.mul_le_mul_right _ hr
   omega
  have hdm:=Nat.div_add_mod (r*4294967296+z j) b
  refine⟨⟨aa,aa,aa⟩,⟨aa,⟨aa,aa⟩,aa⟩,aa,fun s' hv=>⟨(j,(r*4294967296+z j)%b,cH o j ((r*4294967296+z j)/b)),?_,⟨by simp only;omega,Nat.mod_lt _ hb0,iW hq1 ho,fun i hi=>?_,?_⟩,by simp only;omega⟩⟩
  ·refine dH [(7,7)] hv h0 rfl ⟨aM,aM,⟨rfl,bW rfl rfl rfl⟩,⟨rfl,gI (Int.ofNat_tmod _ _).symm⟩,⟨rfl,gI ?_⟩,trivial⟩
    ⟨⟨_,_,rfl,rfl,fS rfl fun i _=>iu ?_ i⟩,trivial⟩
   ·rw[wrap_i64 aa aa];simp only;omega
   ·rw[<-Int.ofNat_tdiv]
    clear hdm
    generalize (r*4294967296+z j)/b=q at hq1 ⊢
    rw[cu aa aa,wrap_u32 aa aa]
  ·exact(ga (by simp only at hi;omega)).trans (ho0 i (by simp only at hi;omega))
  ·simp only
   rw[rS aa (ho0 j aa)]
   rw[iG,val]at hval
   exact NS hval hdm.symm
 ·have hk0:k=0:=aa
  subst hk0
  have hv2:val n o*b+r=val n z:=by simpa [val]using hval
  refine aH.weak ag (dH (vs:=Qq n z b 7 r 0) (ps:=[(7,⟨true,true,1,n,aD o⟩)]) (nx:=8) [(7,7)] hv h0 rfl
    ⟨aM,aM,⟨rfl,bW rfl rfl rfl⟩,aM,aM,trivial⟩
    ⟨⟨_,_,rfl,rfl,fS rfl fun j _=>rfl⟩,trivial⟩)
   (aH.fin hT gR hm 30 acT ag ?_)
  simp only[ah.all,aA,Nat.add_zero,kg]
  have hdiv:val n z/b=val n o:=by
   rw[<-hv2,Nat.mul_comm,Nat.mul_add_div hb0,Nat.div_eq_of_lt hr,Nat.add_zero]
  have hmod:val n z%b=r:=by
   rw[<-hv2,Nat.mul_comm,Nat.mul_add_mod,Nat.mod_eq_of_lt hr]
  exact⟨⟨gF ho,aa⟩,dO (congrArg AV.mag hdiv.symm),bK (by rw[hmod,wrap_u32 aa aa]),trivial⟩
theorem anT {x s:Nat} (hs:s<32) (hx:x<2^32):IntKind.u64.wrap (IntKind.u64.wrap (x:Int)*2^min (s:Int).toNat IntKind.u64.bits)=((x*2^s:Nat):Int)/\x*2^s<2^64:=by
 have e:min (s:Int).toNat IntKind.u64.bits=s:=by
  have:IntKind.u64.bits=64:=rfl
  omega
 have hlt:x*2^s<2^64:=by
  have h1:2^s<=2^31:=Nat.pow_le_pow_right aa aa
  have h2:x*2^s<=2^32*2^31:=Nat.mul_le_mul aa h1
  omega
 refine⟨?_,hlt⟩
 rw[e,cu (x:=(x:Int)) aa aa]
 have:(x:Int)*2^s=((x*2^s:Nat):Int):=by simp
 rw[this]
 exact cu aa aa
theorem OT {c x s:Nat} (hs:s<32) (hx:x<2^32) (hc:c<2^s):
  IntKind.u64.wrap ((BitVec.ofInt IntKind.u64.bits (c:Int)|||BitVec.ofInt IntKind.u64.bits (IntKind.u64.wrap (IntKind.u64.wrap (x:Int)*2^min (s:Int).toNat IntKind.u64.bits))).toNat:Int)=((c+x*2^s:Nat):Int):=by
 obtain⟨h1,h2⟩:=anT hs hx
 have h3:2^s<=2^31:=Nat.pow_le_pow_right aa aa
 rw[h1,vW aa h2,Nat.or_comm,sn hc,Nat.add_comm]
theorem Th {c x s:Nat} (hs:s<32) (hx:x<2^32) (hc:c<2^s):c+x*2^s<2^63/\(c+x*2^s)/4294967296<2^s:=by
 have h3:2^s<=2^31:=Nat.pow_le_pow_right aa aa
 have h4:(x+1)*2^s<=2^32*2^s:=Nat.mul_le_mul_right _ hx
 rw[Nat.add_mul,Nat.one_mul]at h4
 refine⟨aa,?_⟩
 rw[Nat.div_lt_iff_lt_mul aa]
 omega
theorem Po {B c x t v S:Nat} (h:v+c*B=t*S):v+(c+x*S)%4294967296*B+(c+x*S)/4294967296*(4294967296*B)=(t+x*B)*S:=by
 have h1:=Nat.div_add_mod (c+x*S) 4294967296
 generalize (c+x*S)/4294967296=q at*
 generalize (c+x*S)%4294967296=r at*
 have:(4294967296*q+r)*B=(c+x*S)*B:=by rw[h1]
 grind
abbrev Ee:List Nat:=[0,1,5,6,13,14,15]
abbrev Rf (n s:Nat) (z:Nat->Nat) (K c i:Nat):List AV:=[.aq 1 n (aD z),.int .i64 s,.own K 1 0 (n+1),.int .u64 c,.aq 1 n (aD z),.int .i64 n,.int .i64 i]
theorem anu {n s:Nat} {z:Nat->Nat} (hz:∀i,i<n->z i<2^32) (hn:n<2^40) (hs:s<32) {c:Ctx} (h0:c.k0=bE) {Q:ax->aK->Prop}
  (fin:∀(c':Nat) (o:Nat->Nat) (s':aK),c'<2^s->(∀j,j<n+1->o j<2^32)->val n o+c'*2^(32*n)=val n z*2^s->bA Ee s'=some (Rf n s z 7 c' n,[(7,⟨true,true,1,n+1,aD o⟩)])->
   aH P c oA.ntmps (behind (ay oA) [1,1,1,0,1]) s' Q):
  au P c oA.ntmps (ay oA) ⟨aP 0 [.aq 1 n (aD z),.int .i64 s],[],0⟩ Q:=by
 refine au.hole [1,1,1,0,1] ag (aH.bC hT gR hm 30 Ee aok ag ?_)
 have hw:IntKind.i64.wrap ((n:Int)+1)=((n+1:Nat):Int):=by rw[wrap_i64 aa aa];omega
 simp only[ah.all,aA,hw,bn]
 refine⟨aa,fun s' hv=>?_⟩
 refine au.iZ (i:=0) (y:=part (ay oA) [1,1,1,0,1,0,0]) ag
  (fun p:Nat×Nat×(Nat->Nat)=>⟨aB Ee (Rf n s z 7 p.2.1 p.1),[(7,⟨true,true,1,n+1,aD p.2.2⟩)],8⟩)
  (fun p=>p.1<=n/\p.2.1<2^s/\(∀j,j<n+1->p.2.2 j<2^32)/\val p.1 p.2.2+p.2.1*2^(32*p.1)=val p.1 z*2^s)
  (fun p=>n-p.1) (0,0,fun _=>0)
  (dH [(7,16384)] hv h0 rfl ⟨aM,aM,⟨rfl,bW rfl rfl rfl⟩,aM,aM,aM,aM,trivial⟩
   ⟨⟨_,_,rfl,rfl,fS rfl fun j _=>rfl⟩,trivial⟩)
  ⟨by simp,Nat.two_pow_pos s,fun j _=>by simp,by simp[val]⟩ ?_
 rintro⟨i,c',o⟩ ⟨hi,hc,ho,hval⟩
 simp only at hi hc ho hval
 refine au.bC hT bz hm 30 Ee ahT ag ?_
 simp only[ah.all,aA,bq,bw,Nat.add_zero,beq_iff_eq,bn]
 refine⟨fun hb=>?_,fun hb s' hv=>?_⟩
 ·have h1:i<n:=aa
  have hzi:=hz i h1
  have hor:=OT hs hzi hc
  simp only[bn]at hor
  rw[hor]
  obtain⟨b1,b2⟩:=Th hs hzi hc
  refine⟨aa,aa,aa,aa,fun s' hv=>⟨(i+1,(c'+z i*2^s)/4294967296,cH o i ((c'+z i*2^s)%4294967296)),?_,⟨by simp only;omega,b2,iW aa ho,?_⟩,by simp only;omega⟩⟩
  ·refine dH [(7,7)] hv h0 rfl ⟨aM,aM,⟨rfl,bW rfl rfl rfl⟩,⟨rfl,gI ?_⟩,aM,aM,⟨rfl,gI ?_⟩,trivial⟩
    ⟨⟨_,_,rfl,rfl,fS rfl fun j _=>iu ?_ j⟩,trivial⟩
   ·rw[mM];simp only;omega
   ·rw[wrap_i64 aa aa];simp only;omega
   ·rw[j3]
  ·simp only
   rw[r7,iG]
   exact Po hval
 ·have hin:i=n:=aa
  subst hin
  exact fin c' o s' hc ho hval hv
theorem Wa {s c' i:Nat} {o:Nat->Nat} (hs:s<32) (hc:c'<2^s):∀j,(if j=i then AV.int .u32 (IntKind.u32.wrap (c':Int))else aD o j)=aD (cH o i c') j:=fun j=>iu (by
 have h3:2^s<=2^31:=Nat.pow_le_pow_right aa aa
 exact wrap_u32 aa aa) j
def OL (A n B m:Nat):dz:=aJ (.tuple [.mag (A-B),.int .i64 (if A<B then 7 else 0)]) [n<2^40,m<2^40]
theorem aoV:aW P (bY (iN OL)) DK:=
 cJ (uJ fun _ _ _ _ K hz hy need=>VM hz hy need.1 need.2 K [])
def O9 (N n:Nat) (b:Int):dz:=aJ (.tuple [.mag (N/b.toNat),.int .u32 (N%b.toNat:Nat)]) [n<2^40,0<b,b<2^32]
theorem Zv:aW P (bY (BJ O9)) DC:=
 cJ (anH fun z n i K hz need=>by
  obtain⟨h1,h2,h3⟩:n<2^40/\0<i/\i<2^32:=need
  obtain⟨b,rfl⟩:=Int.eq_ofNat_of_zero_le (Int.le_of_lt h2)
  exact akF hz h1 aa aa K [])
end Go.Am.B
