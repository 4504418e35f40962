/- natural.Sub, natural.small, natural.raise. -/
import Derived.Test.YtgfjdngnneoeoaaGreatB3
set_option linter.unusedVariables false
namespace Go.Am.B
open Go Go.Am.N AV Proofs.Tryz IntKind
theorem Vc:aX 140 f140:=aM func140
theorem ZY:aX 172 f172:=aM func172
theorem Uw:aX 174 f174:=aM func174
def G2:aV:=(129,bX (iY yX))::G1
theorem ahC:bg P G2:=aE DT gX
theorem V6 {n m:Nat} {z y:Nat->Nat}:aL T G2 [15] 30 [1,6,7,21,22,23,4,5] (before (aF f140) [1,1,1,1,1,0,1]) ⟨aS 0 [.ak 1 n (aA z),.ak 1 m (aA y)],[],0⟩=
  let c5:AV:=tuple [];let c4:AV:=int .i64 (0:Int);let c3:Nat:=val m fun i=>numOf (aA y i);let c2:Int:=(↑n:Int);let c1:Int:=cY (val n fun i=>numOf (aA z i)) c3;some (ag.aj [eo n (aA z),eo m (aA y),n<2^40,m<2^40] (ag.fork (decide (c1<0)) (ag.leaf aq.ret ([ak 1 m fun a=>int .u32 (↑(y a):Int),c5,c5,c5,c5,c5,nil,int .i64 (7:Int)],[])) (ag.aj [eo m (aA y),m<2^62] (ag.aj [(0:Int)<=c2/\c2<=c2/\c2<=2^47/\c2*(↑(4:Nat):Int)<=2^47] (ag.leaf aq.normal ([mag c3,own 45056 1 0 c2.toNat,int .u64 (0:Int),ak 1 n fun a=>int .u32 (↑(z a):Int),int .i64 c2,c4,nil,c4],[(45056,az.mk true true 1 c2.toNat fun x=>int .u32 (0:Int))])))))):=ah
theorem aaZ {n B i w:Nat} {z o:Nat->Nat}:aL T [] [24,32] 30 [1,6,7,21,22,23,4,5] [part (aF f140) [1,1,1,1,1,0,1,0,0]] ⟨aG [1,6,7,21,22,23,4,5] [.mag B,.own 7 1 0 n,.int .u64 w,.ak 1 n (aA z),.int .i64 n,.int .i64 i,.nil,.int .i64 0],[(7,⟨true,true,1,n,aA o⟩)],8⟩=
  let c13:AV:=int .i64 (↑n:Int);let c12:List AV:=[nil,int .i64 (0:Int)];let c9:Int:=(2:Int)^min (Int.toNat (63:Int)) u64.bits;let c8:AV:=ak 1 n fun a=>int .u32 (↑(z a):Int);let c5:AV:=own 7 1 0 n;let c4:Int:=(↑i:Int);let c2:List AV:=c8::c13::int .i64 (i64.wrap (c4+1))::c12;let c1:Nat:=c4.toNat;let c11:Int:=u64.wrap (↑(z c1):Int);let c10:Prop:=(0:Int)<=c4/\c1<n;let c7:Nat:=c1+0;let c6:Int:=u64.wrap (c11-(↑w:Int));let c3:Int:=u64.wrap (c11-u64.wrap ((↑w:Int)+u64.wrap (↑(aB B c1):Int)));some (ag.fork (decide (c4<(↑n:Int))) (ag.aj [c10] (ag.fork (decide (c4<(↑(nl B):Int))) (ag.aj [(0:Int)<=c4/\c1<nl B] (ag.aj [c10,c7<n] (ag.aj [(0:Int)<=63] (ag.leaf aq.normal (mag B::c5::int .u64 (c3.fdiv c9)::c2,[(7,az.mk true true 1 n fun j=>if(j==c7)=true then int .u32 (u32.wrap c3)else aA o j)]))))) (ag.aj [c10,c7<n] (ag.aj [(0:Int)<=63] (ag.leaf aq.normal (mag B::c5::int .u64 (c6.fdiv c9)::c2,[(7,az.mk true true 1 n fun j=>if(j==c7)=true then int .u32 (u32.wrap c6)else aA o j)])))))) (ag.leaf (aq.exit 0) (mag B::c5::int .u64 (↑w:Int)::c8::c13::int .i64 c4::c12,[(7,az.mk true true 1 n fun a=>int .u32 (↑(o a):Int))]))):=ah
theorem SR {n B i w:Nat} {z o:Nat->Nat}:cP T G1 [] 30 f140 (behind (aF f140) [1,1,1,1,1,0,1]) ⟨aG [1,6,7,21,22,23,4,5] [.mag B,.own 7 1 0 n,.int .u64 w,.ak 1 n (aA z),.int .i64 n,.int .i64 i,.nil,.int .i64 0],[(7,⟨true,true,1,n,aA o⟩)],8⟩=
  some (ag.aj [eo n fun i=>aA o (i+0),n<2^62] (ag.leaf aq.ret [mag (val n fun i=>numOf (aA o (i+0))),int .i64 (0:Int)])):=ah
theorem adp {n b:Nat} {z:Nat->Nat}:aL T G1 [] 30 [0,1,6,7,8] (before (aF f172) [1,1,1,0,1]) ⟨aS 0 [.ak 1 n (aA z),.int .u32 b],[],0⟩=
  let c1:Int:=(↑n:Int);some (ag.aj [(0:Int)<=c1/\c1<=c1/\c1<=2^47/\c1*(↑(4:Nat):Int)<=2^47] (ag.leaf aq.normal ([ak 1 n fun a=>int .u32 (↑(z a):Int),int .u32 (↑b:Int),own 16384 1 0 c1.toNat,int .u64 (0:Int),int .i64 (i64.wrap (c1-1))],[(16384,az.mk true true 1 c1.toNat fun x=>int .u32 (0:Int))]))):=ah
theorem abc {n b k r:Nat} {z o:Nat->Nat}:aL T [] [16] 30 [0,1,6,7,8] [part (aF f172) [1,1,1,0,1,0,0]] ⟨aG [0,1,6,7,8] [.ak 1 n (aA z),.int .u32 b,.own 7 1 0 n,.int .u64 r,.int .i64 ((k:Int)-1)],[(7,⟨true,true,1,n,aA o⟩)],8⟩=
  let c8:AV:=int .u32 (↑b:Int);let c6:AV:=own 7 1 0 n;let c4:AV:=ak 1 n fun a=>int .u32 (↑(z a):Int);let c3:Int:=u64.wrap (↑b:Int);let c2:Int:=(↑k:Int)-1;let c7:Prop:=(0:Int)<=c2/\c2.toNat<n;let c5:Nat:=c2.toNat+0;let c1:Int:=u64.wrap (↑(BitVec.ofInt u64.bits (u64.wrap ((↑r:Int)*2^min (Int.toNat (32:Int)) u64.bits))|||BitVec.ofInt u64.bits (u64.wrap (↑(z c2.toNat):Int))).toNat:Int);some (ag.fork (decide (c2>=0)) (ag.aj [(0:Int)<=32,c7] (ag.aj [c3≠(0:Int),c7,c5<n] (ag.aj [c3≠(0:Int)] (ag.leaf aq.normal ([c4,c8,c6,int .u64 (c1.tmod c3),int .i64 (i64.wrap (c2-1))],[(7,az.mk true true 1 n fun j=>if(j==c5)=true then int .u32 (u32.wrap (u64.wrap (c1.tdiv c3)))else aA o j)]))))) (ag.leaf (aq.exit 0) ([c4,c8,c6,int .u64 (↑r:Int),int .i64 c2],[(7,az.mk true true 1 n fun a=>int .u32 (↑(o a):Int))]))):=ah
theorem U9 {n b k r:Nat} {z o:Nat->Nat}:cP T G1 [] 30 f172 (behind (aF f172) [1,1,1,0,1]) ⟨aG [0,1,6,7,8] [.ak 1 n (aA z),.int .u32 b,.own 7 1 0 n,.int .u64 r,.int .i64 ((k:Int)-1)],[(7,⟨true,true,1,n,aA o⟩)],8⟩=
  some (ag.aj [eo n fun i=>aA o (i+0),n<2^62] (ag.leaf aq.ret [mag (val n fun i=>numOf (aA o (i+0))),int .u32 (u32.wrap (↑r:Int))])):=ah
theorem adn {n s:Nat} {z:Nat->Nat}:aL T G1 [] 30 [0,1,5,6,13,14,15] (before (aF f174) [1,1,1,0,1]) ⟨aS 0 [.ak 1 n (aA z),.int .i64 s],[],0⟩=
  let c2:AV:=ak 1 n fun a=>int .u32 (↑(z a):Int);let c1:Int:=i64.wrap ((↑n:Int)+1);some (ag.aj [(0:Int)<=c1/\c1<=c1/\c1<=2^47/\c1*(↑(4:Nat):Int)<=2^47] (ag.leaf aq.normal ([c2,int .i64 (↑s:Int),own 16384 1 0 c1.toNat,int .u64 (0:Int),c2,int .i64 (↑n:Int),int .i64 (0:Int)],[(16384,az.mk true true 1 c1.toNat fun x=>int .u32 (0:Int))]))):=ah
theorem Y2 {n s i c:Nat} {z o:Nat->Nat}:aL T [] [16] 30 [0,1,5,6,13,14,15] [part (aF f174) [1,1,1,0,1,0,0]] ⟨aG [0,1,5,6,13,14,15] [.ak 1 n (aA z),.int .i64 s,.own 7 1 0 (n+1),.int .u64 c,.ak 1 n (aA z),.int .i64 n,.int .i64 i],[(7,⟨true,true,1,n+1,aA o⟩)],8⟩=
  let c8:AV:=int .i64 (↑s:Int);let c7:AV:=int .i64 (↑n:Int);let c4:Nat:=n+1;let c3:Int:=(↑i:Int);let c2:AV:=ak 1 n fun a=>int .u32 (↑(z a):Int);let c6:Nat:=c3.toNat+0;let c5:AV:=own 7 1 0 c4;let c1:Int:=u64.wrap (↑(BitVec.ofInt u64.bits (↑c:Int)|||BitVec.ofInt u64.bits (u64.wrap (u64.wrap (↑(z c3.toNat):Int)*2^min (↑s:Int).toNat u64.bits))).toNat:Int);some (ag.fork (decide (c3<(↑n:Int))) (ag.aj [(0:Int)<=c3/\c3.toNat<n] (ag.aj [(0:Int)<=(↑s:Int)] (ag.aj [(0:Int)<=c3/\c3.toNat<c4,c6<c4] (ag.aj [(0:Int)<=32] (ag.leaf aq.normal ([c2,c8,c5,int .u64 (c1.fdiv ((2:Int)^min (Int.toNat (32:Int)) u64.bits)),c2,c7,int .i64 (i64.wrap (c3+1))],[(7,az.mk true true 1 c4 fun j=>if(j==c6)=true then int .u32 (u32.wrap c1)else aA o j)])))))) (ag.leaf (aq.exit 0) ([c2,c8,c5,int .u64 (↑c:Int),c2,c7,int .i64 c3],[(7,az.mk true true 1 c4 fun a=>int .u32 (↑(o a):Int))]))):=ah
theorem aat {B x y r v w' t:Nat} (hr:r+y=x+w'*4294967296) (h:v=t):v+r*B+y*B=t+x*B+w'*(4294967296*B):=by
 subst h
 have:(r+y)*B=(x+w'*4294967296)*B:=by rw[hr]
 grind
theorem Ov {x y:Nat} (hx:x<2^32) (hy:y<=2^32):∃r w:Nat,r<2^32/\w<=1/\r+y=x+w*4294967296/\((x:Int)-y)%2^64%2^32=r/\((x:Int)-y)%2^64/9223372036854775808=w:=by
 rcases Nat.lt_or_ge x y with h|h
 ·exact⟨x+4294967296-y,1,aa,aa,aa,aa,aa⟩
 ·exact⟨x-y,0,aa,aa,aa,aa,aa⟩
abbrev tu:List Nat:=[1,6,7,21,22,23,4,5]
abbrev AE (B n:Nat) (z:Nat->Nat) (K w i:Nat):List AV:=[.mag B,.own K 1 0 n,.int .u64 w,.ak 1 n (aA z),.int .i64 n,.int .i64 i,.nil,.int .i64 0]
theorem Vp {n m:Nat} {z y:Nat->Nat} (hz:∀i,i<n->z i<2^32) (hy:∀i,i<m->y i<2^32) (hn:n<2^40) (hm':m<2^40) (K:Nat) (pre:aD):
  aN P 140 K [.ak 1 n (aA z),.ak 1 m (aA y)] pre (aH (.tuple [.mag (val n z-val m y),.int .i64 (if val n z<val m y then 7 else 0)]) []):=by
 refine jN hT Vc rfl aW rfl (fun _ c h0=>?_) K pre
 refine ay.hole [1,1,1,1,1,0,1] ah (aI.bH hT ahC hm 30 tu V6 ah ?_)
 have hA:nl (val n z)<=n:=dL.2 (ga hz)
 have hAlt:=ga hz
 generalize hB:val m y=B at*
 simp only[ag.all,au,bz,bG,jO,hB]
 refine⟨⟨gD hz,gD hy,aa,aa⟩,fun hb s' hv=>?_,fun hb=>⟨⟨gD hy,aa⟩,aa,fun s' hv=>?_⟩⟩
 ·have h1:val n z<B:=by
   unfold cY at hb
   split at hb
   ·assumption
   ·split at hb<;>omega
  refine gU (us:=[.nil,.int .i64 7]) (.inr rfl) hv ah ⟨kO.trans (dX (congrArg AV.mag aa)),bW (by rw[if_pos h1]),trivial⟩
 have hBA:B<=val n z:=by
  unfold cY at hb
  split at hb<;>omega
 have hnB:nl B<=n:=Nat.le_trans (iC hBA) hA
 refine ay.ji (i:=0) (y:=part (aF f140) [1,1,1,1,1,0,1,0,0]) ah
  (fun p:Nat×Nat×(Nat->Nat)=>⟨aG tu (AE B n z 7 p.2.1 p.1),[(7,⟨true,true,1,n,aA p.2.2⟩)],8⟩)
  (fun p=>p.1<=n/\p.2.1<=1/\(∀j,j<n->p.2.2 j<2^32)/\val p.1 p.2.2+val (min p.1 (nl B)) (aB B)=val p.1 z+p.2.1*2^(32*p.1))
  (fun p=>n-p.1) (0,0,fun _=>0)
  (dI [(7,45056)] hv h0 rfl ⟨aP,⟨rfl,dx rfl rfl rfl⟩,aP,aP,aP,aP,aP,aP,trivial⟩
   ⟨⟨_,_,rfl,rfl,fP rfl fun j _=>rfl⟩,trivial⟩)
  ⟨by simp,by simp,fun j _=>by simp,by simp[val]⟩ ?_
 rintro⟨i,w,o⟩ ⟨hi,hw,ho,hval⟩
 simp only at hi hw ho hval
 refine ay.bH hT bD hm 30 tu aaZ ah ?_
 have key:∀{yi:Nat} {s':aK} {u v:Int} {f':Nat->AV} {r w':Nat},i<n->yi=(if i<nl B then aB B i else 0)->r<2^32->w'<=1->r+(w+yi)=z i+w'*4294967296->
   bB tu s'=some ([.mag B,.own 7 1 0 n,.int .u64 u,.ak 1 n (aA z),.int .i64 n,.int .i64 v,.nil,.int .i64 0],[(7,⟨true,true,1,n,f'⟩)])->
   u=(w':Nat)->v=(i+1:Nat)->(∀j,f' j=aA (cE o i r) j)->
   ∃k:Nat×Nat×(Nat->Nat),(∃ρ,Le c ρ s' ⟨aG tu (AE B n z 7 k.2.1 k.1),[(7,⟨true,true,1,n,aA k.2.2⟩)],8⟩)/\
    (k.1<=n/\k.2.1<=1/\(∀j,j<n->k.2.2 j<2^32)/\val k.1 k.2.2+val (min k.1 (nl B)) (aB B)=val k.1 z+k.2.1*2^(32*k.1))/\n-k.1<n-i:=by
  intro yi s' u v f' r w' hin hyi hr hw1 hrw hv hu hv1 hf
  refine⟨(i+1,w',cE o i r),dI [(7,7)] hv h0 rfl ⟨aP,⟨rfl,dx rfl rfl rfl⟩,⟨rfl,gF hu⟩,aP,aP,⟨rfl,gF hv1⟩,aP,aP,trivial⟩
   ⟨⟨_,_,rfl,rfl,fP rfl fun j _=>hf j⟩,trivial⟩,⟨by simp only;omega,hw1,iS hr ho,?_⟩,by simp only;omega⟩
  simp only
  rw[JC,<-hyi,rN,iB]
  show _=val i z+z i*2^(32*i)+_
  have:=aat (B:=2^(32*i)) hrw hval
  rw[Nat.add_mul]at this
  omega
 have fin:i=n->∀s',bB tu s'=some (AE B n z 7 w i,[(7,⟨true,true,1,n,aA o⟩)])->
   aI P c f140.ntmps (behind (aF f140) [1,1,1,1,1,0,1]) s' (Fin T f140 (.tuple [.mag (val n z-B),.int .i64 (if val n z<B then 7 else 0)])):=by
  intro hin s' hv
  subst hin
  rw[Nat.min_eq_right hnB,gq]at hval
  have hlt:=ga ho
  have hw0:w=0:=by
   rcases Nat.eq_zero_or_pos w with h|h
   ·exact h
   ·have:w=1:=aa
    subst this
    omega
  subst hw0
  refine aI.weak ah (dI (vs:=AE B i z 7 0 i) (ps:=[(7,⟨true,true,1,i,aA o⟩)]) (nx:=8) [(7,7)] hv h0 rfl
    ⟨aP,⟨rfl,dx rfl rfl rfl⟩,aP,aP,aP,aP,aP,aP,trivial⟩
    ⟨⟨_,_,rfl,rfl,fP rfl fun j _=>rfl⟩,trivial⟩)
   (aI.fin hT gX hm 30 SR ah ?_)
  simp only[ag.all,au,Nat.add_zero,jO]
  exact⟨⟨gD ho,aa⟩,dX (congrArg AV.mag aa),bW (by rw[if_neg aa]),trivial⟩
 simp only[ag.all,au,bz,bG,br,Nat.add_zero,beq_iff_eq]
 refine⟨fun hb=>?_,fun hb s' hv=>fin aa s' hv⟩
 have h1:i<n:=aa
 have hzi:=hz i h1
 have hl:=dS (N:=B) (i:=i)
 have e1:u64.wrap (z i:Int)=(z i:Int):=cw aa aa
 have e2:u64.wrap (aB B i:Int)=(aB B i:Int):=cw aa aa
 have e3:u64.wrap ((w:Int)+(aB B i:Int))=((w+aB B i:Nat):Int):=by rw[cw aa aa];omega
 rw[e1,e2,e3]
 refine⟨aa,fun hb2=>?_,fun hb2=>?_⟩
 ·have h2:i<nl B:=aa
  obtain⟨r,w',q1,q2,q3,q4,q5⟩:=Ov hzi (y:=w+aB B i) aa
  refine⟨aa,aa,aa,fun s' hv=>key (yi:=aB B i) h1 (by rw[if_pos h2]) q1 q2 q3 hv ?_ (by rw[wrap_i64 aa aa];omega) fun j=>hU ?_ j⟩
  ·rw[CK,oC];exact q5
  ·rw[lC,oC];exact q4
 ·have h2:¬i<nl B:=aa
  obtain⟨r,w',q1,q2,q3,q4,q5⟩:=Ov hzi (y:=w) aa
  refine⟨aa,aa,fun s' hv=>key (yi:=0) h1 (by rw[if_neg h2]) q1 q2 q3 hv ?_ (by rw[wrap_i64 aa aa];omega) fun j=>hU ?_ j⟩
  ·rw[CK,oC];exact q5
  ·rw[lC,oC];exact q4
theorem YU {r x:Nat} (hr:r<2^32) (hx:x<2^32):
  u64.wrap ((BitVec.ofInt u64.bits (u64.wrap ((r:Int)*2^min (Int.toNat 32) u64.bits))|||BitVec.ofInt u64.bits (u64.wrap (x:Int))).toNat:Int)=((r*4294967296+x:Nat):Int):=by
 rw[wo,cw (x:=(x:Int)) aa aa,cw (x:=(r:Int)*4294967296) aa aa]
 rw[show(r:Int)*4294967296=((r*2^32:Nat):Int) by omega,s8 aa aa,qO hx]
theorem Fl {r z b B v t vz q r':Nat} (h:v*b+r*(4294967296*B)+(vz+z*B)=t) (hq:r*4294967296+z=b*q+r'):(v+q*B)*b+r'*B+vz=t:=by
 have:(r*4294967296+z)*B=(b*q+r')*B:=by rw[hq]
 grind
abbrev Bl:List Nat:=[0,1,6,7,8]
abbrev Ih (n:Nat) (z:Nat->Nat) (b K r k:Nat):List AV:=[.ak 1 n (aA z),.int .u32 b,.own K 1 0 n,.int .u64 r,.int .i64 ((k:Int)-1)]
theorem Qd {n b:Nat} {z:Nat->Nat} (hz:∀i,i<n->z i<2^32) (hn:n<2^40) (hb0:0<b) (hb32:b<2^32) (K:Nat) (pre:aD):
  aN P 172 K [.ak 1 n (aA z),.int .u32 b] pre (aH (.tuple [.mag (val n z/b),.int .u32 (val n z%b:Nat)]) []):=by
 refine jN hT ZY rfl aW rfl (fun _ c h0=>?_) K pre
 refine ay.hole [1,1,1,0,1] ah (aI.bH hT gX hm 30 Bl adp ah ?_)
 simp only[ag.all,au]
 refine⟨aa,fun s' hv=>?_⟩
 refine ay.ji (i:=0) (y:=part (aF f172) [1,1,1,0,1,0,0]) ah
  (fun p:Nat×Nat×(Nat->Nat)=>⟨aG Bl (Ih n z b 7 p.2.1 p.1),[(7,⟨true,true,1,n,aA p.2.2⟩)],8⟩)
  (fun p=>p.1<=n/\p.2.1<b/\(∀j,j<n->p.2.2 j<2^32)/\(∀j,j<p.1->p.2.2 j=0)/\val n p.2.2*b+p.2.1*2^(32*p.1)+val p.1 z=val n z)
  (fun p=>p.1) (n,0,fun _=>0)
  (dI [(7,16384)] hv h0 rfl ⟨aP,aP,⟨rfl,dx rfl rfl rfl⟩,aP,⟨rfl,gF (wrap_i64 aa aa)⟩,trivial⟩
   ⟨⟨_,_,rfl,rfl,fP rfl fun j _=>rfl⟩,trivial⟩)
  ⟨by simp,hb0,fun j _=>by simp,fun j _=>rfl,?_⟩ ?_
 ·simp only
  rw[m7 (k:=0) aa fun _ _ _=>rfl]
  simp[val]
 rintro⟨k,r,o⟩ ⟨hk,hr,ho,ho0,hval⟩
 simp only at hk hr ho ho0 hval
 refine ay.bH hT bD hm 30 Bl abc ah ?_
 simp only[ag.all,au,bz,bG,Nat.add_zero,beq_iff_eq]
 have hbw:u64.wrap (b:Int)=(b:Int):=cw aa aa
 refine⟨fun hb=>?_,fun hb s' hv=>?_⟩
 ·obtain⟨j,rfl⟩:∃j,k=j+1:=⟨k-1,aa⟩
  have e:(((j+1:Nat):Int)-1).toNat=j:=aa
  have hzj:=hz j aa
  have hor:=YU (r:=r) (x:=z j) aa hzj
  rw[e,hor,hbw]
  have hq1:(r*4294967296+z j)/b<2^32:=by
   rw[Nat.div_lt_iff_lt_mul hb0]
   have:(r+1)*4294967296<=b*4294967296:=Nat.mul_le_mul_right _ hr
   omega
  have hdm:=Nat.div_add_mod (r*4294967296+z j) b
  refine⟨⟨aa,aa,aa⟩,⟨aa,⟨aa,aa⟩,aa⟩,aa,fun s' hv=>⟨(j,(r*4294967296+z j)%b,cE o j ((r*4294967296+z j)/b)),?_,⟨by simp only;omega,Nat.mod_lt _ hb0,iS hq1 ho,fun i hi=>?_,?_⟩,by simp only;omega⟩⟩
  ·refine dI [(7,7)] hv h0 rfl ⟨aP,aP,⟨rfl,dx rfl rfl rfl⟩,⟨rfl,gF (Int.ofNat_tmod _ _).symm⟩,⟨rfl,gF ?_⟩,trivial⟩
    ⟨⟨_,_,rfl,rfl,fP rfl fun i _=>hU ?_ i⟩,trivial⟩
   ·rw[wrap_i64 aa aa];simp only;omega
   ·rw[<-Int.ofNat_tdiv]
    clear hdm
    generalize (r*4294967296+z j)/b=q at hq1 ⊢
    rw[cw aa aa,wrap_u32 aa aa]
  ·exact(fS (by simp only at hi;omega)).trans (ho0 i (by simp only at hi;omega))
  ·simp only
   rw[qc aa (ho0 j aa)]
   rw[iB,val]at hval
   exact Fl hval hdm.symm
 ·have hk0:k=0:=aa
  subst hk0
  have hv2:val n o*b+r=val n z:=by simpa [val]using hval
  refine aI.weak ah (dI (vs:=Ih n z b 7 r 0) (ps:=[(7,⟨true,true,1,n,aA o⟩)]) (nx:=8) [(7,7)] hv h0 rfl
    ⟨aP,aP,⟨rfl,dx rfl rfl rfl⟩,aP,aP,trivial⟩
    ⟨⟨_,_,rfl,rfl,fP rfl fun j _=>rfl⟩,trivial⟩)
   (aI.fin hT gX hm 30 U9 ah ?_)
  simp only[ag.all,au,Nat.add_zero,jO]
  have hdiv:val n z/b=val n o:=by
   rw[<-hv2,Nat.mul_comm,Nat.mul_add_div hb0,Nat.div_eq_of_lt hr,Nat.add_zero]
  have hmod:val n z%b=r:=by
   rw[<-hv2,Nat.mul_comm,Nat.mul_add_mod,Nat.mod_eq_of_lt hr]
  exact⟨⟨gD ho,aa⟩,dX (congrArg AV.mag hdiv.symm),bW (by rw[hmod,wrap_u32 aa aa]),trivial⟩
theorem aco {x s:Nat} (hs:s<32) (hx:x<2^32):u64.wrap (u64.wrap (x:Int)*2^min (s:Int).toNat u64.bits)=((x*2^s:Nat):Int)/\x*2^s<2^64:=by
 have e:min (s:Int).toNat u64.bits=s:=by
  have:u64.bits=64:=rfl
  omega
 have hlt:x*2^s<2^64:=by
  have h1:2^s<=2^31:=Nat.pow_le_pow_right aa aa
  have h2:x*2^s<=2^32*2^31:=Nat.mul_le_mul aa h1
  omega
 refine⟨?_,hlt⟩
 rw[e,cw (x:=(x:Int)) aa aa]
 have:(x:Int)*2^s=((x*2^s:Nat):Int):=by simp
 rw[this]
 exact cw aa aa
theorem Gb {c x s:Nat} (hs:s<32) (hx:x<2^32) (hc:c<2^s):
  u64.wrap ((BitVec.ofInt u64.bits (c:Int)|||BitVec.ofInt u64.bits (u64.wrap (u64.wrap (x:Int)*2^min (s:Int).toNat u64.bits))).toNat:Int)=((c+x*2^s:Nat):Int):=by
 obtain⟨h1,h2⟩:=aco hs hx
 have h3:2^s<=2^31:=Nat.pow_le_pow_right aa aa
 rw[h1,s8 aa h2,Nat.or_comm,qO hc,Nat.add_comm]
theorem Ie {c x s:Nat} (hs:s<32) (hx:x<2^32) (hc:c<2^s):c+x*2^s<2^63/\(c+x*2^s)/4294967296<2^s:=by
 have h3:2^s<=2^31:=Nat.pow_le_pow_right aa aa
 have h4:(x+1)*2^s<=2^32*2^s:=Nat.mul_le_mul_right _ hx
 rw[Nat.add_mul,Nat.one_mul]at h4
 refine⟨aa,?_⟩
 rw[Nat.div_lt_iff_lt_mul aa]
 omega
theorem Mz {B c x t v S:Nat} (h:v+c*B=t*S):v+(c+x*S)%4294967296*B+(c+x*S)/4294967296*(4294967296*B)=(t+x*B)*S:=by
 have h1:=Nat.div_add_mod (c+x*S) 4294967296
 generalize (c+x*S)/4294967296=q at*
 generalize (c+x*S)%4294967296=r at*
 have:(4294967296*q+r)*B=(c+x*S)*B:=by rw[h1]
 grind
abbrev AP:List Nat:=[0,1,5,6,13,14,15]
abbrev LL (n s:Nat) (z:Nat->Nat) (K c i:Nat):List AV:=[.ak 1 n (aA z),.int .i64 s,.own K 1 0 (n+1),.int .u64 c,.ak 1 n (aA z),.int .i64 n,.int .i64 i]
theorem Yn {n s:Nat} {z:Nat->Nat} (hz:∀i,i<n->z i<2^32) (hn:n<2^40) (hs:s<32) {c:Ctx} (h0:c.k0=bt) {Q:aq->aK->Prop}
  (fin:∀(c':Nat) (o:Nat->Nat) (s':aK),c'<2^s->(∀j,j<n+1->o j<2^32)->val n o+c'*2^(32*n)=val n z*2^s->bB AP s'=some (LL n s z 7 c' n,[(7,⟨true,true,1,n+1,aA o⟩)])->
   aI P c f174.ntmps (behind (aF f174) [1,1,1,0,1]) s' Q):
  ay P c f174.ntmps (aF f174) ⟨aS 0 [.ak 1 n (aA z),.int .i64 s],[],0⟩ Q:=by
 refine ay.hole [1,1,1,0,1] ah (aI.bH hT gX hm 30 AP adn ah ?_)
 have hw:i64.wrap ((n:Int)+1)=((n+1:Nat):Int):=by rw[wrap_i64 aa aa];omega
 simp only[ag.all,au,hw,br]
 refine⟨aa,fun s' hv=>?_⟩
 refine ay.ji (i:=0) (y:=part (aF f174) [1,1,1,0,1,0,0]) ah
  (fun p:Nat×Nat×(Nat->Nat)=>⟨aG AP (LL n s z 7 p.2.1 p.1),[(7,⟨true,true,1,n+1,aA p.2.2⟩)],8⟩)
  (fun p=>p.1<=n/\p.2.1<2^s/\(∀j,j<n+1->p.2.2 j<2^32)/\val p.1 p.2.2+p.2.1*2^(32*p.1)=val p.1 z*2^s)
  (fun p=>n-p.1) (0,0,fun _=>0)
  (dI [(7,16384)] hv h0 rfl ⟨aP,aP,⟨rfl,dx rfl rfl rfl⟩,aP,aP,aP,aP,trivial⟩
   ⟨⟨_,_,rfl,rfl,fP rfl fun j _=>rfl⟩,trivial⟩)
  ⟨by simp,Nat.two_pow_pos s,fun j _=>by simp,by simp[val]⟩ ?_
 rintro⟨i,c',o⟩ ⟨hi,hc,ho,hval⟩
 simp only at hi hc ho hval
 refine ay.bH hT bD hm 30 AP Y2 ah ?_
 simp only[ag.all,au,bz,bG,Nat.add_zero,beq_iff_eq,br]
 refine⟨fun hb=>?_,fun hb s' hv=>?_⟩
 ·have h1:i<n:=aa
  have hzi:=hz i h1
  have hor:=Gb hs hzi hc
  simp only[br]at hor
  rw[hor]
  obtain⟨b1,b2⟩:=Ie hs hzi hc
  refine⟨aa,aa,aa,aa,fun s' hv=>⟨(i+1,(c'+z i*2^s)/4294967296,cE o i ((c'+z i*2^s)%4294967296)),?_,⟨by simp only;omega,b2,iS aa ho,?_⟩,by simp only;omega⟩⟩
  ·refine dI [(7,7)] hv h0 rfl ⟨aP,aP,⟨rfl,dx rfl rfl rfl⟩,⟨rfl,gF ?_⟩,aP,aP,⟨rfl,gF ?_⟩,trivial⟩
    ⟨⟨_,_,rfl,rfl,fP rfl fun j _=>hU ?_ j⟩,trivial⟩
   ·rw[lW];simp only;omega
   ·rw[wrap_i64 aa aa];simp only;omega
   ·rw[jP]
  ·simp only
   rw[rN,iB]
   exact Mz hval
 ·have hin:i=n:=aa
  subst hin
  exact fin c' o s' hc ho hval hv
theorem ahp {s c' i:Nat} {o:Nat->Nat} (hs:s<32) (hc:c'<2^s):∀j,(if j=i then AV.int .u32 (u32.wrap (c':Int))else aA o j)=aA (cE o i c') j:=fun j=>hU (by
 have h3:2^s<=2^31:=Nat.pow_le_pow_right aa aa
 exact wrap_u32 aa aa) j
def F7 (A n B m:Nat):dw:=aH (.tuple [.mag (A-B),.int .i64 (if A<B then 7 else 0)]) [n<2^40,m<2^40]
theorem aa5:bf P (bX (iY F7)) 140:=
 cM (sC fun _ _ _ _ K hz hy need=>Vp hz hy need.1 need.2 K [])
def J9 (N n:Nat) (b:Int):dw:=aH (.tuple [.mag (N/b.toNat),.int .u32 (N%b.toNat:Nat)]) [n<2^40,0<b,b<2^32]
theorem ag6:bf P (bX (zE J9)) 172:=
 cM (ahX fun z n i K hz need=>by
  obtain⟨h1,h2,h3⟩:n<2^40/\0<i/\i<2^32:=need
  obtain⟨b,rfl⟩:=Int.eq_ofNat_of_zero_le (Int.le_of_lt h2)
  exact Qd hz h1 aa aa K [])
end Go.Am.B
