/- natural.Sub, natural.small, natural.raise. -/
import Derived.Test.YtolopdkjjlfgjaaGreatB3
set_option linter.unusedVariables false
namespace Go.Am.B
open Go Go.Am.N AV Proofs.Tryz IntKind
theorem abJ:bu 178 f178:=bz func178
theorem S4:bu 183 f183:=bz func183
theorem Vp:bu 185 f185:=bz func185
def G2:bB:=(118,b7 (jq A6))::G1
theorem abB:bT P G2:=aN Di iA
theorem TO {n m:Nat} {z y:Nat->Nat}:aH T G2 [15] 30 [1,6,7,21,22,23,4,5] (before (aG f178) [1,1,1,1,1,0,1]) ⟨aV 0 [.aq 1 n (az z),.aq 1 m (az y)],[],0⟩=
  let c5:AV:=tuple [];let c4:AV:=int .i64 (0:Int);let c3:Nat:=val m fun i=>numOf (az y i);let c2:Int:=(↑n:Int);let c1:Int:=dr (val n fun i=>numOf (az z i)) c3;some (af.aj [eP n (az z),eP m (az y),n<2^40,m<2^40] (af.fork (decide (c1<0)) (af.leaf ak.ret ([aq 1 m fun a=>int .u32 (↑(y a):Int),c5,c5,c5,c5,c5,nil,int .i64 (7:Int)],[])) (af.aj [eP m (az y),m<2^62] (af.aj [(0:Int)<=c2/\c2<=c2/\c2<=2^47/\c2*(↑(4:Nat):Int)<=2^47] (af.leaf ak.normal ([mag c3,own 45056 1 0 c2.toNat,int .u64 (0:Int),aq 1 n fun a=>int .u32 (↑(z a):Int),int .i64 c2,c4,nil,c4],[(45056,ay.mk true true 1 c2.toNat fun x=>int .u32 (0:Int))])))))):=ag
theorem VY {n B i w:Nat} {z o:Nat->Nat}:aH T [] [24,32] 30 [1,6,7,21,22,23,4,5] [part (aG f178) [1,1,1,1,1,0,1,0,0]] ⟨aE [1,6,7,21,22,23,4,5] [.mag B,.own 7 1 0 n,.int .u64 w,.aq 1 n (az z),.int .i64 n,.int .i64 i,.nil,.int .i64 0],[(7,⟨true,true,1,n,az o⟩)],8⟩=
  let c13:AV:=int .i64 (↑n:Int);let c12:List AV:=[nil,int .i64 (0:Int)];let c9:Int:=(2:Int)^min (Int.toNat (63:Int)) u64.bits;let c8:AV:=aq 1 n fun a=>int .u32 (↑(z a):Int);let c5:AV:=own 7 1 0 n;let c4:Int:=(↑i:Int);let c2:List AV:=c8::c13::int .i64 (i64.wrap (c4+1))::c12;let c1:Nat:=c4.toNat;let c11:Int:=u64.wrap (↑(z c1):Int);let c10:Prop:=(0:Int)<=c4/\c1<n;let c7:Nat:=c1+0;let c6:Int:=u64.wrap (c11-(↑w:Int));let c3:Int:=u64.wrap (c11-u64.wrap ((↑w:Int)+u64.wrap (↑(aB B c1):Int)));some (af.fork (decide (c4<(↑n:Int))) (af.aj [c10] (af.fork (decide (c4<(↑(nl B):Int))) (af.aj [(0:Int)<=c4/\c1<nl B] (af.aj [c10,c7<n] (af.aj [(0:Int)<=63] (af.leaf ak.normal (mag B::c5::int .u64 (c3.fdiv c9)::c2,[(7,ay.mk true true 1 n fun j=>if(j==c7)=true then int .u32 (u32.wrap c3)else az o j)]))))) (af.aj [c10,c7<n] (af.aj [(0:Int)<=63] (af.leaf ak.normal (mag B::c5::int .u64 (c6.fdiv c9)::c2,[(7,ay.mk true true 1 n fun j=>if(j==c7)=true then int .u32 (u32.wrap c6)else az o j)])))))) (af.leaf (ak.exit 0) (mag B::c5::int .u64 (↑w:Int)::c8::c13::int .i64 c4::c12,[(7,ay.mk true true 1 n fun a=>int .u32 (↑(o a):Int))]))):=ag
theorem WI {n B i w:Nat} {z o:Nat->Nat}:dA T G1 [] 30 f178 (behind (aG f178) [1,1,1,1,1,0,1]) ⟨aE [1,6,7,21,22,23,4,5] [.mag B,.own 7 1 0 n,.int .u64 w,.aq 1 n (az z),.int .i64 n,.int .i64 i,.nil,.int .i64 0],[(7,⟨true,true,1,n,az o⟩)],8⟩=
  some (af.aj [eP n fun i=>az o (i+0),n<2^62] (af.leaf ak.ret [mag (val n fun i=>numOf (az o (i+0))),int .i64 (0:Int)])):=ag
theorem Z7 {n b:Nat} {z:Nat->Nat}:aH T G1 [] 30 [0,1,6,7,8] (before (aG f183) [1,1,1,0,1]) ⟨aV 0 [.aq 1 n (az z),.int .u32 b],[],0⟩=
  let c1:Int:=(↑n:Int);some (af.aj [(0:Int)<=c1/\c1<=c1/\c1<=2^47/\c1*(↑(4:Nat):Int)<=2^47] (af.leaf ak.normal ([aq 1 n fun a=>int .u32 (↑(z a):Int),int .u32 (↑b:Int),own 16384 1 0 c1.toNat,int .u64 (0:Int),int .i64 (i64.wrap (c1-1))],[(16384,ay.mk true true 1 c1.toNat fun x=>int .u32 (0:Int))]))):=ag
theorem Ws {n b k r:Nat} {z o:Nat->Nat}:aH T [] [16] 30 [0,1,6,7,8] [part (aG f183) [1,1,1,0,1,0,0]] ⟨aE [0,1,6,7,8] [.aq 1 n (az z),.int .u32 b,.own 7 1 0 n,.int .u64 r,.int .i64 ((k:Int)-1)],[(7,⟨true,true,1,n,az o⟩)],8⟩=
  let c8:AV:=int .u32 (↑b:Int);let c6:AV:=own 7 1 0 n;let c4:AV:=aq 1 n fun a=>int .u32 (↑(z a):Int);let c3:Int:=u64.wrap (↑b:Int);let c2:Int:=(↑k:Int)-1;let c7:Prop:=(0:Int)<=c2/\c2.toNat<n;let c5:Nat:=c2.toNat+0;let c1:Int:=u64.wrap (↑(BitVec.ofInt u64.bits (u64.wrap ((↑r:Int)*2^min (Int.toNat (32:Int)) u64.bits))|||BitVec.ofInt u64.bits (u64.wrap (↑(z c2.toNat):Int))).toNat:Int);some (af.fork (decide (c2>=0)) (af.aj [(0:Int)<=32,c7] (af.aj [c3≠(0:Int),c7,c5<n] (af.aj [c3≠(0:Int)] (af.leaf ak.normal ([c4,c8,c6,int .u64 (c1.tmod c3),int .i64 (i64.wrap (c2-1))],[(7,ay.mk true true 1 n fun j=>if(j==c5)=true then int .u32 (u32.wrap (u64.wrap (c1.tdiv c3)))else az o j)]))))) (af.leaf (ak.exit 0) ([c4,c8,c6,int .u64 (↑r:Int),int .i64 c2],[(7,ay.mk true true 1 n fun a=>int .u32 (↑(o a):Int))]))):=ag
theorem acD {n b k r:Nat} {z o:Nat->Nat}:dA T G1 [] 30 f183 (behind (aG f183) [1,1,1,0,1]) ⟨aE [0,1,6,7,8] [.aq 1 n (az z),.int .u32 b,.own 7 1 0 n,.int .u64 r,.int .i64 ((k:Int)-1)],[(7,⟨true,true,1,n,az o⟩)],8⟩=
  some (af.aj [eP n fun i=>az o (i+0),n<2^62] (af.leaf ak.ret [mag (val n fun i=>numOf (az o (i+0))),int .u32 (u32.wrap (↑r:Int))])):=ag
theorem QI {n s:Nat} {z:Nat->Nat}:aH T G1 [] 30 [0,1,5,6,13,14,15] (before (aG f185) [1,1,1,0,1]) ⟨aV 0 [.aq 1 n (az z),.int .i64 s],[],0⟩=
  let c2:AV:=aq 1 n fun a=>int .u32 (↑(z a):Int);let c1:Int:=i64.wrap ((↑n:Int)+1);some (af.aj [(0:Int)<=c1/\c1<=c1/\c1<=2^47/\c1*(↑(4:Nat):Int)<=2^47] (af.leaf ak.normal ([c2,int .i64 (↑s:Int),own 16384 1 0 c1.toNat,int .u64 (0:Int),c2,int .i64 (↑n:Int),int .i64 (0:Int)],[(16384,ay.mk true true 1 c1.toNat fun x=>int .u32 (0:Int))]))):=ag
theorem Qm {n s i c:Nat} {z o:Nat->Nat}:aH T [] [16] 30 [0,1,5,6,13,14,15] [part (aG f185) [1,1,1,0,1,0,0]] ⟨aE [0,1,5,6,13,14,15] [.aq 1 n (az z),.int .i64 s,.own 7 1 0 (n+1),.int .u64 c,.aq 1 n (az z),.int .i64 n,.int .i64 i],[(7,⟨true,true,1,n+1,az o⟩)],8⟩=
  let c8:AV:=int .i64 (↑s:Int);let c7:AV:=int .i64 (↑n:Int);let c4:Nat:=n+1;let c3:Int:=(↑i:Int);let c2:AV:=aq 1 n fun a=>int .u32 (↑(z a):Int);let c6:Nat:=c3.toNat+0;let c5:AV:=own 7 1 0 c4;let c1:Int:=u64.wrap (↑(BitVec.ofInt u64.bits (↑c:Int)|||BitVec.ofInt u64.bits (u64.wrap (u64.wrap (↑(z c3.toNat):Int)*2^min (↑s:Int).toNat u64.bits))).toNat:Int);some (af.fork (decide (c3<(↑n:Int))) (af.aj [(0:Int)<=c3/\c3.toNat<n] (af.aj [(0:Int)<=(↑s:Int)] (af.aj [(0:Int)<=c3/\c3.toNat<c4,c6<c4] (af.aj [(0:Int)<=32] (af.leaf ak.normal ([c2,c8,c5,int .u64 (c1.fdiv ((2:Int)^min (Int.toNat (32:Int)) u64.bits)),c2,c7,int .i64 (i64.wrap (c3+1))],[(7,ay.mk true true 1 c4 fun j=>if(j==c6)=true then int .u32 (u32.wrap c1)else az o j)])))))) (af.leaf (ak.exit 0) ([c2,c8,c5,int .u64 (↑c:Int),c2,c7,int .i64 c3],[(7,ay.mk true true 1 c4 fun a=>int .u32 (↑(o a):Int))]))):=ag
theorem VC {B x y r v w' t:Nat} (hr:r+y=x+w'*4294967296) (h:v=t):v+r*B+y*B=t+x*B+w'*(4294967296*B):=by
 subst h
 have:(r+y)*B=(x+w'*4294967296)*B:=by rw[hr]
 grind
theorem LD {x y:Nat} (hx:x<2^32) (hy:y<=2^32):∃r w:Nat,r<2^32/\w<=1/\r+y=x+w*4294967296/\((x:Int)-y)%2^64%2^32=r/\((x:Int)-y)%2^64/9223372036854775808=w:=by
 rcases Nat.lt_or_ge x y with h|h
 ·exact⟨x+4294967296-y,1,aa,aa,aa,aa,aa⟩
 ·exact⟨x-y,0,aa,aa,aa,aa,aa⟩
abbrev vv:List Nat:=[1,6,7,21,22,23,4,5]
abbrev BP (B n:Nat) (z:Nat->Nat) (K w i:Nat):List AV:=[.mag B,.own K 1 0 n,.int .u64 w,.aq 1 n (az z),.int .i64 n,.int .i64 i,.nil,.int .i64 0]
theorem aax {n m:Nat} {z y:Nat->Nat} (hz:∀i,i<n->z i<2^32) (hy:∀i,i<m->y i<2^32) (hn:n<2^40) (hm':m<2^40) (K:Nat) (pre:aD):
  aQ P 178 K [.aq 1 n (az z),.aq 1 m (az y)] pre (aM (.tuple [.mag (val n z-val m y),.int .i64 (if val n z<val m y then 7 else 0)]) []):=by
 refine kr hT abJ rfl bp rfl (fun _ c h0=>?_) K pre
 refine au.hole [1,1,1,1,1,0,1] ag (aF.bJ hT abB hm 30 vv TO ag ?_)
 have hA:nl (val n z)<=n:=ec.2 (gH hz)
 have hAlt:=gH hz
 generalize hB:val m y=B at*
 simp only[af.all,aA,bK,bO,kj,hB]
 refine⟨⟨g9 hz,g9 hy,aa,aa⟩,fun hb s' hv=>?_,fun hb=>⟨⟨g9 hy,aa⟩,aa,fun s' hv=>?_⟩⟩
 ·have h1:val n z<B:=by
   unfold dr at hb
   split at hb
   ·assumption
   ·split at hb<;>omega
  refine iq (us:=[.nil,.int .i64 7]) (.inr rfl) hv ag ⟨lF.trans (eO (congrArg AV.mag aa)),bV (by rw[if_pos h1]),trivial⟩
 have hBA:B<=val n z:=by
  unfold dr at hb
  split at hb<;>omega
 have hnB:nl B<=n:=Nat.le_trans (iS hBA) hA
 refine au.jh (i:=0) (y:=part (aG f178) [1,1,1,1,1,0,1,0,0]) ag
  (fun p:Nat×Nat×(Nat->Nat)=>⟨aE vv (BP B n z 7 p.2.1 p.1),[(7,⟨true,true,1,n,az p.2.2⟩)],8⟩)
  (fun p=>p.1<=n/\p.2.1<=1/\(∀j,j<n->p.2.2 j<2^32)/\val p.1 p.2.2+val (min p.1 (nl B)) (aB B)=val p.1 z+p.2.1*2^(32*p.1))
  (fun p=>n-p.1) (0,0,fun _=>0)
  (dZ [(7,45056)] hv h0 rfl ⟨aO,⟨rfl,en rfl rfl rfl⟩,aO,aO,aO,aO,aO,aO,trivial⟩
   ⟨⟨_,_,rfl,rfl,gq rfl fun j _=>rfl⟩,trivial⟩)
  ⟨by simp,by simp,fun j _=>by simp,by simp[val]⟩ ?_
 rintro⟨i,w,o⟩ ⟨hi,hw,ho,hval⟩
 simp only at hi hw ho hval
 refine au.bJ hT ct hm 30 vv VY ag ?_
 have key:∀{yi:Nat} {s':aI} {u v:Int} {f':Nat->AV} {r w':Nat},i<n->yi=(if i<nl B then aB B i else 0)->r<2^32->w'<=1->r+(w+yi)=z i+w'*4294967296->
   bh vv s'=some ([.mag B,.own 7 1 0 n,.int .u64 u,.aq 1 n (az z),.int .i64 n,.int .i64 v,.nil,.int .i64 0],[(7,⟨true,true,1,n,f'⟩)])->
   u=(w':Nat)->v=(i+1:Nat)->(∀j,f' j=az (cH o i r) j)->
   ∃k:Nat×Nat×(Nat->Nat),(∃ρ,Le c ρ s' ⟨aE vv (BP B n z 7 k.2.1 k.1),[(7,⟨true,true,1,n,az k.2.2⟩)],8⟩)/\
    (k.1<=n/\k.2.1<=1/\(∀j,j<n->k.2.2 j<2^32)/\val k.1 k.2.2+val (min k.1 (nl B)) (aB B)=val k.1 z+k.2.1*2^(32*k.1))/\n-k.1<n-i:=by
  intro yi s' u v f' r w' hin hyi hr hw1 hrw hv hu hv1 hf
  refine⟨(i+1,w',cH o i r),dZ [(7,7)] hv h0 rfl ⟨aO,⟨rfl,en rfl rfl rfl⟩,⟨rfl,gW hu⟩,aO,aO,⟨rfl,gW hv1⟩,aO,aO,trivial⟩
   ⟨⟨_,_,rfl,rfl,gq rfl fun j _=>hf j⟩,trivial⟩,⟨by simp only;omega,hw1,jc hr ho,?_⟩,by simp only;omega⟩
  simp only
  rw[My,<-hyi,r6,iX]
  show _=val i z+z i*2^(32*i)+_
  have:=VC (B:=2^(32*i)) hrw hval
  rw[Nat.add_mul]at this
  omega
 have fin:i=n->∀s',bh vv s'=some (BP B n z 7 w i,[(7,⟨true,true,1,n,az o⟩)])->
   aF P c f178.ntmps (behind (aG f178) [1,1,1,1,1,0,1]) s' (Fin T f178 (.tuple [.mag (val n z-B),.int .i64 (if val n z<B then 7 else 0)])):=by
  intro hin s' hv
  subst hin
  rw[Nat.min_eq_right hnB,gO]at hval
  have hlt:=gH ho
  have hw0:w=0:=by
   rcases Nat.eq_zero_or_pos w with h|h
   ·exact h
   ·have:w=1:=aa
    subst this
    omega
  subst hw0
  refine aF.weak ag (dZ (vs:=BP B i z 7 0 i) (ps:=[(7,⟨true,true,1,i,az o⟩)]) (nx:=8) [(7,7)] hv h0 rfl
    ⟨aO,⟨rfl,en rfl rfl rfl⟩,aO,aO,aO,aO,aO,aO,trivial⟩
    ⟨⟨_,_,rfl,rfl,gq rfl fun j _=>rfl⟩,trivial⟩)
   (aF.fin hT iA hm 30 WI ag ?_)
  simp only[af.all,aA,Nat.add_zero,kj]
  exact⟨⟨g9 ho,aa⟩,eO (congrArg AV.mag aa),bV (by rw[if_neg aa]),trivial⟩
 simp only[af.all,aA,bK,bO,bE,Nat.add_zero,beq_iff_eq]
 refine⟨fun hb=>?_,fun hb s' hv=>fin aa s' hv⟩
 have h1:i<n:=aa
 have hzi:=hz i h1
 have hl:=eA (N:=B) (i:=i)
 have e1:u64.wrap (z i:Int)=(z i:Int):=cy aa aa
 have e2:u64.wrap (aB B i:Int)=(aB B i:Int):=cy aa aa
 have e3:u64.wrap ((w:Int)+(aB B i:Int))=((w+aB B i:Nat):Int):=by rw[cy aa aa];omega
 rw[e1,e2,e3]
 refine⟨aa,fun hb2=>?_,fun hb2=>?_⟩
 ·have h2:i<nl B:=aa
  obtain⟨r,w',q1,q2,q3,q4,q5⟩:=LD hzi (y:=w+aB B i) aa
  refine⟨aa,aa,aa,fun s' hv=>key (yi:=aB B i) h1 (by rw[if_pos h2]) q1 q2 q3 hv ?_ (by rw[wrap_i64 aa aa];omega) fun j=>iL ?_ j⟩
  ·rw[BY,pe];exact q5
  ·rw[mo,pe];exact q4
 ·have h2:¬i<nl B:=aa
  obtain⟨r,w',q1,q2,q3,q4,q5⟩:=LD hzi (y:=w) aa
  refine⟨aa,aa,fun s' hv=>key (yi:=0) h1 (by rw[if_neg h2]) q1 q2 q3 hv ?_ (by rw[wrap_i64 aa aa];omega) fun j=>iL ?_ j⟩
  ·rw[BY,pe];exact q5
  ·rw[mo,pe];exact q4
theorem PV {r x:Nat} (hr:r<2^32) (hx:x<2^32):
  u64.wrap ((BitVec.ofInt u64.bits (u64.wrap ((r:Int)*2^min (Int.toNat 32) u64.bits))|||BitVec.ofInt u64.bits (u64.wrap (x:Int))).toNat:Int)=((r*4294967296+x:Nat):Int):=by
 rw[wQ,cy (x:=(x:Int)) aa aa,cy (x:=(r:Int)*4294967296) aa aa]
 rw[show(r:Int)*4294967296=((r*2^32:Nat):Int) by omega,vc aa aa,sP hx]
theorem J6 {r z b B v t vz q r':Nat} (h:v*b+r*(4294967296*B)+(vz+z*B)=t) (hq:r*4294967296+z=b*q+r'):(v+q*B)*b+r'*B+vz=t:=by
 have:(r*4294967296+z)*B=(b*q+r')*B:=by rw[hq]
 grind
abbrev Dj:List Nat:=[0,1,6,7,8]
abbrev Lq (n:Nat) (z:Nat->Nat) (b K r k:Nat):List AV:=[.aq 1 n (az z),.int .u32 b,.own K 1 0 n,.int .u64 r,.int .i64 ((k:Int)-1)]
theorem Ug {n b:Nat} {z:Nat->Nat} (hz:∀i,i<n->z i<2^32) (hn:n<2^40) (hb0:0<b) (hb32:b<2^32) (K:Nat) (pre:aD):
  aQ P 183 K [.aq 1 n (az z),.int .u32 b] pre (aM (.tuple [.mag (val n z/b),.int .u32 (val n z%b:Nat)]) []):=by
 refine kr hT S4 rfl bp rfl (fun _ c h0=>?_) K pre
 refine au.hole [1,1,1,0,1] ag (aF.bJ hT iA hm 30 Dj Z7 ag ?_)
 simp only[af.all,aA]
 refine⟨aa,fun s' hv=>?_⟩
 refine au.jh (i:=0) (y:=part (aG f183) [1,1,1,0,1,0,0]) ag
  (fun p:Nat×Nat×(Nat->Nat)=>⟨aE Dj (Lq n z b 7 p.2.1 p.1),[(7,⟨true,true,1,n,az p.2.2⟩)],8⟩)
  (fun p=>p.1<=n/\p.2.1<b/\(∀j,j<n->p.2.2 j<2^32)/\(∀j,j<p.1->p.2.2 j=0)/\val n p.2.2*b+p.2.1*2^(32*p.1)+val p.1 z=val n z)
  (fun p=>p.1) (n,0,fun _=>0)
  (dZ [(7,16384)] hv h0 rfl ⟨aO,aO,⟨rfl,en rfl rfl rfl⟩,aO,⟨rfl,gW (wrap_i64 aa aa)⟩,trivial⟩
   ⟨⟨_,_,rfl,rfl,gq rfl fun j _=>rfl⟩,trivial⟩)
  ⟨by simp,hb0,fun j _=>by simp,fun j _=>rfl,?_⟩ ?_
 ·simp only
  rw[nC (k:=0) aa fun _ _ _=>rfl]
  simp[val]
 rintro⟨k,r,o⟩ ⟨hk,hr,ho,ho0,hval⟩
 simp only at hk hr ho ho0 hval
 refine au.bJ hT ct hm 30 Dj Ws ag ?_
 simp only[af.all,aA,bK,bO,Nat.add_zero,beq_iff_eq]
 have hbw:u64.wrap (b:Int)=(b:Int):=cy aa aa
 refine⟨fun hb=>?_,fun hb s' hv=>?_⟩
 ·obtain⟨j,rfl⟩:∃j,k=j+1:=⟨k-1,aa⟩
  have e:(((j+1:Nat):Int)-1).toNat=j:=aa
  have hzj:=hz j aa
  have fC:=PV (r:=r) (x:=z j) aa hzj
  rw[e,fC,hbw]
  have hq1:(r*4294967296+z j)/b<2^32:=by
   rw[Nat.div_lt_iff_lt_mul hb0]
   have:(r+1)*4294967296<=b*4294967296:=Nat.mul_le_mul_right _ hr
   omega
  have hdm:=Nat.div_add_mod (r*4294967296+z j) b
  refine⟨⟨aa,aa,aa⟩,⟨aa,⟨aa,aa⟩,aa⟩,aa,fun s' hv=>⟨(j,(r*4294967296+z j)%b,cH o j ((r*4294967296+z j)/b)),?_,⟨by simp only;omega,Nat.mod_lt _ hb0,jc hq1 ho,fun i hi=>?_,?_⟩,by simp only;omega⟩⟩
  ·refine dZ [(7,7)] hv h0 rfl ⟨aO,aO,⟨rfl,en rfl rfl rfl⟩,⟨rfl,gW (Int.ofNat_tmod _ _).symm⟩,⟨rfl,gW ?_⟩,trivial⟩
    ⟨⟨_,_,rfl,rfl,gq rfl fun i _=>iL ?_ i⟩,trivial⟩
   ·rw[wrap_i64 aa aa];simp only;omega
   ·rw[<-Int.ofNat_tdiv]
    clear hdm
    generalize (r*4294967296+z j)/b=q at hq1 ⊢
    rw[cy aa aa,wrap_u32 aa aa]
  ·exact(gC (by simp only at hi;omega)).trans (ho0 i (by simp only at hi;omega))
  ·simp only
   rw[rU aa (ho0 j aa)]
   rw[iX,val]at hval
   exact J6 hval hdm.symm
 ·have hk0:k=0:=aa
  subst hk0
  have hv2:val n o*b+r=val n z:=by simpa [val]using hval
  refine aF.weak ag (dZ (vs:=Lq n z b 7 r 0) (ps:=[(7,⟨true,true,1,n,az o⟩)]) (nx:=8) [(7,7)] hv h0 rfl
    ⟨aO,aO,⟨rfl,en rfl rfl rfl⟩,aO,aO,trivial⟩
    ⟨⟨_,_,rfl,rfl,gq rfl fun j _=>rfl⟩,trivial⟩)
   (aF.fin hT iA hm 30 acD ag ?_)
  simp only[af.all,aA,Nat.add_zero,kj]
  have hdiv:val n z/b=val n o:=by
   rw[<-hv2,Nat.mul_comm,Nat.mul_add_div hb0,Nat.div_eq_of_lt hr,Nat.add_zero]
  have hmod:val n z%b=r:=by
   rw[<-hv2,Nat.mul_comm,Nat.mul_add_mod,Nat.mod_eq_of_lt hr]
  exact⟨⟨g9 ho,aa⟩,eO (congrArg AV.mag hdiv.symm),bV (by rw[hmod,wrap_u32 aa aa]),trivial⟩
theorem abe {x s:Nat} (hs:s<32) (hx:x<2^32):u64.wrap (u64.wrap (x:Int)*2^min (s:Int).toNat u64.bits)=((x*2^s:Nat):Int)/\x*2^s<2^64:=by
 have e:min (s:Int).toNat u64.bits=s:=by
  have:u64.bits=64:=rfl
  omega
 have hlt:x*2^s<2^64:=by
  have h1:2^s<=2^31:=Nat.pow_le_pow_right aa aa
  have h2:x*2^s<=2^32*2^31:=Nat.mul_le_mul aa h1
  omega
 refine⟨?_,hlt⟩
 rw[e,cy (x:=(x:Int)) aa aa]
 have:(x:Int)*2^s=((x*2^s:Nat):Int):=by simp
 rw[this]
 exact cy aa aa
theorem Kq {c x s:Nat} (hs:s<32) (hx:x<2^32) (hc:c<2^s):
  u64.wrap ((BitVec.ofInt u64.bits (c:Int)|||BitVec.ofInt u64.bits (u64.wrap (u64.wrap (x:Int)*2^min (s:Int).toNat u64.bits))).toNat:Int)=((c+x*2^s:Nat):Int):=by
 obtain⟨h1,h2⟩:=abe hs hx
 have h3:2^s<=2^31:=Nat.pow_le_pow_right aa aa
 rw[h1,vc aa h2,Nat.or_comm,sP hc,Nat.add_comm]
theorem Ge {c x s:Nat} (hs:s<32) (hx:x<2^32) (hc:c<2^s):c+x*2^s<2^63/\(c+x*2^s)/4294967296<2^s:=by
 have h3:2^s<=2^31:=Nat.pow_le_pow_right aa aa
 have h4:(x+1)*2^s<=2^32*2^s:=Nat.mul_le_mul_right _ hx
 rw[Nat.add_mul,Nat.one_mul]at h4
 refine⟨aa,?_⟩
 rw[Nat.div_lt_iff_lt_mul aa]
 omega
theorem GK {B c x t v S:Nat} (h:v+c*B=t*S):v+(c+x*S)%4294967296*B+(c+x*S)/4294967296*(4294967296*B)=(t+x*B)*S:=by
 have h1:=Nat.div_add_mod (c+x*S) 4294967296
 generalize (c+x*S)/4294967296=q at*
 generalize (c+x*S)%4294967296=r at*
 have:(4294967296*q+r)*B=(c+x*S)*B:=by rw[h1]
 grind
abbrev A3:List Nat:=[0,1,5,6,13,14,15]
abbrev Mj (n s:Nat) (z:Nat->Nat) (K c i:Nat):List AV:=[.aq 1 n (az z),.int .i64 s,.own K 1 0 (n+1),.int .u64 c,.aq 1 n (az z),.int .i64 n,.int .i64 i]
theorem Rr {n s:Nat} {z:Nat->Nat} (hz:∀i,i<n->z i<2^32) (hn:n<2^40) (hs:s<32) {c:Ctx} (h0:c.k0=br) {Q:ak->aI->Prop}
  (fin:∀(c':Nat) (o:Nat->Nat) (s':aI),c'<2^s->(∀j,j<n+1->o j<2^32)->val n o+c'*2^(32*n)=val n z*2^s->bh A3 s'=some (Mj n s z 7 c' n,[(7,⟨true,true,1,n+1,az o⟩)])->
   aF P c f185.ntmps (behind (aG f185) [1,1,1,0,1]) s' Q):
  au P c f185.ntmps (aG f185) ⟨aV 0 [.aq 1 n (az z),.int .i64 s],[],0⟩ Q:=by
 refine au.hole [1,1,1,0,1] ag (aF.bJ hT iA hm 30 A3 QI ag ?_)
 have hw:i64.wrap ((n:Int)+1)=((n+1:Nat):Int):=by rw[wrap_i64 aa aa];omega
 simp only[af.all,aA,hw,bE]
 refine⟨aa,fun s' hv=>?_⟩
 refine au.jh (i:=0) (y:=part (aG f185) [1,1,1,0,1,0,0]) ag
  (fun p:Nat×Nat×(Nat->Nat)=>⟨aE A3 (Mj n s z 7 p.2.1 p.1),[(7,⟨true,true,1,n+1,az p.2.2⟩)],8⟩)
  (fun p=>p.1<=n/\p.2.1<2^s/\(∀j,j<n+1->p.2.2 j<2^32)/\val p.1 p.2.2+p.2.1*2^(32*p.1)=val p.1 z*2^s)
  (fun p=>n-p.1) (0,0,fun _=>0)
  (dZ [(7,16384)] hv h0 rfl ⟨aO,aO,⟨rfl,en rfl rfl rfl⟩,aO,aO,aO,aO,trivial⟩
   ⟨⟨_,_,rfl,rfl,gq rfl fun j _=>rfl⟩,trivial⟩)
  ⟨by simp,Nat.two_pow_pos s,fun j _=>by simp,by simp[val]⟩ ?_
 rintro⟨i,c',o⟩ ⟨hi,hc,ho,hval⟩
 simp only at hi hc ho hval
 refine au.bJ hT ct hm 30 A3 Qm ag ?_
 simp only[af.all,aA,bK,bO,Nat.add_zero,beq_iff_eq,bE]
 refine⟨fun hb=>?_,fun hb s' hv=>?_⟩
 ·have h1:i<n:=aa
  have hzi:=hz i h1
  have fC:=Kq hs hzi hc
  simp only[bE]at fC
  rw[fC]
  obtain⟨b1,b2⟩:=Ge hs hzi hc
  refine⟨aa,aa,aa,aa,fun s' hv=>⟨(i+1,(c'+z i*2^s)/4294967296,cH o i ((c'+z i*2^s)%4294967296)),?_,⟨by simp only;omega,b2,jc aa ho,?_⟩,by simp only;omega⟩⟩
  ·refine dZ [(7,7)] hv h0 rfl ⟨aO,aO,⟨rfl,en rfl rfl rfl⟩,⟨rfl,gW ?_⟩,aO,aO,⟨rfl,gW ?_⟩,trivial⟩
    ⟨⟨_,_,rfl,rfl,gq rfl fun j _=>iL ?_ j⟩,trivial⟩
   ·rw[me];simp only;omega
   ·rw[wrap_i64 aa aa];simp only;omega
   ·rw[ki]
  ·simp only
   rw[r6,iX]
   exact GK hval
 ·have hin:i=n:=aa
  subst hin
  exact fin c' o s' hc ho hval hv
theorem WM {s c' i:Nat} {o:Nat->Nat} (hs:s<32) (hc:c'<2^s):∀j,(if j=i then AV.int .u32 (u32.wrap (c':Int))else az o j)=az (cH o i c') j:=fun j=>iL (by
 have h3:2^s<=2^31:=Nat.pow_le_pow_right aa aa
 exact wrap_u32 aa aa) j
def K9 (A n B m:Nat):dP:=aM (.tuple [.mag (A-B),.int .i64 (if A<B then 7 else 0)]) [n<2^40,m<2^40]
theorem ZF:bA P (b7 (jq K9)) 178:=
 cP (vk fun _ _ _ _ K hz hy need=>aax hz hy need.1 need.2 K [])
def Lc (N n:Nat) (b:Int):dP:=aM (.tuple [.mag (N/b.toNat),.int .u32 (N%b.toNat:Nat)]) [n<2^40,0<b,b<2^32]
theorem acg:bA P (b7 (zV Lc)) 183:=
 cP (UJ fun z n i K hz need=>by
  obtain⟨h1,h2,h3⟩:n<2^40/\0<i/\i<2^32:=need
  obtain⟨b,rfl⟩:=Int.eq_ofNat_of_zero_le (Int.le_of_lt h2)
  exact Ug hz h1 aa aa K [])
end Go.Am.B
