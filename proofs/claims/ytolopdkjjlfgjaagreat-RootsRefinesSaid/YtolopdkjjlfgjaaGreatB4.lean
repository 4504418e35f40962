/- natural.Sub, natural.small, natural.raise. -/
import Derived.Test.YtolopdkjjlfgjaaGreatB3
set_option linter.unusedVariables false
namespace Go.Am.B
open Go Go.Am.N AV Proofs.Tryz IntKind
theorem afj:bf 178 f178:=bg func178
theorem ah8:bf 183 f183:=bg func183
theorem Y9:bf 185 f185:=bg func185
def G2:bk:=(118,cu (jw Bq))::G1
theorem Sj:bR P G2:=aJ Gh iT
theorem X1 {n m:Nat} {z y:Nat->Nat}:aI T G2 [15] 30 [1,6,7,21,22,23,4,5] (before (aH f178) [1,1,1,1,1,0,1]) ⟨aU 0 [.ak 1 n (aB z),.ak 1 m (aB y)],[],0⟩=
  let c5:AV:=tuple [];let c4:AV:=int .i64 (0:Int);let c3:Nat:=val m fun i=>numOf (aB y i);let c2:Int:=(↑n:Int);let c1:Int:=dO (val n fun i=>numOf (aB z i)) c3;some (ag.aj [fm n (aB z),fm m (aB y),n<2^40,m<2^40] (ag.fork (decide (c1<0)) (ag.leaf aq.ret ([ak 1 m fun a=>int .u32 (↑(y a):Int),c5,c5,c5,c5,c5,nil,int .i64 (7:Int)],[])) (ag.aj [fm m (aB y),m<2^62] (ag.aj [(0:Int)<=c2/\c2<=c2/\c2<=2^47/\c2*(↑(4:Nat):Int)<=2^47] (ag.leaf aq.normal ([mag c3,own 45056 1 0 c2.toNat,int .u64 (0:Int),ak 1 n fun a=>int .u32 (↑(z a):Int),int .i64 c2,c4,nil,c4],[(45056,au.mk true true 1 c2.toNat fun x=>int .u32 (0:Int))])))))):=ah
theorem SK {n B i w:Nat} {z o:Nat->Nat}:aI T [] [24,32] 30 [1,6,7,21,22,23,4,5] [part (aH f178) [1,1,1,1,1,0,1,0,0]] ⟨aC [1,6,7,21,22,23,4,5] [.mag B,.own 7 1 0 n,.int .u64 w,.ak 1 n (aB z),.int .i64 n,.int .i64 i,.nil,.int .i64 0],[(7,⟨true,true,1,n,aB o⟩)],8⟩=
  let c13:AV:=int .i64 (↑n:Int);let c12:List AV:=[nil,int .i64 (0:Int)];let c9:Int:=(2:Int)^min (Int.toNat (63:Int)) u64.bits;let c8:AV:=ak 1 n fun a=>int .u32 (↑(z a):Int);let c5:AV:=own 7 1 0 n;let c4:Int:=(↑i:Int);let c2:List AV:=c8::c13::int .i64 (i64.wrap (c4+1))::c12;let c1:Nat:=c4.toNat;let c11:Int:=u64.wrap (↑(z c1):Int);let c10:Prop:=(0:Int)<=c4/\c1<n;let c7:Nat:=c1+0;let c6:Int:=u64.wrap (c11-(↑w:Int));let c3:Int:=u64.wrap (c11-u64.wrap ((↑w:Int)+u64.wrap (↑(aD B c1):Int)));some (ag.fork (decide (c4<(↑n:Int))) (ag.aj [c10] (ag.fork (decide (c4<(↑(nl B):Int))) (ag.aj [(0:Int)<=c4/\c1<nl B] (ag.aj [c10,c7<n] (ag.aj [(0:Int)<=63] (ag.leaf aq.normal (mag B::c5::int .u64 (c3.fdiv c9)::c2,[(7,au.mk true true 1 n fun j=>if(j==c7)=true then int .u32 (u32.wrap c3)else aB o j)]))))) (ag.aj [c10,c7<n] (ag.aj [(0:Int)<=63] (ag.leaf aq.normal (mag B::c5::int .u64 (c6.fdiv c9)::c2,[(7,au.mk true true 1 n fun j=>if(j==c7)=true then int .u32 (u32.wrap c6)else aB o j)])))))) (ag.leaf (aq.exit 0) (mag B::c5::int .u64 (↑w:Int)::c8::c13::int .i64 c4::c12,[(7,au.mk true true 1 n fun a=>int .u32 (↑(o a):Int))]))):=ah
theorem VS {n B i w:Nat} {z o:Nat->Nat}:cQ T G1 [] 30 f178 (behind (aH f178) [1,1,1,1,1,0,1]) ⟨aC [1,6,7,21,22,23,4,5] [.mag B,.own 7 1 0 n,.int .u64 w,.ak 1 n (aB z),.int .i64 n,.int .i64 i,.nil,.int .i64 0],[(7,⟨true,true,1,n,aB o⟩)],8⟩=
  some (ag.aj [fm n fun i=>aB o (i+0),n<2^62] (ag.leaf aq.ret [mag (val n fun i=>numOf (aB o (i+0))),int .i64 (0:Int)])):=ah
theorem ahS {n b:Nat} {z:Nat->Nat}:aI T G1 [] 30 [0,1,6,7,8] (before (aH f183) [1,1,1,0,1]) ⟨aU 0 [.ak 1 n (aB z),.int .u32 b],[],0⟩=
  let c1:Int:=(↑n:Int);some (ag.aj [(0:Int)<=c1/\c1<=c1/\c1<=2^47/\c1*(↑(4:Nat):Int)<=2^47] (ag.leaf aq.normal ([ak 1 n fun a=>int .u32 (↑(z a):Int),int .u32 (↑b:Int),own 16384 1 0 c1.toNat,int .u64 (0:Int),int .i64 (i64.wrap (c1-1))],[(16384,au.mk true true 1 c1.toNat fun x=>int .u32 (0:Int))]))):=ah
theorem afM {n b k r:Nat} {z o:Nat->Nat}:aI T [] [16] 30 [0,1,6,7,8] [part (aH f183) [1,1,1,0,1,0,0]] ⟨aC [0,1,6,7,8] [.ak 1 n (aB z),.int .u32 b,.own 7 1 0 n,.int .u64 r,.int .i64 ((k:Int)-1)],[(7,⟨true,true,1,n,aB o⟩)],8⟩=
  let c8:AV:=int .u32 (↑b:Int);let c6:AV:=own 7 1 0 n;let c4:AV:=ak 1 n fun a=>int .u32 (↑(z a):Int);let c3:Int:=u64.wrap (↑b:Int);let c2:Int:=(↑k:Int)-1;let c7:Prop:=(0:Int)<=c2/\c2.toNat<n;let c5:Nat:=c2.toNat+0;let c1:Int:=u64.wrap (↑(BitVec.ofInt u64.bits (u64.wrap ((↑r:Int)*2^min (Int.toNat (32:Int)) u64.bits))|||BitVec.ofInt u64.bits (u64.wrap (↑(z c2.toNat):Int))).toNat:Int);some (ag.fork (decide (c2>=0)) (ag.aj [(0:Int)<=32,c7] (ag.aj [c3≠(0:Int),c7,c5<n] (ag.aj [c3≠(0:Int)] (ag.leaf aq.normal ([c4,c8,c6,int .u64 (c1.tmod c3),int .i64 (i64.wrap (c2-1))],[(7,au.mk true true 1 n fun j=>if(j==c5)=true then int .u32 (u32.wrap (u64.wrap (c1.tdiv c3)))else aB o j)]))))) (ag.leaf (aq.exit 0) ([c4,c8,c6,int .u64 (↑r:Int),int .i64 c2],[(7,au.mk true true 1 n fun a=>int .u32 (↑(o a):Int))]))):=ah
theorem X5 {n b k r:Nat} {z o:Nat->Nat}:cQ T G1 [] 30 f183 (behind (aH f183) [1,1,1,0,1]) ⟨aC [0,1,6,7,8] [.ak 1 n (aB z),.int .u32 b,.own 7 1 0 n,.int .u64 r,.int .i64 ((k:Int)-1)],[(7,⟨true,true,1,n,aB o⟩)],8⟩=
  some (ag.aj [fm n fun i=>aB o (i+0),n<2^62] (ag.leaf aq.ret [mag (val n fun i=>numOf (aB o (i+0))),int .u32 (u32.wrap (↑r:Int))])):=ah
theorem ajx {n s:Nat} {z:Nat->Nat}:aI T G1 [] 30 [0,1,5,6,13,14,15] (before (aH f185) [1,1,1,0,1]) ⟨aU 0 [.ak 1 n (aB z),.int .i64 s],[],0⟩=
  let c2:AV:=ak 1 n fun a=>int .u32 (↑(z a):Int);let c1:Int:=i64.wrap ((↑n:Int)+1);some (ag.aj [(0:Int)<=c1/\c1<=c1/\c1<=2^47/\c1*(↑(4:Nat):Int)<=2^47] (ag.leaf aq.normal ([c2,int .i64 (↑s:Int),own 16384 1 0 c1.toNat,int .u64 (0:Int),c2,int .i64 (↑n:Int),int .i64 (0:Int)],[(16384,au.mk true true 1 c1.toNat fun x=>int .u32 (0:Int))]))):=ah
theorem aik {n s i c:Nat} {z o:Nat->Nat}:aI T [] [16] 30 [0,1,5,6,13,14,15] [part (aH f185) [1,1,1,0,1,0,0]] ⟨aC [0,1,5,6,13,14,15] [.ak 1 n (aB z),.int .i64 s,.own 7 1 0 (n+1),.int .u64 c,.ak 1 n (aB z),.int .i64 n,.int .i64 i],[(7,⟨true,true,1,n+1,aB o⟩)],8⟩=
  let c8:AV:=int .i64 (↑s:Int);let c7:AV:=int .i64 (↑n:Int);let c4:Nat:=n+1;let c3:Int:=(↑i:Int);let c2:AV:=ak 1 n fun a=>int .u32 (↑(z a):Int);let c6:Nat:=c3.toNat+0;let c5:AV:=own 7 1 0 c4;let c1:Int:=u64.wrap (↑(BitVec.ofInt u64.bits (↑c:Int)|||BitVec.ofInt u64.bits (u64.wrap (u64.wrap (↑(z c3.toNat):Int)*2^min (↑s:Int).toNat u64.bits))).toNat:Int);some (ag.fork (decide (c3<(↑n:Int))) (ag.aj [(0:Int)<=c3/\c3.toNat<n] (ag.aj [(0:Int)<=(↑s:Int)] (ag.aj [(0:Int)<=c3/\c3.toNat<c4,c6<c4] (ag.aj [(0:Int)<=32] (ag.leaf aq.normal ([c2,c8,c5,int .u64 (c1.fdiv ((2:Int)^min (Int.toNat (32:Int)) u64.bits)),c2,c7,int .i64 (i64.wrap (c3+1))],[(7,au.mk true true 1 c4 fun j=>if(j==c6)=true then int .u32 (u32.wrap c1)else aB o j)])))))) (ag.leaf (aq.exit 0) ([c2,c8,c5,int .u64 (↑c:Int),c2,c7,int .i64 c3],[(7,au.mk true true 1 c4 fun a=>int .u32 (↑(o a):Int))]))):=ah
theorem RI {B x y r v w' t:Nat} (hr:r+y=x+w'*4294967296) (h:v=t):v+r*B+y*B=t+x*B+w'*(4294967296*B):=by
 subst h
 have:(r+y)*B=(x+w'*4294967296)*B:=by rw[hr]
 grind
theorem LI {x y:Nat} (hx:x<2^32) (hy:y<=2^32):∃r w:Nat,r<2^32/\w<=1/\r+y=x+w*4294967296/\((x:Int)-y)%2^64%2^32=r/\((x:Int)-y)%2^64/9223372036854775808=w:=by
 rcases Nat.lt_or_ge x y with h|h
 ·exact⟨x+4294967296-y,1,aa,aa,aa,aa,aa⟩
 ·exact⟨x-y,0,aa,aa,aa,aa,aa⟩
abbrev wR:List Nat:=[1,6,7,21,22,23,4,5]
abbrev DE (B n:Nat) (z:Nat->Nat) (K w i:Nat):List AV:=[.mag B,.own K 1 0 n,.int .u64 w,.ak 1 n (aB z),.int .i64 n,.int .i64 i,.nil,.int .i64 0]
theorem ah0 {n m:Nat} {z y:Nat->Nat} (hz:∀i,i<n->z i<2^32) (hy:∀i,i<m->y i<2^32) (hn:n<2^40) (hm':m<2^40) (K:Nat) (pre:aE):
  aQ P 178 K [.ak 1 n (aB z),.ak 1 m (aB y)] pre (aL (.tuple [.mag (val n z-val m y),.int .i64 (if val n z<val m y then 7 else 0)]) []):=by
 refine kO hT afj rfl aX rfl (fun _ c h0=>?_) K pre
 refine ax.hole [1,1,1,1,1,0,1] ah (aG.bO hT Sj hm 30 wR X1 ah ?_)
 have hA:nl (val n z)<=n:=eA.2 (g7 hz)
 have hAlt:=g7 hz
 generalize hB:val m y=B at*
 simp only[ag.all,az,bB,bD,kY,hB]
 refine⟨⟨iE hz,iE hy,aa,aa⟩,fun hb s' hv=>?_,fun hb=>⟨⟨iE hy,aa⟩,aa,fun s' hv=>?_⟩⟩
 ·have h1:val n z<B:=by
   unfold dO at hb
   split at hb
   ·assumption
   ·split at hb<;>omega
  refine iP (us:=[.nil,.int .i64 7]) (.inr rfl) hv ah ⟨l9.trans (fk (congrArg AV.mag aa)),cw (by rw[if_pos h1]),trivial⟩
 have hBA:B<=val n z:=by
  unfold dO at hb
  split at hb<;>omega
 have hnB:nl B<=n:=Nat.le_trans (iW hBA) hA
 refine ax.jj (i:=0) (y:=part (aH f178) [1,1,1,1,1,0,1,0,0]) ah
  (fun p:Nat×Nat×(Nat->Nat)=>⟨aC wR (DE B n z 7 p.2.1 p.1),[(7,⟨true,true,1,n,aB p.2.2⟩)],8⟩)
  (fun p=>p.1<=n/\p.2.1<=1/\(∀j,j<n->p.2.2 j<2^32)/\val p.1 p.2.2+val (min p.1 (nl B)) (aD B)=val p.1 z+p.2.1*2^(32*p.1))
  (fun p=>n-p.1) (0,0,fun _=>0)
  (eG [(7,45056)] hv h0 rfl ⟨aS,⟨rfl,eE rfl rfl rfl⟩,aS,aS,aS,aS,aS,aS,trivial⟩
   ⟨⟨_,_,rfl,rfl,gI rfl fun j _=>rfl⟩,trivial⟩)
  ⟨by simp,by simp,fun j _=>by simp,by simp[val]⟩ ?_
 rintro⟨i,w,o⟩ ⟨hi,hw,ho,hval⟩
 simp only at hi hw ho hval
 refine ax.bO hT cz hm 30 wR SK ah ?_
 have key:∀{yi:Nat} {s':aN} {u v:Int} {f':Nat->AV} {r w':Nat},i<n->yi=(if i<nl B then aD B i else 0)->r<2^32->w'<=1->r+(w+yi)=z i+w'*4294967296->
   bE wR s'=some ([.mag B,.own 7 1 0 n,.int .u64 u,.ak 1 n (aB z),.int .i64 n,.int .i64 v,.nil,.int .i64 0],[(7,⟨true,true,1,n,f'⟩)])->
   u=(w':Nat)->v=(i+1:Nat)->(∀j,f' j=aB (cV o i r) j)->
   ∃k:Nat×Nat×(Nat->Nat),(∃ρ,Le c ρ s' ⟨aC wR (DE B n z 7 k.2.1 k.1),[(7,⟨true,true,1,n,aB k.2.2⟩)],8⟩)/\
    (k.1<=n/\k.2.1<=1/\(∀j,j<n->k.2.2 j<2^32)/\val k.1 k.2.2+val (min k.1 (nl B)) (aD B)=val k.1 z+k.2.1*2^(32*k.1))/\n-k.1<n-i:=by
  intro yi s' u v f' r w' hin hyi hr hw1 hrw hv hu hv1 hf
  refine⟨(i+1,w',cV o i r),eG [(7,7)] hv h0 rfl ⟨aS,⟨rfl,eE rfl rfl rfl⟩,⟨rfl,iK hu⟩,aS,aS,⟨rfl,iK hv1⟩,aS,aS,trivial⟩
   ⟨⟨_,_,rfl,rfl,gI rfl fun j _=>hf j⟩,trivial⟩,⟨by simp only;omega,hw1,js hr ho,?_⟩,by simp only;omega⟩
  simp only
  rw[Rh,<-hyi,rV,jf]
  show _=val i z+z i*2^(32*i)+_
  have:=RI (B:=2^(32*i)) hrw hval
  rw[Nat.add_mul]at this
  omega
 have fin:i=n->∀s',bE wR s'=some (DE B n z 7 w i,[(7,⟨true,true,1,n,aB o⟩)])->
   aG P c f178.ntmps (behind (aH f178) [1,1,1,1,1,0,1]) s' (Fin T f178 (.tuple [.mag (val n z-B),.int .i64 (if val n z<B then 7 else 0)])):=by
  intro hin s' hv
  subst hin
  rw[Nat.min_eq_right hnB,iB]at hval
  have hlt:=g7 ho
  have hw0:w=0:=by
   rcases Nat.eq_zero_or_pos w with h|h
   ·exact h
   ·have:w=1:=aa
    subst this
    omega
  subst hw0
  refine aG.weak ah (eG (vs:=DE B i z 7 0 i) (ps:=[(7,⟨true,true,1,i,aB o⟩)]) (nx:=8) [(7,7)] hv h0 rfl
    ⟨aS,⟨rfl,eE rfl rfl rfl⟩,aS,aS,aS,aS,aS,aS,trivial⟩
    ⟨⟨_,_,rfl,rfl,gI rfl fun j _=>rfl⟩,trivial⟩)
   (aG.fin hT iT hm 30 VS ah ?_)
  simp only[ag.all,az,Nat.add_zero,kY]
  exact⟨⟨iE ho,aa⟩,fk (congrArg AV.mag aa),cw (by rw[if_neg aa]),trivial⟩
 simp only[ag.all,az,bB,bD,bJ,Nat.add_zero,beq_iff_eq]
 refine⟨fun hb=>?_,fun hb s' hv=>fin aa s' hv⟩
 have h1:i<n:=aa
 have hzi:=hz i h1
 have hl:=eZ (N:=B) (i:=i)
 have e1:u64.wrap (z i:Int)=(z i:Int):=cK aa aa
 have e2:u64.wrap (aD B i:Int)=(aD B i:Int):=cK aa aa
 have e3:u64.wrap ((w:Int)+(aD B i:Int))=((w+aD B i:Nat):Int):=by rw[cK aa aa];omega
 rw[e1,e2,e3]
 refine⟨aa,fun hb2=>?_,fun hb2=>?_⟩
 ·have h2:i<nl B:=aa
  obtain⟨r,w',q1,q2,q3,q4,q5⟩:=LI hzi (y:=w+aD B i) aa
  refine⟨aa,aa,aa,fun s' hv=>key (yi:=aD B i) h1 (by rw[if_pos h2]) q1 q2 q3 hv ?_ (by rw[wrap_i64 aa aa];omega) fun j=>iY ?_ j⟩
  ·rw[Fy,pJ];exact q5
  ·rw[mT,pJ];exact q4
 ·have h2:¬i<nl B:=aa
  obtain⟨r,w',q1,q2,q3,q4,q5⟩:=LI hzi (y:=w) aa
  refine⟨aa,aa,fun s' hv=>key (yi:=0) h1 (by rw[if_neg h2]) q1 q2 q3 hv ?_ (by rw[wrap_i64 aa aa];omega) fun j=>iY ?_ j⟩
  ·rw[Fy,pJ];exact q5
  ·rw[mT,pJ];exact q4
theorem ain {r x:Nat} (hr:r<2^32) (hx:x<2^32):
  u64.wrap ((BitVec.ofInt u64.bits (u64.wrap ((r:Int)*2^min (Int.toNat 32) u64.bits))|||BitVec.ofInt u64.bits (u64.wrap (x:Int))).toNat:Int)=((r*4294967296+x:Nat):Int):=by
 rw[xu,cK (x:=(x:Int)) aa aa,cK (x:=(r:Int)*4294967296) aa aa]
 rw[show(r:Int)*4294967296=((r*2^32:Nat):Int) by omega,vj aa aa,r6 hx]
theorem MI {r z b B v t vz q r':Nat} (h:v*b+r*(4294967296*B)+(vz+z*B)=t) (hq:r*4294967296+z=b*q+r'):(v+q*B)*b+r'*B+vz=t:=by
 have:(r*4294967296+z)*B=(b*q+r')*B:=by rw[hq]
 grind
abbrev F5:List Nat:=[0,1,6,7,8]
abbrev Qw (n:Nat) (z:Nat->Nat) (b K r k:Nat):List AV:=[.ak 1 n (aB z),.int .u32 b,.own K 1 0 n,.int .u64 r,.int .i64 ((k:Int)-1)]
theorem agf {n b:Nat} {z:Nat->Nat} (hz:∀i,i<n->z i<2^32) (hn:n<2^40) (hb0:0<b) (hb32:b<2^32) (K:Nat) (pre:aE):
  aQ P 183 K [.ak 1 n (aB z),.int .u32 b] pre (aL (.tuple [.mag (val n z/b),.int .u32 (val n z%b:Nat)]) []):=by
 refine kO hT ah8 rfl aX rfl (fun _ c h0=>?_) K pre
 refine ax.hole [1,1,1,0,1] ah (aG.bO hT iT hm 30 F5 ahS ah ?_)
 simp only[ag.all,az]
 refine⟨aa,fun s' hv=>?_⟩
 refine ax.jj (i:=0) (y:=part (aH f183) [1,1,1,0,1,0,0]) ah
  (fun p:Nat×Nat×(Nat->Nat)=>⟨aC F5 (Qw n z b 7 p.2.1 p.1),[(7,⟨true,true,1,n,aB p.2.2⟩)],8⟩)
  (fun p=>p.1<=n/\p.2.1<b/\(∀j,j<n->p.2.2 j<2^32)/\(∀j,j<p.1->p.2.2 j=0)/\val n p.2.2*b+p.2.1*2^(32*p.1)+val p.1 z=val n z)
  (fun p=>p.1) (n,0,fun _=>0)
  (eG [(7,16384)] hv h0 rfl ⟨aS,aS,⟨rfl,eE rfl rfl rfl⟩,aS,⟨rfl,iK (wrap_i64 aa aa)⟩,trivial⟩
   ⟨⟨_,_,rfl,rfl,gI rfl fun j _=>rfl⟩,trivial⟩)
  ⟨by simp,hb0,fun j _=>by simp,fun j _=>rfl,?_⟩ ?_
 ·simp only
  rw[ot (k:=0) aa fun _ _ _=>rfl]
  simp[val]
 rintro⟨k,r,o⟩ ⟨hk,hr,ho,ho0,hval⟩
 simp only at hk hr ho ho0 hval
 refine ax.bO hT cz hm 30 F5 afM ah ?_
 simp only[ag.all,az,bB,bD,Nat.add_zero,beq_iff_eq]
 have hbw:u64.wrap (b:Int)=(b:Int):=cK aa aa
 refine⟨fun hb=>?_,fun hb s' hv=>?_⟩
 ·obtain⟨j,rfl⟩:∃j,k=j+1:=⟨k-1,aa⟩
  have e:(((j+1:Nat):Int)-1).toNat=j:=aa
  have hzj:=hz j aa
  have fP:=ain (r:=r) (x:=z j) aa hzj
  rw[e,fP,hbw]
  have hq1:(r*4294967296+z j)/b<2^32:=by
   rw[Nat.div_lt_iff_lt_mul hb0]
   have:(r+1)*4294967296<=b*4294967296:=Nat.mul_le_mul_right _ hr
   omega
  have hdm:=Nat.div_add_mod (r*4294967296+z j) b
  refine⟨⟨aa,aa,aa⟩,⟨aa,⟨aa,aa⟩,aa⟩,aa,fun s' hv=>⟨(j,(r*4294967296+z j)%b,cV o j ((r*4294967296+z j)/b)),?_,⟨by simp only;omega,Nat.mod_lt _ hb0,js hq1 ho,fun i hi=>?_,?_⟩,by simp only;omega⟩⟩
  ·refine eG [(7,7)] hv h0 rfl ⟨aS,aS,⟨rfl,eE rfl rfl rfl⟩,⟨rfl,iK (Int.ofNat_tmod _ _).symm⟩,⟨rfl,iK ?_⟩,trivial⟩
    ⟨⟨_,_,rfl,rfl,gI rfl fun i _=>iY ?_ i⟩,trivial⟩
   ·rw[wrap_i64 aa aa];simp only;omega
   ·rw[<-Int.ofNat_tdiv]
    clear hdm
    generalize (r*4294967296+z j)/b=q at hq1 ⊢
    rw[cK aa aa,wrap_u32 aa aa]
  ·exact(gX (by simp only at hi;omega)).trans (ho0 i (by simp only at hi;omega))
  ·simp only
   rw[r7 aa (ho0 j aa)]
   rw[jf,val]at hval
   exact MI hval hdm.symm
 ·have hk0:k=0:=aa
  subst hk0
  have hv2:val n o*b+r=val n z:=by simpa [val]using hval
  refine aG.weak ah (eG (vs:=Qw n z b 7 r 0) (ps:=[(7,⟨true,true,1,n,aB o⟩)]) (nx:=8) [(7,7)] hv h0 rfl
    ⟨aS,aS,⟨rfl,eE rfl rfl rfl⟩,aS,aS,trivial⟩
    ⟨⟨_,_,rfl,rfl,gI rfl fun j _=>rfl⟩,trivial⟩)
   (aG.fin hT iT hm 30 X5 ah ?_)
  simp only[ag.all,az,Nat.add_zero,kY]
  have hdiv:val n z/b=val n o:=by
   rw[<-hv2,Nat.mul_comm,Nat.mul_add_div hb0,Nat.div_eq_of_lt hr,Nat.add_zero]
  have hmod:val n z%b=r:=by
   rw[<-hv2,Nat.mul_comm,Nat.mul_add_mod,Nat.mod_eq_of_lt hr]
  exact⟨⟨iE ho,aa⟩,fk (congrArg AV.mag hdiv.symm),cw (by rw[hmod,wrap_u32 aa aa]),trivial⟩
theorem afA {x s:Nat} (hs:s<32) (hx:x<2^32):u64.wrap (u64.wrap (x:Int)*2^min (s:Int).toNat u64.bits)=((x*2^s:Nat):Int)/\x*2^s<2^64:=by
 have e:min (s:Int).toNat u64.bits=s:=by
  have:u64.bits=64:=rfl
  omega
 have hlt:x*2^s<2^64:=by
  have h1:2^s<=2^31:=Nat.pow_le_pow_right aa aa
  have h2:x*2^s<=2^32*2^31:=Nat.mul_le_mul aa h1
  omega
 refine⟨?_,hlt⟩
 rw[e,cK (x:=(x:Int)) aa aa]
 have:(x:Int)*2^s=((x*2^s:Nat):Int):=by simp
 rw[this]
 exact cK aa aa
theorem KX {c x s:Nat} (hs:s<32) (hx:x<2^32) (hc:c<2^s):
  u64.wrap ((BitVec.ofInt u64.bits (c:Int)|||BitVec.ofInt u64.bits (u64.wrap (u64.wrap (x:Int)*2^min (s:Int).toNat u64.bits))).toNat:Int)=((c+x*2^s:Nat):Int):=by
 obtain⟨h1,h2⟩:=afA hs hx
 have h3:2^s<=2^31:=Nat.pow_le_pow_right aa aa
 rw[h1,vj aa h2,Nat.or_comm,r6 hc,Nat.add_comm]
theorem Jg {c x s:Nat} (hs:s<32) (hx:x<2^32) (hc:c<2^s):c+x*2^s<2^63/\(c+x*2^s)/4294967296<2^s:=by
 have h3:2^s<=2^31:=Nat.pow_le_pow_right aa aa
 have h4:(x+1)*2^s<=2^32*2^s:=Nat.mul_le_mul_right _ hx
 rw[Nat.add_mul,Nat.one_mul]at h4
 refine⟨aa,?_⟩
 rw[Nat.div_lt_iff_lt_mul aa]
 omega
theorem Lz {B c x t v S:Nat} (h:v+c*B=t*S):v+(c+x*S)%4294967296*B+(c+x*S)/4294967296*(4294967296*B)=(t+x*B)*S:=by
 have h1:=Nat.div_add_mod (c+x*S) 4294967296
 generalize (c+x*S)/4294967296=q at*
 generalize (c+x*S)%4294967296=r at*
 have:(4294967296*q+r)*B=(c+x*S)*B:=by rw[h1]
 grind
abbrev CJ:List Nat:=[0,1,5,6,13,14,15]
abbrev La (n s:Nat) (z:Nat->Nat) (K c i:Nat):List AV:=[.ak 1 n (aB z),.int .i64 s,.own K 1 0 (n+1),.int .u64 c,.ak 1 n (aB z),.int .i64 n,.int .i64 i]
theorem aeV {n s:Nat} {z:Nat->Nat} (hz:∀i,i<n->z i<2^32) (hn:n<2^40) (hs:s<32) {c:Ctx} (h0:c.k0=bI) {Q:aq->aN->Prop}
  (fin:∀(c':Nat) (o:Nat->Nat) (s':aN),c'<2^s->(∀j,j<n+1->o j<2^32)->val n o+c'*2^(32*n)=val n z*2^s->bE CJ s'=some (La n s z 7 c' n,[(7,⟨true,true,1,n+1,aB o⟩)])->
   aG P c f185.ntmps (behind (aH f185) [1,1,1,0,1]) s' Q):
  ax P c f185.ntmps (aH f185) ⟨aU 0 [.ak 1 n (aB z),.int .i64 s],[],0⟩ Q:=by
 refine ax.hole [1,1,1,0,1] ah (aG.bO hT iT hm 30 CJ ajx ah ?_)
 have hw:i64.wrap ((n:Int)+1)=((n+1:Nat):Int):=by rw[wrap_i64 aa aa];omega
 simp only[ag.all,az,hw,bJ]
 refine⟨aa,fun s' hv=>?_⟩
 refine ax.jj (i:=0) (y:=part (aH f185) [1,1,1,0,1,0,0]) ah
  (fun p:Nat×Nat×(Nat->Nat)=>⟨aC CJ (La n s z 7 p.2.1 p.1),[(7,⟨true,true,1,n+1,aB p.2.2⟩)],8⟩)
  (fun p=>p.1<=n/\p.2.1<2^s/\(∀j,j<n+1->p.2.2 j<2^32)/\val p.1 p.2.2+p.2.1*2^(32*p.1)=val p.1 z*2^s)
  (fun p=>n-p.1) (0,0,fun _=>0)
  (eG [(7,16384)] hv h0 rfl ⟨aS,aS,⟨rfl,eE rfl rfl rfl⟩,aS,aS,aS,aS,trivial⟩
   ⟨⟨_,_,rfl,rfl,gI rfl fun j _=>rfl⟩,trivial⟩)
  ⟨by simp,Nat.two_pow_pos s,fun j _=>by simp,by simp[val]⟩ ?_
 rintro⟨i,c',o⟩ ⟨hi,hc,ho,hval⟩
 simp only at hi hc ho hval
 refine ax.bO hT cz hm 30 CJ aik ah ?_
 simp only[ag.all,az,bB,bD,Nat.add_zero,beq_iff_eq,bJ]
 refine⟨fun hb=>?_,fun hb s' hv=>?_⟩
 ·have h1:i<n:=aa
  have hzi:=hz i h1
  have fP:=KX hs hzi hc
  simp only[bJ]at fP
  rw[fP]
  obtain⟨b1,b2⟩:=Jg hs hzi hc
  refine⟨aa,aa,aa,aa,fun s' hv=>⟨(i+1,(c'+z i*2^s)/4294967296,cV o i ((c'+z i*2^s)%4294967296)),?_,⟨by simp only;omega,b2,js aa ho,?_⟩,by simp only;omega⟩⟩
  ·refine eG [(7,7)] hv h0 rfl ⟨aS,aS,⟨rfl,eE rfl rfl rfl⟩,⟨rfl,iK ?_⟩,aS,aS,⟨rfl,iK ?_⟩,trivial⟩
    ⟨⟨_,_,rfl,rfl,gI rfl fun j _=>iY ?_ j⟩,trivial⟩
   ·rw[mR];simp only;omega
   ·rw[wrap_i64 aa aa];simp only;omega
   ·rw[kX]
  ·simp only
   rw[rV,jf]
   exact Lz hval
 ·have hin:i=n:=aa
  subst hin
  exact fin c' o s' hc ho hval hv
theorem Z8 {s c' i:Nat} {o:Nat->Nat} (hs:s<32) (hc:c'<2^s):∀j,(if j=i then AV.int .u32 (u32.wrap (c':Int))else aB o j)=aB (cV o i c') j:=fun j=>iY (by
 have h3:2^s<=2^31:=Nat.pow_le_pow_right aa aa
 exact wrap_u32 aa aa) j
def Ot (A n B m:Nat):ep:=aL (.tuple [.mag (A-B),.int .i64 (if A<B then 7 else 0)]) [n<2^40,m<2^40]
theorem aiJ:aY P (cu (jw Ot)) 178:=
 cW (uT fun _ _ _ _ K hz hy need=>ah0 hz hy need.1 need.2 K [])
def KK (N n:Nat) (b:Int):ep:=aL (.tuple [.mag (N/b.toNat),.int .u32 (N%b.toNat:Nat)]) [n<2^40,0<b,b<2^32]
theorem adT:aY P (cu (Cr KK)) 183:=
 cW (ahm fun z n i K hz need=>by
  obtain⟨h1,h2,h3⟩:n<2^40/\0<i/\i<2^32:=need
  obtain⟨b,rfl⟩:=Int.eq_ofNat_of_zero_le (Int.le_of_lt h2)
  exact agf hz h1 aa aa K [])
end Go.Am.B
