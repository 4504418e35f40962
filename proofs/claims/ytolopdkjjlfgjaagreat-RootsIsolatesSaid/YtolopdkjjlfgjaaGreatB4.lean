/- natural.Sub, natural.small, natural.raise. -/
import Derived.Test.YtolopdkjjlfgjaaGreatB3
set_option linter.unusedVariables false
namespace Go.Am.B
open Go Go.Am.N AV Proofs.Tryz IntKind
theorem Y8:br 178 f178:=bu func178
theorem VG:br 183 f183:=bu func183
theorem ads:br 185 f185:=bu func185
def G2:bz:=(118,cw (jy C2))::G1
theorem WH:bU P G2:=aL HE iM
theorem afv {n m:Nat} {z y:Nat->Nat}:aH T G2 [15] 30 [1,6,7,21,22,23,4,5] (before (aI f178) [1,1,1,1,1,0,1]) ⟨aU 0 [.ak 1 n (aA z),.ak 1 m (aA y)],[],0⟩=
  let c5:AV:=tuple [];let c4:AV:=int .i64 (0:Int);let c3:Nat:=val m fun i=>numOf (aA y i);let c2:Int:=(↑n:Int);let c1:Int:=dJ (val n fun i=>numOf (aA z i)) c3;some (af.aj [fe n (aA z),fe m (aA y),n<2^40,m<2^40] (af.fork (decide (c1<0)) (af.leaf aq.ret ([ak 1 m fun a=>int .u32 (↑(y a):Int),c5,c5,c5,c5,c5,nil,int .i64 (7:Int)],[])) (af.aj [fe m (aA y),m<2^62] (af.aj [(0:Int)<=c2/\c2<=c2/\c2<=2^47/\c2*(↑(4:Nat):Int)<=2^47] (af.leaf aq.normal ([mag c3,own 45056 1 0 c2.toNat,int .u64 (0:Int),ak 1 n fun a=>int .u32 (↑(z a):Int),int .i64 c2,c4,nil,c4],[(45056,ax.mk true true 1 c2.toNat fun x=>int .u32 (0:Int))])))))):=ah
theorem abo {n B i w:Nat} {z o:Nat->Nat}:aH T [] [24,32] 30 [1,6,7,21,22,23,4,5] [part (aI f178) [1,1,1,1,1,0,1,0,0]] ⟨aB [1,6,7,21,22,23,4,5] [.mag B,.own 7 1 0 n,.int .u64 w,.ak 1 n (aA z),.int .i64 n,.int .i64 i,.nil,.int .i64 0],[(7,⟨true,true,1,n,aA o⟩)],8⟩=
  let c13:AV:=int .i64 (↑n:Int);let c12:List AV:=[nil,int .i64 (0:Int)];let c9:Int:=(2:Int)^min (Int.toNat (63:Int)) u64.bits;let c8:AV:=ak 1 n fun a=>int .u32 (↑(z a):Int);let c5:AV:=own 7 1 0 n;let c4:Int:=(↑i:Int);let c2:List AV:=c8::c13::int .i64 (i64.wrap (c4+1))::c12;let c1:Nat:=c4.toNat;let c11:Int:=u64.wrap (↑(z c1):Int);let c10:Prop:=(0:Int)<=c4/\c1<n;let c7:Nat:=c1+0;let c6:Int:=u64.wrap (c11-(↑w:Int));let c3:Int:=u64.wrap (c11-u64.wrap ((↑w:Int)+u64.wrap (↑(aD B c1):Int)));some (af.fork (decide (c4<(↑n:Int))) (af.aj [c10] (af.fork (decide (c4<(↑(nl B):Int))) (af.aj [(0:Int)<=c4/\c1<nl B] (af.aj [c10,c7<n] (af.aj [(0:Int)<=63] (af.leaf aq.normal (mag B::c5::int .u64 (c3.fdiv c9)::c2,[(7,ax.mk true true 1 n fun j=>if(j==c7)=true then int .u32 (u32.wrap c3)else aA o j)]))))) (af.aj [c10,c7<n] (af.aj [(0:Int)<=63] (af.leaf aq.normal (mag B::c5::int .u64 (c6.fdiv c9)::c2,[(7,ax.mk true true 1 n fun j=>if(j==c7)=true then int .u32 (u32.wrap c6)else aA o j)])))))) (af.leaf (aq.exit 0) (mag B::c5::int .u64 (↑w:Int)::c8::c13::int .i64 c4::c12,[(7,ax.mk true true 1 n fun a=>int .u32 (↑(o a):Int))]))):=ah
theorem aha {n B i w:Nat} {z o:Nat->Nat}:cR T G1 [] 30 f178 (behind (aI f178) [1,1,1,1,1,0,1]) ⟨aB [1,6,7,21,22,23,4,5] [.mag B,.own 7 1 0 n,.int .u64 w,.ak 1 n (aA z),.int .i64 n,.int .i64 i,.nil,.int .i64 0],[(7,⟨true,true,1,n,aA o⟩)],8⟩=
  some (af.aj [fe n fun i=>aA o (i+0),n<2^62] (af.leaf aq.ret [mag (val n fun i=>numOf (aA o (i+0))),int .i64 (0:Int)])):=ah
theorem adD {n b:Nat} {z:Nat->Nat}:aH T G1 [] 30 [0,1,6,7,8] (before (aI f183) [1,1,1,0,1]) ⟨aU 0 [.ak 1 n (aA z),.int .u32 b],[],0⟩=
  let c1:Int:=(↑n:Int);some (af.aj [(0:Int)<=c1/\c1<=c1/\c1<=2^47/\c1*(↑(4:Nat):Int)<=2^47] (af.leaf aq.normal ([ak 1 n fun a=>int .u32 (↑(z a):Int),int .u32 (↑b:Int),own 16384 1 0 c1.toNat,int .u64 (0:Int),int .i64 (i64.wrap (c1-1))],[(16384,ax.mk true true 1 c1.toNat fun x=>int .u32 (0:Int))]))):=ah
theorem U2 {n b k r:Nat} {z o:Nat->Nat}:aH T [] [16] 30 [0,1,6,7,8] [part (aI f183) [1,1,1,0,1,0,0]] ⟨aB [0,1,6,7,8] [.ak 1 n (aA z),.int .u32 b,.own 7 1 0 n,.int .u64 r,.int .i64 ((k:Int)-1)],[(7,⟨true,true,1,n,aA o⟩)],8⟩=
  let c8:AV:=int .u32 (↑b:Int);let c6:AV:=own 7 1 0 n;let c4:AV:=ak 1 n fun a=>int .u32 (↑(z a):Int);let c3:Int:=u64.wrap (↑b:Int);let c2:Int:=(↑k:Int)-1;let c7:Prop:=(0:Int)<=c2/\c2.toNat<n;let c5:Nat:=c2.toNat+0;let c1:Int:=u64.wrap (↑(BitVec.ofInt u64.bits (u64.wrap ((↑r:Int)*2^min (Int.toNat (32:Int)) u64.bits))|||BitVec.ofInt u64.bits (u64.wrap (↑(z c2.toNat):Int))).toNat:Int);some (af.fork (decide (c2>=0)) (af.aj [(0:Int)<=32,c7] (af.aj [c3≠(0:Int),c7,c5<n] (af.aj [c3≠(0:Int)] (af.leaf aq.normal ([c4,c8,c6,int .u64 (c1.tmod c3),int .i64 (i64.wrap (c2-1))],[(7,ax.mk true true 1 n fun j=>if(j==c5)=true then int .u32 (u32.wrap (u64.wrap (c1.tdiv c3)))else aA o j)]))))) (af.leaf (aq.exit 0) ([c4,c8,c6,int .u64 (↑r:Int),int .i64 c2],[(7,ax.mk true true 1 n fun a=>int .u32 (↑(o a):Int))]))):=ah
theorem TG {n b k r:Nat} {z o:Nat->Nat}:cR T G1 [] 30 f183 (behind (aI f183) [1,1,1,0,1]) ⟨aB [0,1,6,7,8] [.ak 1 n (aA z),.int .u32 b,.own 7 1 0 n,.int .u64 r,.int .i64 ((k:Int)-1)],[(7,⟨true,true,1,n,aA o⟩)],8⟩=
  some (af.aj [fe n fun i=>aA o (i+0),n<2^62] (af.leaf aq.ret [mag (val n fun i=>numOf (aA o (i+0))),int .u32 (u32.wrap (↑r:Int))])):=ah
theorem afd {n s:Nat} {z:Nat->Nat}:aH T G1 [] 30 [0,1,5,6,13,14,15] (before (aI f185) [1,1,1,0,1]) ⟨aU 0 [.ak 1 n (aA z),.int .i64 s],[],0⟩=
  let c2:AV:=ak 1 n fun a=>int .u32 (↑(z a):Int);let c1:Int:=i64.wrap ((↑n:Int)+1);some (af.aj [(0:Int)<=c1/\c1<=c1/\c1<=2^47/\c1*(↑(4:Nat):Int)<=2^47] (af.leaf aq.normal ([c2,int .i64 (↑s:Int),own 16384 1 0 c1.toNat,int .u64 (0:Int),c2,int .i64 (↑n:Int),int .i64 (0:Int)],[(16384,ax.mk true true 1 c1.toNat fun x=>int .u32 (0:Int))]))):=ah
theorem XC {n s i c:Nat} {z o:Nat->Nat}:aH T [] [16] 30 [0,1,5,6,13,14,15] [part (aI f185) [1,1,1,0,1,0,0]] ⟨aB [0,1,5,6,13,14,15] [.ak 1 n (aA z),.int .i64 s,.own 7 1 0 (n+1),.int .u64 c,.ak 1 n (aA z),.int .i64 n,.int .i64 i],[(7,⟨true,true,1,n+1,aA o⟩)],8⟩=
  let c8:AV:=int .i64 (↑s:Int);let c7:AV:=int .i64 (↑n:Int);let c4:Nat:=n+1;let c3:Int:=(↑i:Int);let c2:AV:=ak 1 n fun a=>int .u32 (↑(z a):Int);let c6:Nat:=c3.toNat+0;let c5:AV:=own 7 1 0 c4;let c1:Int:=u64.wrap (↑(BitVec.ofInt u64.bits (↑c:Int)|||BitVec.ofInt u64.bits (u64.wrap (u64.wrap (↑(z c3.toNat):Int)*2^min (↑s:Int).toNat u64.bits))).toNat:Int);some (af.fork (decide (c3<(↑n:Int))) (af.aj [(0:Int)<=c3/\c3.toNat<n] (af.aj [(0:Int)<=(↑s:Int)] (af.aj [(0:Int)<=c3/\c3.toNat<c4,c6<c4] (af.aj [(0:Int)<=32] (af.leaf aq.normal ([c2,c8,c5,int .u64 (c1.fdiv ((2:Int)^min (Int.toNat (32:Int)) u64.bits)),c2,c7,int .i64 (i64.wrap (c3+1))],[(7,ax.mk true true 1 c4 fun j=>if(j==c6)=true then int .u32 (u32.wrap c1)else aA o j)])))))) (af.leaf (aq.exit 0) ([c2,c8,c5,int .u64 (↑c:Int),c2,c7,int .i64 c3],[(7,ax.mk true true 1 c4 fun a=>int .u32 (↑(o a):Int))]))):=ah
theorem aeK {B x y r v w' t:Nat} (hr:r+y=x+w'*4294967296) (h:v=t):v+r*B+y*B=t+x*B+w'*(4294967296*B):=by
 subst h
 have:(r+y)*B=(x+w'*4294967296)*B:=by rw[hr]
 grind
theorem J5 {x y:Nat} (hx:x<2^32) (hy:y<=2^32):∃r w:Nat,r<2^32/\w<=1/\r+y=x+w*4294967296/\((x:Int)-y)%2^64%2^32=r/\((x:Int)-y)%2^64/9223372036854775808=w:=by
 rcases Nat.lt_or_ge x y with h|h
 ·exact⟨x+4294967296-y,1,aa,aa,aa,aa,aa⟩
 ·exact⟨x-y,0,aa,aa,aa,aa,aa⟩
abbrev uW:List Nat:=[1,6,7,21,22,23,4,5]
abbrev BY (B n:Nat) (z:Nat->Nat) (K w i:Nat):List AV:=[.mag B,.own K 1 0 n,.int .u64 w,.ak 1 n (aA z),.int .i64 n,.int .i64 i,.nil,.int .i64 0]
theorem TU {n m:Nat} {z y:Nat->Nat} (hz:∀i,i<n->z i<2^32) (hy:∀i,i<m->y i<2^32) (hn:n<2^40) (hm':m<2^40) (K:Nat) (pre:aE):
  aS P 178 K [.ak 1 n (aA z),.ak 1 m (aA y)] pre (aM (.tuple [.mag (val n z-val m y),.int .i64 (if val n z<val m y then 7 else 0)]) []):=by
 refine kI hT Y8 rfl aZ rfl (fun _ c h0=>?_) K pre
 refine au.hole [1,1,1,1,1,0,1] ah (aF.bL hT WH hm 30 uW afv ah ?_)
 have hA:nl (val n z)<=n:=eo.2 (gV hz)
 have hAlt:=gV hz
 generalize hB:val m y=B at*
 simp only[af.all,az,bD,bI,kq,hB]
 refine⟨⟨iu hz,iu hy,aa,aa⟩,fun hb s' hv=>?_,fun hb=>⟨⟨iu hy,aa⟩,aa,fun s' hv=>?_⟩⟩
 ·have h1:val n z<B:=by
   unfold dJ at hb
   split at hb
   ·assumption
   ·split at hb<;>omega
  refine iG (us:=[.nil,.int .i64 7]) (.inr rfl) hv ah ⟨lT.trans (eU (congrArg AV.mag aa)),cq (by rw[if_pos h1]),trivial⟩
 have hBA:B<=val n z:=by
  unfold dJ at hb
  split at hb<;>omega
 have hnB:nl B<=n:=Nat.le_trans (jd hBA) hA
 refine au.iX (i:=0) (y:=part (aI f178) [1,1,1,1,1,0,1,0,0]) ah
  (fun p:Nat×Nat×(Nat->Nat)=>⟨aB uW (BY B n z 7 p.2.1 p.1),[(7,⟨true,true,1,n,aA p.2.2⟩)],8⟩)
  (fun p=>p.1<=n/\p.2.1<=1/\(∀j,j<n->p.2.2 j<2^32)/\val p.1 p.2.2+val (min p.1 (nl B)) (aD B)=val p.1 z+p.2.1*2^(32*p.1))
  (fun p=>n-p.1) (0,0,fun _=>0)
  (eA [(7,45056)] hv h0 rfl ⟨aP,⟨rfl,ec rfl rfl rfl⟩,aP,aP,aP,aP,aP,aP,trivial⟩
   ⟨⟨_,_,rfl,rfl,gC rfl fun j _=>rfl⟩,trivial⟩)
  ⟨by simp,by simp,fun j _=>by simp,by simp[val]⟩ ?_
 rintro⟨i,w,o⟩ ⟨hi,hw,ho,hval⟩
 simp only at hi hw ho hval
 refine au.bL hT cG hm 30 uW abo ah ?_
 have key:∀{yi:Nat} {s':aK} {u v:Int} {f':Nat->AV} {r w':Nat},i<n->yi=(if i<nl B then aD B i else 0)->r<2^32->w'<=1->r+(w+yi)=z i+w'*4294967296->
   bA uW s'=some ([.mag B,.own 7 1 0 n,.int .u64 u,.ak 1 n (aA z),.int .i64 n,.int .i64 v,.nil,.int .i64 0],[(7,⟨true,true,1,n,f'⟩)])->
   u=(w':Nat)->v=(i+1:Nat)->(∀j,f' j=aA (cQ o i r) j)->
   ∃k:Nat×Nat×(Nat->Nat),(∃ρ,Le c ρ s' ⟨aB uW (BY B n z 7 k.2.1 k.1),[(7,⟨true,true,1,n,aA k.2.2⟩)],8⟩)/\
    (k.1<=n/\k.2.1<=1/\(∀j,j<n->k.2.2 j<2^32)/\val k.1 k.2.2+val (min k.1 (nl B)) (aD B)=val k.1 z+k.2.1*2^(32*k.1))/\n-k.1<n-i:=by
  intro yi s' u v f' r w' hin hyi hr hw1 hrw hv hu hv1 hf
  refine⟨(i+1,w',cQ o i r),eA [(7,7)] hv h0 rfl ⟨aP,⟨rfl,ec rfl rfl rfl⟩,⟨rfl,iA hu⟩,aP,aP,⟨rfl,iA hv1⟩,aP,aP,trivial⟩
   ⟨⟨_,_,rfl,rfl,gC rfl fun j _=>hf j⟩,trivial⟩,⟨by simp only;omega,hw1,jn hr ho,?_⟩,by simp only;omega⟩
  simp only
  rw[LS,<-hyi,sj,je]
  show _=val i z+z i*2^(32*i)+_
  have:=aeK (B:=2^(32*i)) hrw hval
  rw[Nat.add_mul]at this
  omega
 have fin:i=n->∀s',bA uW s'=some (BY B n z 7 w i,[(7,⟨true,true,1,n,aA o⟩)])->
   aF P c f178.ntmps (behind (aI f178) [1,1,1,1,1,0,1]) s' (Fin T f178 (.tuple [.mag (val n z-B),.int .i64 (if val n z<B then 7 else 0)])):=by
  intro hin s' hv
  subst hin
  rw[Nat.min_eq_right hnB,ic]at hval
  have hlt:=gV ho
  have hw0:w=0:=by
   rcases Nat.eq_zero_or_pos w with h|h
   ·exact h
   ·have:w=1:=aa
    subst this
    omega
  subst hw0
  refine aF.weak ah (eA (vs:=BY B i z 7 0 i) (ps:=[(7,⟨true,true,1,i,aA o⟩)]) (nx:=8) [(7,7)] hv h0 rfl
    ⟨aP,⟨rfl,ec rfl rfl rfl⟩,aP,aP,aP,aP,aP,aP,trivial⟩
    ⟨⟨_,_,rfl,rfl,gC rfl fun j _=>rfl⟩,trivial⟩)
   (aF.fin hT iM hm 30 aha ah ?_)
  simp only[af.all,az,Nat.add_zero,kq]
  exact⟨⟨iu ho,aa⟩,eU (congrArg AV.mag aa),cq (by rw[if_neg aa]),trivial⟩
 simp only[af.all,az,bD,bI,bG,Nat.add_zero,beq_iff_eq]
 refine⟨fun hb=>?_,fun hb s' hv=>fin aa s' hv⟩
 have h1:i<n:=aa
 have hzi:=hz i h1
 have hl:=eO (N:=B) (i:=i)
 have e1:u64.wrap (z i:Int)=(z i:Int):=cJ aa aa
 have e2:u64.wrap (aD B i:Int)=(aD B i:Int):=cJ aa aa
 have e3:u64.wrap ((w:Int)+(aD B i:Int))=((w+aD B i:Nat):Int):=by rw[cJ aa aa];omega
 rw[e1,e2,e3]
 refine⟨aa,fun hb2=>?_,fun hb2=>?_⟩
 ·have h2:i<nl B:=aa
  obtain⟨r,w',q1,q2,q3,q4,q5⟩:=J5 hzi (y:=w+aD B i) aa
  refine⟨aa,aa,aa,fun s' hv=>key (yi:=aD B i) h1 (by rw[if_pos h2]) q1 q2 q3 hv ?_ (by rw[wrap_i64 aa aa];omega) fun j=>iQ ?_ j⟩
  ·rw[Fi,oT];exact q5
  ·rw[mE,oT];exact q4
 ·have h2:¬i<nl B:=aa
  obtain⟨r,w',q1,q2,q3,q4,q5⟩:=J5 hzi (y:=w) aa
  refine⟨aa,aa,fun s' hv=>key (yi:=0) h1 (by rw[if_neg h2]) q1 q2 q3 hv ?_ (by rw[wrap_i64 aa aa];omega) fun j=>iQ ?_ j⟩
  ·rw[Fi,oT];exact q5
  ·rw[mE,oT];exact q4
theorem S8 {r x:Nat} (hr:r<2^32) (hx:x<2^32):
  u64.wrap ((BitVec.ofInt u64.bits (u64.wrap ((r:Int)*2^min (Int.toNat 32) u64.bits))|||BitVec.ofInt u64.bits (u64.wrap (x:Int))).toNat:Int)=((r*4294967296+x:Nat):Int):=by
 rw[yN,cJ (x:=(x:Int)) aa aa,cJ (x:=(r:Int)*4294967296) aa aa]
 rw[show(r:Int)*4294967296=((r*2^32:Nat):Int) by omega,vZ aa aa,rP hx]
theorem IW {r z b B v t vz q r':Nat} (h:v*b+r*(4294967296*B)+(vz+z*B)=t) (hq:r*4294967296+z=b*q+r'):(v+q*B)*b+r'*B+vz=t:=by
 have:(r*4294967296+z)*B=(b*q+r')*B:=by rw[hq]
 grind
abbrev EH:List Nat:=[0,1,6,7,8]
abbrev MW (n:Nat) (z:Nat->Nat) (b K r k:Nat):List AV:=[.ak 1 n (aA z),.int .u32 b,.own K 1 0 n,.int .u64 r,.int .i64 ((k:Int)-1)]
theorem abx {n b:Nat} {z:Nat->Nat} (hz:∀i,i<n->z i<2^32) (hn:n<2^40) (hb0:0<b) (hb32:b<2^32) (K:Nat) (pre:aE):
  aS P 183 K [.ak 1 n (aA z),.int .u32 b] pre (aM (.tuple [.mag (val n z/b),.int .u32 (val n z%b:Nat)]) []):=by
 refine kI hT VG rfl aZ rfl (fun _ c h0=>?_) K pre
 refine au.hole [1,1,1,0,1] ah (aF.bL hT iM hm 30 EH adD ah ?_)
 simp only[af.all,az]
 refine⟨aa,fun s' hv=>?_⟩
 refine au.iX (i:=0) (y:=part (aI f183) [1,1,1,0,1,0,0]) ah
  (fun p:Nat×Nat×(Nat->Nat)=>⟨aB EH (MW n z b 7 p.2.1 p.1),[(7,⟨true,true,1,n,aA p.2.2⟩)],8⟩)
  (fun p=>p.1<=n/\p.2.1<b/\(∀j,j<n->p.2.2 j<2^32)/\(∀j,j<p.1->p.2.2 j=0)/\val n p.2.2*b+p.2.1*2^(32*p.1)+val p.1 z=val n z)
  (fun p=>p.1) (n,0,fun _=>0)
  (eA [(7,16384)] hv h0 rfl ⟨aP,aP,⟨rfl,ec rfl rfl rfl⟩,aP,⟨rfl,iA (wrap_i64 aa aa)⟩,trivial⟩
   ⟨⟨_,_,rfl,rfl,gC rfl fun j _=>rfl⟩,trivial⟩)
  ⟨by simp,hb0,fun j _=>by simp,fun j _=>rfl,?_⟩ ?_
 ·simp only
  rw[oG (k:=0) aa fun _ _ _=>rfl]
  simp[val]
 rintro⟨k,r,o⟩ ⟨hk,hr,ho,ho0,hval⟩
 simp only at hk hr ho ho0 hval
 refine au.bL hT cG hm 30 EH U2 ah ?_
 simp only[af.all,az,bD,bI,Nat.add_zero,beq_iff_eq]
 have hbw:u64.wrap (b:Int)=(b:Int):=cJ aa aa
 refine⟨fun hb=>?_,fun hb s' hv=>?_⟩
 ·obtain⟨j,rfl⟩:∃j,k=j+1:=⟨k-1,aa⟩
  have e:(((j+1:Nat):Int)-1).toNat=j:=aa
  have hzj:=hz j aa
  have fH:=S8 (r:=r) (x:=z j) aa hzj
  rw[e,fH,hbw]
  have hq1:(r*4294967296+z j)/b<2^32:=by
   rw[Nat.div_lt_iff_lt_mul hb0]
   have:(r+1)*4294967296<=b*4294967296:=Nat.mul_le_mul_right _ hr
   omega
  have hdm:=Nat.div_add_mod (r*4294967296+z j) b
  refine⟨⟨aa,aa,aa⟩,⟨aa,⟨aa,aa⟩,aa⟩,aa,fun s' hv=>⟨(j,(r*4294967296+z j)%b,cQ o j ((r*4294967296+z j)/b)),?_,⟨by simp only;omega,Nat.mod_lt _ hb0,jn hq1 ho,fun i hi=>?_,?_⟩,by simp only;omega⟩⟩
  ·refine eA [(7,7)] hv h0 rfl ⟨aP,aP,⟨rfl,ec rfl rfl rfl⟩,⟨rfl,iA (Int.ofNat_tmod _ _).symm⟩,⟨rfl,iA ?_⟩,trivial⟩
    ⟨⟨_,_,rfl,rfl,gC rfl fun i _=>iQ ?_ i⟩,trivial⟩
   ·rw[wrap_i64 aa aa];simp only;omega
   ·rw[<-Int.ofNat_tdiv]
    clear hdm
    generalize (r*4294967296+z j)/b=q at hq1 ⊢
    rw[cJ aa aa,wrap_u32 aa aa]
  ·exact(gG (by simp only at hi;omega)).trans (ho0 i (by simp only at hi;omega))
  ·simp only
   rw[rZ aa (ho0 j aa)]
   rw[je,val]at hval
   exact IW hval hdm.symm
 ·have hk0:k=0:=aa
  subst hk0
  have hv2:val n o*b+r=val n z:=by simpa [val]using hval
  refine aF.weak ah (eA (vs:=MW n z b 7 r 0) (ps:=[(7,⟨true,true,1,n,aA o⟩)]) (nx:=8) [(7,7)] hv h0 rfl
    ⟨aP,aP,⟨rfl,ec rfl rfl rfl⟩,aP,aP,trivial⟩
    ⟨⟨_,_,rfl,rfl,gC rfl fun j _=>rfl⟩,trivial⟩)
   (aF.fin hT iM hm 30 TG ah ?_)
  simp only[af.all,az,Nat.add_zero,kq]
  have hdiv:val n z/b=val n o:=by
   rw[<-hv2,Nat.mul_comm,Nat.mul_add_div hb0,Nat.div_eq_of_lt hr,Nat.add_zero]
  have hmod:val n z%b=r:=by
   rw[<-hv2,Nat.mul_comm,Nat.mul_add_mod,Nat.mod_eq_of_lt hr]
  exact⟨⟨iu ho,aa⟩,eU (congrArg AV.mag hdiv.symm),cq (by rw[hmod,wrap_u32 aa aa]),trivial⟩
theorem VE {x s:Nat} (hs:s<32) (hx:x<2^32):u64.wrap (u64.wrap (x:Int)*2^min (s:Int).toNat u64.bits)=((x*2^s:Nat):Int)/\x*2^s<2^64:=by
 have e:min (s:Int).toNat u64.bits=s:=by
  have:u64.bits=64:=rfl
  omega
 have hlt:x*2^s<2^64:=by
  have h1:2^s<=2^31:=Nat.pow_le_pow_right aa aa
  have h2:x*2^s<=2^32*2^31:=Nat.mul_le_mul aa h1
  omega
 refine⟨?_,hlt⟩
 rw[e,cJ (x:=(x:Int)) aa aa]
 have:(x:Int)*2^s=((x*2^s:Nat):Int):=by simp
 rw[this]
 exact cJ aa aa
theorem P7 {c x s:Nat} (hs:s<32) (hx:x<2^32) (hc:c<2^s):
  u64.wrap ((BitVec.ofInt u64.bits (c:Int)|||BitVec.ofInt u64.bits (u64.wrap (u64.wrap (x:Int)*2^min (s:Int).toNat u64.bits))).toNat:Int)=((c+x*2^s:Nat):Int):=by
 obtain⟨h1,h2⟩:=VE hs hx
 have h3:2^s<=2^31:=Nat.pow_le_pow_right aa aa
 rw[h1,vZ aa h2,Nat.or_comm,rP hc,Nat.add_comm]
theorem MC {c x s:Nat} (hs:s<32) (hx:x<2^32) (hc:c<2^s):c+x*2^s<2^63/\(c+x*2^s)/4294967296<2^s:=by
 have h3:2^s<=2^31:=Nat.pow_le_pow_right aa aa
 have h4:(x+1)*2^s<=2^32*2^s:=Nat.mul_le_mul_right _ hx
 rw[Nat.add_mul,Nat.one_mul]at h4
 refine⟨aa,?_⟩
 rw[Nat.div_lt_iff_lt_mul aa]
 omega
theorem LH {B c x t v S:Nat} (h:v+c*B=t*S):v+(c+x*S)%4294967296*B+(c+x*S)/4294967296*(4294967296*B)=(t+x*B)*S:=by
 have h1:=Nat.div_add_mod (c+x*S) 4294967296
 generalize (c+x*S)/4294967296=q at*
 generalize (c+x*S)%4294967296=r at*
 have:(4294967296*q+r)*B=(c+x*S)*B:=by rw[h1]
 grind
abbrev CX:List Nat:=[0,1,5,6,13,14,15]
abbrev Pb (n s:Nat) (z:Nat->Nat) (K c i:Nat):List AV:=[.ak 1 n (aA z),.int .i64 s,.own K 1 0 (n+1),.int .u64 c,.ak 1 n (aA z),.int .i64 n,.int .i64 i]
theorem afW {n s:Nat} {z:Nat->Nat} (hz:∀i,i<n->z i<2^32) (hn:n<2^40) (hs:s<32) {c:Ctx} (h0:c.k0=bE) {Q:aq->aK->Prop}
  (fin:∀(c':Nat) (o:Nat->Nat) (s':aK),c'<2^s->(∀j,j<n+1->o j<2^32)->val n o+c'*2^(32*n)=val n z*2^s->bA CX s'=some (Pb n s z 7 c' n,[(7,⟨true,true,1,n+1,aA o⟩)])->
   aF P c f185.ntmps (behind (aI f185) [1,1,1,0,1]) s' Q):
  au P c f185.ntmps (aI f185) ⟨aU 0 [.ak 1 n (aA z),.int .i64 s],[],0⟩ Q:=by
 refine au.hole [1,1,1,0,1] ah (aF.bL hT iM hm 30 CX afd ah ?_)
 have hw:i64.wrap ((n:Int)+1)=((n+1:Nat):Int):=by rw[wrap_i64 aa aa];omega
 simp only[af.all,az,hw,bG]
 refine⟨aa,fun s' hv=>?_⟩
 refine au.iX (i:=0) (y:=part (aI f185) [1,1,1,0,1,0,0]) ah
  (fun p:Nat×Nat×(Nat->Nat)=>⟨aB CX (Pb n s z 7 p.2.1 p.1),[(7,⟨true,true,1,n+1,aA p.2.2⟩)],8⟩)
  (fun p=>p.1<=n/\p.2.1<2^s/\(∀j,j<n+1->p.2.2 j<2^32)/\val p.1 p.2.2+p.2.1*2^(32*p.1)=val p.1 z*2^s)
  (fun p=>n-p.1) (0,0,fun _=>0)
  (eA [(7,16384)] hv h0 rfl ⟨aP,aP,⟨rfl,ec rfl rfl rfl⟩,aP,aP,aP,aP,trivial⟩
   ⟨⟨_,_,rfl,rfl,gC rfl fun j _=>rfl⟩,trivial⟩)
  ⟨by simp,Nat.two_pow_pos s,fun j _=>by simp,by simp[val]⟩ ?_
 rintro⟨i,c',o⟩ ⟨hi,hc,ho,hval⟩
 simp only at hi hc ho hval
 refine au.bL hT cG hm 30 CX XC ah ?_
 simp only[af.all,az,bD,bI,Nat.add_zero,beq_iff_eq,bG]
 refine⟨fun hb=>?_,fun hb s' hv=>?_⟩
 ·have h1:i<n:=aa
  have hzi:=hz i h1
  have fH:=P7 hs hzi hc
  simp only[bG]at fH
  rw[fH]
  obtain⟨b1,b2⟩:=MC hs hzi hc
  refine⟨aa,aa,aa,aa,fun s' hv=>⟨(i+1,(c'+z i*2^s)/4294967296,cQ o i ((c'+z i*2^s)%4294967296)),?_,⟨by simp only;omega,b2,jn aa ho,?_⟩,by simp only;omega⟩⟩
  ·refine eA [(7,7)] hv h0 rfl ⟨aP,aP,⟨rfl,ec rfl rfl rfl⟩,⟨rfl,iA ?_⟩,aP,aP,⟨rfl,iA ?_⟩,trivial⟩
    ⟨⟨_,_,rfl,rfl,gC rfl fun j _=>iQ ?_ j⟩,trivial⟩
   ·rw[mO];simp only;omega
   ·rw[wrap_i64 aa aa];simp only;omega
   ·rw[kz]
  ·simp only
   rw[sj,je]
   exact LH hval
 ·have hin:i=n:=aa
  subst hin
  exact fin c' o s' hc ho hval hv
theorem aaJ {s c' i:Nat} {o:Nat->Nat} (hs:s<32) (hc:c'<2^s):∀j,(if j=i then AV.int .u32 (u32.wrap (c':Int))else aA o j)=aA (cQ o i c') j:=fun j=>iQ (by
 have h3:2^s<=2^31:=Nat.pow_le_pow_right aa aa
 exact wrap_u32 aa aa) j
def KP (A n B m:Nat):dZ:=aM (.tuple [.mag (A-B),.int .i64 (if A<B then 7 else 0)]) [n<2^40,m<2^40]
theorem aal:bf P (cw (jy KP)) 178:=
 dc (wg fun _ _ _ _ K hz hy need=>TU hz hy need.1 need.2 K [])
def II (N n:Nat) (b:Int):dZ:=aM (.tuple [.mag (N/b.toNat),.int .u32 (N%b.toNat:Nat)]) [n<2^40,0<b,b<2^32]
theorem UO:bf P (cw (B6 II)) 183:=
 dc (agH fun z n i K hz need=>by
  obtain⟨h1,h2,h3⟩:n<2^40/\0<i/\i<2^32:=need
  obtain⟨b,rfl⟩:=Int.eq_ofNat_of_zero_le (Int.le_of_lt h2)
  exact abx hz h1 aa aa K [])
end Go.Am.B
