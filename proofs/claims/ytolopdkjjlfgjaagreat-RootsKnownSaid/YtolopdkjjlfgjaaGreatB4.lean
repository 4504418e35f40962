/- natural.Sub, natural.small, natural.raise. -/
import Derived.Test.YtolopdkjjlfgjaaGreatB3
set_option linter.unusedVariables false
namespace Go.Am.B
open Go Go.Am.N AV Proofs.Tryz IntKind
theorem Rn:bC 178 f178:=bD func178
theorem VG:bC 183 f183:=bD func183
theorem Xv:bC 185 f185:=bD func185
def G2:bG:=(118,cw (jH AP))::G1
theorem RZ:cm P G2:=aM DD iY
theorem acC {n m:Nat} {z y:Nat->Nat}:aK T G2 [15] 30 [1,6,7,21,22,23,4,5] (before (aJ f178) [1,1,1,1,1,0,1]) ⟨bf 0 [.az 1 n (aD z),.az 1 m (aD y)],[],0⟩=
  let c5:AV:=tuple [];let c4:AV:=int .i64 (0:Int);let c3:Nat:=val m fun i=>numOf (aD y i);let c2:Int:=(↑n:Int);let c1:Int:=dG (val n fun i=>numOf (aD z i)) c3;some (af.aj [fu n (aD z),fu m (aD y),n<2^40,m<2^40] (af.fork (decide (c1<0)) (af.leaf au.ret ([az 1 m fun a=>int .u32 (↑(y a):Int),c5,c5,c5,c5,c5,nil,int .i64 (7:Int)],[])) (af.aj [fu m (aD y),m<2^62] (af.aj [(0:Int)<=c2/\c2<=c2/\c2<=2^47/\c2*(↑(4:Nat):Int)<=2^47] (af.leaf au.normal ([mag c3,own 45056 1 0 c2.toNat,int .u64 (0:Int),az 1 n fun a=>int .u32 (↑(z a):Int),int .i64 c2,c4,nil,c4],[(45056,aC.mk true true 1 c2.toNat fun x=>int .u32 (0:Int))])))))):=ah
theorem ad7 {n B i w:Nat} {z o:Nat->Nat}:aK T [] [24,32] 30 [1,6,7,21,22,23,4,5] [part (aJ f178) [1,1,1,1,1,0,1,0,0]] ⟨aH [1,6,7,21,22,23,4,5] [.mag B,.own 7 1 0 n,.int .u64 w,.az 1 n (aD z),.int .i64 n,.int .i64 i,.nil,.int .i64 0],[(7,⟨true,true,1,n,aD o⟩)],8⟩=
  let c13:AV:=int .i64 (↑n:Int);let c12:List AV:=[nil,int .i64 (0:Int)];let c9:Int:=(2:Int)^min (Int.toNat (63:Int)) u64.bits;let c8:AV:=az 1 n fun a=>int .u32 (↑(z a):Int);let c5:AV:=own 7 1 0 n;let c4:Int:=(↑i:Int);let c2:List AV:=c8::c13::int .i64 (i64.wrap (c4+1))::c12;let c1:Nat:=c4.toNat;let c11:Int:=u64.wrap (↑(z c1):Int);let c10:Prop:=(0:Int)<=c4/\c1<n;let c7:Nat:=c1+0;let c6:Int:=u64.wrap (c11-(↑w:Int));let c3:Int:=u64.wrap (c11-u64.wrap ((↑w:Int)+u64.wrap (↑(aE B c1):Int)));some (af.fork (decide (c4<(↑n:Int))) (af.aj [c10] (af.fork (decide (c4<(↑(nl B):Int))) (af.aj [(0:Int)<=c4/\c1<nl B] (af.aj [c10,c7<n] (af.aj [(0:Int)<=63] (af.leaf au.normal (mag B::c5::int .u64 (c3.fdiv c9)::c2,[(7,aC.mk true true 1 n fun j=>if(j==c7)=true then int .u32 (u32.wrap c3)else aD o j)]))))) (af.aj [c10,c7<n] (af.aj [(0:Int)<=63] (af.leaf au.normal (mag B::c5::int .u64 (c6.fdiv c9)::c2,[(7,aC.mk true true 1 n fun j=>if(j==c7)=true then int .u32 (u32.wrap c6)else aD o j)])))))) (af.leaf (au.exit 0) (mag B::c5::int .u64 (↑w:Int)::c8::c13::int .i64 c4::c12,[(7,aC.mk true true 1 n fun a=>int .u32 (↑(o a):Int))]))):=ah
theorem aci {n B i w:Nat} {z o:Nat->Nat}:dJ T G1 [] 30 f178 (behind (aJ f178) [1,1,1,1,1,0,1]) ⟨aH [1,6,7,21,22,23,4,5] [.mag B,.own 7 1 0 n,.int .u64 w,.az 1 n (aD z),.int .i64 n,.int .i64 i,.nil,.int .i64 0],[(7,⟨true,true,1,n,aD o⟩)],8⟩=
  some (af.aj [fu n fun i=>aD o (i+0),n<2^62] (af.leaf au.ret [mag (val n fun i=>numOf (aD o (i+0))),int .i64 (0:Int)])):=ah
theorem Yq {n b:Nat} {z:Nat->Nat}:aK T G1 [] 30 [0,1,6,7,8] (before (aJ f183) [1,1,1,0,1]) ⟨bf 0 [.az 1 n (aD z),.int .u32 b],[],0⟩=
  let c1:Int:=(↑n:Int);some (af.aj [(0:Int)<=c1/\c1<=c1/\c1<=2^47/\c1*(↑(4:Nat):Int)<=2^47] (af.leaf au.normal ([az 1 n fun a=>int .u32 (↑(z a):Int),int .u32 (↑b:Int),own 16384 1 0 c1.toNat,int .u64 (0:Int),int .i64 (i64.wrap (c1-1))],[(16384,aC.mk true true 1 c1.toNat fun x=>int .u32 (0:Int))]))):=ah
theorem YW {n b k r:Nat} {z o:Nat->Nat}:aK T [] [16] 30 [0,1,6,7,8] [part (aJ f183) [1,1,1,0,1,0,0]] ⟨aH [0,1,6,7,8] [.az 1 n (aD z),.int .u32 b,.own 7 1 0 n,.int .u64 r,.int .i64 ((k:Int)-1)],[(7,⟨true,true,1,n,aD o⟩)],8⟩=
  let c8:AV:=int .u32 (↑b:Int);let c6:AV:=own 7 1 0 n;let c4:AV:=az 1 n fun a=>int .u32 (↑(z a):Int);let c3:Int:=u64.wrap (↑b:Int);let c2:Int:=(↑k:Int)-1;let c7:Prop:=(0:Int)<=c2/\c2.toNat<n;let c5:Nat:=c2.toNat+0;let c1:Int:=u64.wrap (↑(BitVec.ofInt u64.bits (u64.wrap ((↑r:Int)*2^min (Int.toNat (32:Int)) u64.bits))|||BitVec.ofInt u64.bits (u64.wrap (↑(z c2.toNat):Int))).toNat:Int);some (af.fork (decide (c2>=0)) (af.aj [(0:Int)<=32,c7] (af.aj [c3≠(0:Int),c7,c5<n] (af.aj [c3≠(0:Int)] (af.leaf au.normal ([c4,c8,c6,int .u64 (c1.tmod c3),int .i64 (i64.wrap (c2-1))],[(7,aC.mk true true 1 n fun j=>if(j==c5)=true then int .u32 (u32.wrap (u64.wrap (c1.tdiv c3)))else aD o j)]))))) (af.leaf (au.exit 0) ([c4,c8,c6,int .u64 (↑r:Int),int .i64 c2],[(7,aC.mk true true 1 n fun a=>int .u32 (↑(o a):Int))]))):=ah
theorem ad1 {n b k r:Nat} {z o:Nat->Nat}:dJ T G1 [] 30 f183 (behind (aJ f183) [1,1,1,0,1]) ⟨aH [0,1,6,7,8] [.az 1 n (aD z),.int .u32 b,.own 7 1 0 n,.int .u64 r,.int .i64 ((k:Int)-1)],[(7,⟨true,true,1,n,aD o⟩)],8⟩=
  some (af.aj [fu n fun i=>aD o (i+0),n<2^62] (af.leaf au.ret [mag (val n fun i=>numOf (aD o (i+0))),int .u32 (u32.wrap (↑r:Int))])):=ah
theorem abj {n s:Nat} {z:Nat->Nat}:aK T G1 [] 30 [0,1,5,6,13,14,15] (before (aJ f185) [1,1,1,0,1]) ⟨bf 0 [.az 1 n (aD z),.int .i64 s],[],0⟩=
  let c2:AV:=az 1 n fun a=>int .u32 (↑(z a):Int);let c1:Int:=i64.wrap ((↑n:Int)+1);some (af.aj [(0:Int)<=c1/\c1<=c1/\c1<=2^47/\c1*(↑(4:Nat):Int)<=2^47] (af.leaf au.normal ([c2,int .i64 (↑s:Int),own 16384 1 0 c1.toNat,int .u64 (0:Int),c2,int .i64 (↑n:Int),int .i64 (0:Int)],[(16384,aC.mk true true 1 c1.toNat fun x=>int .u32 (0:Int))]))):=ah
theorem XA {n s i c:Nat} {z o:Nat->Nat}:aK T [] [16] 30 [0,1,5,6,13,14,15] [part (aJ f185) [1,1,1,0,1,0,0]] ⟨aH [0,1,5,6,13,14,15] [.az 1 n (aD z),.int .i64 s,.own 7 1 0 (n+1),.int .u64 c,.az 1 n (aD z),.int .i64 n,.int .i64 i],[(7,⟨true,true,1,n+1,aD o⟩)],8⟩=
  let c8:AV:=int .i64 (↑s:Int);let c7:AV:=int .i64 (↑n:Int);let c4:Nat:=n+1;let c3:Int:=(↑i:Int);let c2:AV:=az 1 n fun a=>int .u32 (↑(z a):Int);let c6:Nat:=c3.toNat+0;let c5:AV:=own 7 1 0 c4;let c1:Int:=u64.wrap (↑(BitVec.ofInt u64.bits (↑c:Int)|||BitVec.ofInt u64.bits (u64.wrap (u64.wrap (↑(z c3.toNat):Int)*2^min (↑s:Int).toNat u64.bits))).toNat:Int);some (af.fork (decide (c3<(↑n:Int))) (af.aj [(0:Int)<=c3/\c3.toNat<n] (af.aj [(0:Int)<=(↑s:Int)] (af.aj [(0:Int)<=c3/\c3.toNat<c4,c6<c4] (af.aj [(0:Int)<=32] (af.leaf au.normal ([c2,c8,c5,int .u64 (c1.fdiv ((2:Int)^min (Int.toNat (32:Int)) u64.bits)),c2,c7,int .i64 (i64.wrap (c3+1))],[(7,aC.mk true true 1 c4 fun j=>if(j==c6)=true then int .u32 (u32.wrap c1)else aD o j)])))))) (af.leaf (au.exit 0) ([c2,c8,c5,int .u64 (↑c:Int),c2,c7,int .i64 c3],[(7,aC.mk true true 1 c4 fun a=>int .u32 (↑(o a):Int))]))):=ah
theorem aaz {B x y r v w' t:Nat} (hr:r+y=x+w'*4294967296) (h:v=t):v+r*B+y*B=t+x*B+w'*(4294967296*B):=by
 subst h
 have:(r+y)*B=(x+w'*4294967296)*B:=by rw[hr]
 grind
theorem JY {x y:Nat} (hx:x<2^32) (hy:y<=2^32):∃r w:Nat,r<2^32/\w<=1/\r+y=x+w*4294967296/\((x:Int)-y)%2^64%2^32=r/\((x:Int)-y)%2^64/9223372036854775808=w:=by
 rcases Nat.lt_or_ge x y with h|h
 ·exact⟨x+4294967296-y,1,aa,aa,aa,aa,aa⟩
 ·exact⟨x-y,0,aa,aa,aa,aa,aa⟩
abbrev v8:List Nat:=[1,6,7,21,22,23,4,5]
abbrev Bl (B n:Nat) (z:Nat->Nat) (K w i:Nat):List AV:=[.mag B,.own K 1 0 n,.int .u64 w,.az 1 n (aD z),.int .i64 n,.int .i64 i,.nil,.int .i64 0]
theorem abY {n m:Nat} {z y:Nat->Nat} (hz:∀i,i<n->z i<2^32) (hy:∀i,i<m->y i<2^32) (hn:n<2^40) (hm':m<2^40) (K:Nat) (pre:aG):
  aY P 178 K [.az 1 n (aD z),.az 1 m (aD y)] pre (aT (.tuple [.mag (val n z-val m y),.int .i64 (if val n z<val m y then 7 else 0)]) []):=by
 refine lO hT Rn rfl br rfl (fun _ c h0=>?_) K pre
 refine aA.hole [1,1,1,1,1,0,1] ah (aI.bM hT RZ hm 30 v8 acC ah ?_)
 have hA:nl (val n z)<=n:=eo.2 (ia hz)
 have hAlt:=ia hz
 generalize hB:val m y=B at*
 simp only[af.all,aF,bI,bO,kX,hB]
 refine⟨⟨iJ hz,iJ hy,aa,aa⟩,fun hb s' hv=>?_,fun hb=>⟨⟨iJ hy,aa⟩,aa,fun s' hv=>?_⟩⟩
 ·have h1:val n z<B:=by
   unfold dG at hb
   split at hb
   ·assumption
   ·split at hb<;>omega
  refine iS (us:=[.nil,.int .i64 7]) (.inr rfl) hv ah ⟨mM.trans (fo (congrArg AV.mag aa)),cu (by rw[if_pos h1]),trivial⟩
 have hBA:B<=val n z:=by
  unfold dG at hb
  split at hb<;>omega
 have hnB:nl B<=n:=Nat.le_trans (jt hBA) hA
 refine aA.jG (i:=0) (y:=part (aJ f178) [1,1,1,1,1,0,1,0,0]) ah
  (fun p:Nat×Nat×(Nat->Nat)=>⟨aH v8 (Bl B n z 7 p.2.1 p.1),[(7,⟨true,true,1,n,aD p.2.2⟩)],8⟩)
  (fun p=>p.1<=n/\p.2.1<=1/\(∀j,j<n->p.2.2 j<2^32)/\val p.1 p.2.2+val (min p.1 (nl B)) (aE B)=val p.1 z+p.2.1*2^(32*p.1))
  (fun p=>n-p.1) (0,0,fun _=>0)
  (eC [(7,45056)] hv h0 rfl ⟨aU,⟨rfl,e9 rfl rfl rfl⟩,aU,aU,aU,aU,aU,aU,trivial⟩
   ⟨⟨_,_,rfl,rfl,gV rfl fun j _=>rfl⟩,trivial⟩)
  ⟨by simp,by simp,fun j _=>by simp,by simp[val]⟩ ?_
 rintro⟨i,w,o⟩ ⟨hi,hw,ho,hval⟩
 simp only at hi hw ho hval
 refine aA.bM hT cK hm 30 v8 ad7 ah ?_
 have key:∀{yi:Nat} {s':aL} {u v:Int} {f':Nat->AV} {r w':Nat},i<n->yi=(if i<nl B then aE B i else 0)->r<2^32->w'<=1->r+(w+yi)=z i+w'*4294967296->
   bp v8 s'=some ([.mag B,.own 7 1 0 n,.int .u64 u,.az 1 n (aD z),.int .i64 n,.int .i64 v,.nil,.int .i64 0],[(7,⟨true,true,1,n,f'⟩)])->
   u=(w':Nat)->v=(i+1:Nat)->(∀j,f' j=aD (cP o i r) j)->
   ∃k:Nat×Nat×(Nat->Nat),(∃ρ,Le c ρ s' ⟨aH v8 (Bl B n z 7 k.2.1 k.1),[(7,⟨true,true,1,n,aD k.2.2⟩)],8⟩)/\
    (k.1<=n/\k.2.1<=1/\(∀j,j<n->k.2.2 j<2^32)/\val k.1 k.2.2+val (min k.1 (nl B)) (aE B)=val k.1 z+k.2.1*2^(32*k.1))/\n-k.1<n-i:=by
  intro yi s' u v f' r w' hin hyi hr hw1 hrw hv hu hv1 hf
  refine⟨(i+1,w',cP o i r),eC [(7,7)] hv h0 rfl ⟨aU,⟨rfl,e9 rfl rfl rfl⟩,⟨rfl,iI hu⟩,aU,aU,⟨rfl,iI hv1⟩,aU,aU,trivial⟩
   ⟨⟨_,_,rfl,rfl,gV rfl fun j _=>hf j⟩,trivial⟩,⟨by simp only;omega,hw1,jE hr ho,?_⟩,by simp only;omega⟩
  simp only
  rw[KS,<-hyi,rP,jn]
  show _=val i z+z i*2^(32*i)+_
  have:=aaz (B:=2^(32*i)) hrw hval
  rw[Nat.add_mul]at this
  omega
 have fin:i=n->∀s',bp v8 s'=some (Bl B n z 7 w i,[(7,⟨true,true,1,n,aD o⟩)])->
   aI P c f178.ntmps (behind (aJ f178) [1,1,1,1,1,0,1]) s' (Fin T f178 (.tuple [.mag (val n z-B),.int .i64 (if val n z<B then 7 else 0)])):=by
  intro hin s' hv
  subst hin
  rw[Nat.min_eq_right hnB,iE]at hval
  have hlt:=ia ho
  have hw0:w=0:=by
   rcases Nat.eq_zero_or_pos w with h|h
   ·exact h
   ·have:w=1:=aa
    subst this
    omega
  subst hw0
  refine aI.weak ah (eC (vs:=Bl B i z 7 0 i) (ps:=[(7,⟨true,true,1,i,aD o⟩)]) (nx:=8) [(7,7)] hv h0 rfl
    ⟨aU,⟨rfl,e9 rfl rfl rfl⟩,aU,aU,aU,aU,aU,aU,trivial⟩
    ⟨⟨_,_,rfl,rfl,gV rfl fun j _=>rfl⟩,trivial⟩)
   (aI.fin hT iY hm 30 aci ah ?_)
  simp only[af.all,aF,Nat.add_zero,kX]
  exact⟨⟨iJ ho,aa⟩,fo (congrArg AV.mag aa),cu (by rw[if_neg aa]),trivial⟩
 simp only[af.all,aF,bI,bO,bJ,Nat.add_zero,beq_iff_eq]
 refine⟨fun hb=>?_,fun hb s' hv=>fin aa s' hv⟩
 have h1:i<n:=aa
 have hzi:=hz i h1
 have hl:=eP (N:=B) (i:=i)
 have e1:u64.wrap (z i:Int)=(z i:Int):=cG aa aa
 have e2:u64.wrap (aE B i:Int)=(aE B i:Int):=cG aa aa
 have e3:u64.wrap ((w:Int)+(aE B i:Int))=((w+aE B i:Nat):Int):=by rw[cG aa aa];omega
 rw[e1,e2,e3]
 refine⟨aa,fun hb2=>?_,fun hb2=>?_⟩
 ·have h2:i<nl B:=aa
  obtain⟨r,w',q1,q2,q3,q4,q5⟩:=JY hzi (y:=w+aE B i) aa
  refine⟨aa,aa,aa,fun s' hv=>key (yi:=aE B i) h1 (by rw[if_pos h2]) q1 q2 q3 hv ?_ (by rw[wrap_i64 aa aa];omega) fun j=>jg ?_ j⟩
  ·rw[Ec,pY];exact q5
  ·rw[nH,pY];exact q4
 ·have h2:¬i<nl B:=aa
  obtain⟨r,w',q1,q2,q3,q4,q5⟩:=JY hzi (y:=w) aa
  refine⟨aa,aa,fun s' hv=>key (yi:=0) h1 (by rw[if_neg h2]) q1 q2 q3 hv ?_ (by rw[wrap_i64 aa aa];omega) fun j=>jg ?_ j⟩
  ·rw[Ec,pY];exact q5
  ·rw[nH,pY];exact q4
theorem Rr {r x:Nat} (hr:r<2^32) (hx:x<2^32):
  u64.wrap ((BitVec.ofInt u64.bits (u64.wrap ((r:Int)*2^min (Int.toNat 32) u64.bits))|||BitVec.ofInt u64.bits (u64.wrap (x:Int))).toNat:Int)=((r*4294967296+x:Nat):Int):=by
 rw[yz,cG (x:=(x:Int)) aa aa,cG (x:=(r:Int)*4294967296) aa aa]
 rw[show(r:Int)*4294967296=((r*2^32:Nat):Int) by omega,uV aa aa,sH hx]
theorem KW {r z b B v t vz q r':Nat} (h:v*b+r*(4294967296*B)+(vz+z*B)=t) (hq:r*4294967296+z=b*q+r'):(v+q*B)*b+r'*B+vz=t:=by
 have:(r*4294967296+z)*B=(b*q+r')*B:=by rw[hq]
 grind
abbrev DU:List Nat:=[0,1,6,7,8]
abbrev I7 (n:Nat) (z:Nat->Nat) (b K r k:Nat):List AV:=[.az 1 n (aD z),.int .u32 b,.own K 1 0 n,.int .u64 r,.int .i64 ((k:Int)-1)]
theorem abH {n b:Nat} {z:Nat->Nat} (hz:∀i,i<n->z i<2^32) (hn:n<2^40) (hb0:0<b) (hb32:b<2^32) (K:Nat) (pre:aG):
  aY P 183 K [.az 1 n (aD z),.int .u32 b] pre (aT (.tuple [.mag (val n z/b),.int .u32 (val n z%b:Nat)]) []):=by
 refine lO hT VG rfl br rfl (fun _ c h0=>?_) K pre
 refine aA.hole [1,1,1,0,1] ah (aI.bM hT iY hm 30 DU Yq ah ?_)
 simp only[af.all,aF]
 refine⟨aa,fun s' hv=>?_⟩
 refine aA.jG (i:=0) (y:=part (aJ f183) [1,1,1,0,1,0,0]) ah
  (fun p:Nat×Nat×(Nat->Nat)=>⟨aH DU (I7 n z b 7 p.2.1 p.1),[(7,⟨true,true,1,n,aD p.2.2⟩)],8⟩)
  (fun p=>p.1<=n/\p.2.1<b/\(∀j,j<n->p.2.2 j<2^32)/\(∀j,j<p.1->p.2.2 j=0)/\val n p.2.2*b+p.2.1*2^(32*p.1)+val p.1 z=val n z)
  (fun p=>p.1) (n,0,fun _=>0)
  (eC [(7,16384)] hv h0 rfl ⟨aU,aU,⟨rfl,e9 rfl rfl rfl⟩,aU,⟨rfl,iI (wrap_i64 aa aa)⟩,trivial⟩
   ⟨⟨_,_,rfl,rfl,gV rfl fun j _=>rfl⟩,trivial⟩)
  ⟨by simp,hb0,fun j _=>by simp,fun j _=>rfl,?_⟩ ?_
 ·simp only
  rw[oM (k:=0) aa fun _ _ _=>rfl]
  simp[val]
 rintro⟨k,r,o⟩ ⟨hk,hr,ho,ho0,hval⟩
 simp only at hk hr ho ho0 hval
 refine aA.bM hT cK hm 30 DU YW ah ?_
 simp only[af.all,aF,bI,bO,Nat.add_zero,beq_iff_eq]
 have hbw:u64.wrap (b:Int)=(b:Int):=cG aa aa
 refine⟨fun hb=>?_,fun hb s' hv=>?_⟩
 ·obtain⟨j,rfl⟩:∃j,k=j+1:=⟨k-1,aa⟩
  have e:(((j+1:Nat):Int)-1).toNat=j:=aa
  have hzj:=hz j aa
  have fT:=Rr (r:=r) (x:=z j) aa hzj
  rw[e,fT,hbw]
  have hq1:(r*4294967296+z j)/b<2^32:=by
   rw[Nat.div_lt_iff_lt_mul hb0]
   have:(r+1)*4294967296<=b*4294967296:=Nat.mul_le_mul_right _ hr
   omega
  have hdm:=Nat.div_add_mod (r*4294967296+z j) b
  refine⟨⟨aa,aa,aa⟩,⟨aa,⟨aa,aa⟩,aa⟩,aa,fun s' hv=>⟨(j,(r*4294967296+z j)%b,cP o j ((r*4294967296+z j)/b)),?_,⟨by simp only;omega,Nat.mod_lt _ hb0,jE hq1 ho,fun i hi=>?_,?_⟩,by simp only;omega⟩⟩
  ·refine eC [(7,7)] hv h0 rfl ⟨aU,aU,⟨rfl,e9 rfl rfl rfl⟩,⟨rfl,iI (Int.ofNat_tmod _ _).symm⟩,⟨rfl,iI ?_⟩,trivial⟩
    ⟨⟨_,_,rfl,rfl,gV rfl fun i _=>jg ?_ i⟩,trivial⟩
   ·rw[wrap_i64 aa aa];simp only;omega
   ·rw[<-Int.ofNat_tdiv]
    clear hdm
    generalize (r*4294967296+z j)/b=q at hq1 ⊢
    rw[cG aa aa,wrap_u32 aa aa]
  ·exact(g8 (by simp only at hi;omega)).trans (ho0 i (by simp only at hi;omega))
  ·simp only
   rw[tN aa (ho0 j aa)]
   rw[jn,val]at hval
   exact KW hval hdm.symm
 ·have hk0:k=0:=aa
  subst hk0
  have hv2:val n o*b+r=val n z:=by simpa [val]using hval
  refine aI.weak ah (eC (vs:=I7 n z b 7 r 0) (ps:=[(7,⟨true,true,1,n,aD o⟩)]) (nx:=8) [(7,7)] hv h0 rfl
    ⟨aU,aU,⟨rfl,e9 rfl rfl rfl⟩,aU,aU,trivial⟩
    ⟨⟨_,_,rfl,rfl,gV rfl fun j _=>rfl⟩,trivial⟩)
   (aI.fin hT iY hm 30 ad1 ah ?_)
  simp only[af.all,aF,Nat.add_zero,kX]
  have hdiv:val n z/b=val n o:=by
   rw[<-hv2,Nat.mul_comm,Nat.mul_add_div hb0,Nat.div_eq_of_lt hr,Nat.add_zero]
  have hmod:val n z%b=r:=by
   rw[<-hv2,Nat.mul_comm,Nat.mul_add_mod,Nat.mod_eq_of_lt hr]
  exact⟨⟨iJ ho,aa⟩,fo (congrArg AV.mag hdiv.symm),cu (by rw[hmod,wrap_u32 aa aa]),trivial⟩
theorem aaR {x s:Nat} (hs:s<32) (hx:x<2^32):u64.wrap (u64.wrap (x:Int)*2^min (s:Int).toNat u64.bits)=((x*2^s:Nat):Int)/\x*2^s<2^64:=by
 have e:min (s:Int).toNat u64.bits=s:=by
  have:u64.bits=64:=rfl
  omega
 have hlt:x*2^s<2^64:=by
  have h1:2^s<=2^31:=Nat.pow_le_pow_right aa aa
  have h2:x*2^s<=2^32*2^31:=Nat.mul_le_mul aa h1
  omega
 refine⟨?_,hlt⟩
 rw[e,cG (x:=(x:Int)) aa aa]
 have:(x:Int)*2^s=((x*2^s:Nat):Int):=by simp
 rw[this]
 exact cG aa aa
theorem Ky {c x s:Nat} (hs:s<32) (hx:x<2^32) (hc:c<2^s):
  u64.wrap ((BitVec.ofInt u64.bits (c:Int)|||BitVec.ofInt u64.bits (u64.wrap (u64.wrap (x:Int)*2^min (s:Int).toNat u64.bits))).toNat:Int)=((c+x*2^s:Nat):Int):=by
 obtain⟨h1,h2⟩:=aaR hs hx
 have h3:2^s<=2^31:=Nat.pow_le_pow_right aa aa
 rw[h1,uV aa h2,Nat.or_comm,sH hc,Nat.add_comm]
theorem MA {c x s:Nat} (hs:s<32) (hx:x<2^32) (hc:c<2^s):c+x*2^s<2^63/\(c+x*2^s)/4294967296<2^s:=by
 have h3:2^s<=2^31:=Nat.pow_le_pow_right aa aa
 have h4:(x+1)*2^s<=2^32*2^s:=Nat.mul_le_mul_right _ hx
 rw[Nat.add_mul,Nat.one_mul]at h4
 refine⟨aa,?_⟩
 rw[Nat.div_lt_iff_lt_mul aa]
 omega
theorem OB {B c x t v S:Nat} (h:v+c*B=t*S):v+(c+x*S)%4294967296*B+(c+x*S)/4294967296*(4294967296*B)=(t+x*B)*S:=by
 have h1:=Nat.div_add_mod (c+x*S) 4294967296
 generalize (c+x*S)/4294967296=q at*
 generalize (c+x*S)%4294967296=r at*
 have:(4294967296*q+r)*B=(c+x*S)*B:=by rw[h1]
 grind
abbrev Aa:List Nat:=[0,1,5,6,13,14,15]
abbrev LU (n s:Nat) (z:Nat->Nat) (K c i:Nat):List AV:=[.az 1 n (aD z),.int .i64 s,.own K 1 0 (n+1),.int .u64 c,.az 1 n (aD z),.int .i64 n,.int .i64 i]
theorem PN {n s:Nat} {z:Nat->Nat} (hz:∀i,i<n->z i<2^32) (hn:n<2^40) (hs:s<32) {c:Ctx} (h0:c.k0=bz) {Q:au->aL->Prop}
  (fin:∀(c':Nat) (o:Nat->Nat) (s':aL),c'<2^s->(∀j,j<n+1->o j<2^32)->val n o+c'*2^(32*n)=val n z*2^s->bp Aa s'=some (LU n s z 7 c' n,[(7,⟨true,true,1,n+1,aD o⟩)])->
   aI P c f185.ntmps (behind (aJ f185) [1,1,1,0,1]) s' Q):
  aA P c f185.ntmps (aJ f185) ⟨bf 0 [.az 1 n (aD z),.int .i64 s],[],0⟩ Q:=by
 refine aA.hole [1,1,1,0,1] ah (aI.bM hT iY hm 30 Aa abj ah ?_)
 have hw:i64.wrap ((n:Int)+1)=((n+1:Nat):Int):=by rw[wrap_i64 aa aa];omega
 simp only[af.all,aF,hw,bJ]
 refine⟨aa,fun s' hv=>?_⟩
 refine aA.jG (i:=0) (y:=part (aJ f185) [1,1,1,0,1,0,0]) ah
  (fun p:Nat×Nat×(Nat->Nat)=>⟨aH Aa (LU n s z 7 p.2.1 p.1),[(7,⟨true,true,1,n+1,aD p.2.2⟩)],8⟩)
  (fun p=>p.1<=n/\p.2.1<2^s/\(∀j,j<n+1->p.2.2 j<2^32)/\val p.1 p.2.2+p.2.1*2^(32*p.1)=val p.1 z*2^s)
  (fun p=>n-p.1) (0,0,fun _=>0)
  (eC [(7,16384)] hv h0 rfl ⟨aU,aU,⟨rfl,e9 rfl rfl rfl⟩,aU,aU,aU,aU,trivial⟩
   ⟨⟨_,_,rfl,rfl,gV rfl fun j _=>rfl⟩,trivial⟩)
  ⟨by simp,Nat.two_pow_pos s,fun j _=>by simp,by simp[val]⟩ ?_
 rintro⟨i,c',o⟩ ⟨hi,hc,ho,hval⟩
 simp only at hi hc ho hval
 refine aA.bM hT cK hm 30 Aa XA ah ?_
 simp only[af.all,aF,bI,bO,Nat.add_zero,beq_iff_eq,bJ]
 refine⟨fun hb=>?_,fun hb s' hv=>?_⟩
 ·have h1:i<n:=aa
  have hzi:=hz i h1
  have fT:=Ky hs hzi hc
  simp only[bJ]at fT
  rw[fT]
  obtain⟨b1,b2⟩:=MA hs hzi hc
  refine⟨aa,aa,aa,aa,fun s' hv=>⟨(i+1,(c'+z i*2^s)/4294967296,cP o i ((c'+z i*2^s)%4294967296)),?_,⟨by simp only;omega,b2,jE aa ho,?_⟩,by simp only;omega⟩⟩
  ·refine eC [(7,7)] hv h0 rfl ⟨aU,aU,⟨rfl,e9 rfl rfl rfl⟩,⟨rfl,iI ?_⟩,aU,aU,⟨rfl,iI ?_⟩,trivial⟩
    ⟨⟨_,_,rfl,rfl,gV rfl fun j _=>jg ?_ j⟩,trivial⟩
   ·rw[nk];simp only;omega
   ·rw[wrap_i64 aa aa];simp only;omega
   ·rw[k9]
  ·simp only
   rw[rP,jn]
   exact OB hval
 ·have hin:i=n:=aa
  subst hin
  exact fin c' o s' hc ho hval hv
theorem QX {s c' i:Nat} {o:Nat->Nat} (hs:s<32) (hc:c'<2^s):∀j,(if j=i then AV.int .u32 (u32.wrap (c':Int))else aD o j)=aD (cP o i c') j:=fun j=>jg (by
 have h3:2^s<=2^31:=Nat.pow_le_pow_right aa aa
 exact wrap_u32 aa aa) j
def ID (A n B m:Nat):en:=aT (.tuple [.mag (A-B),.int .i64 (if A<B then 7 else 0)]) [n<2^40,m<2^40]
theorem aeI:bF P (cw (jH ID)) 178:=
 cY (vj fun _ _ _ _ K hz hy need=>abY hz hy need.1 need.2 K [])
def NL (N n:Nat) (b:Int):en:=aT (.tuple [.mag (N/b.toNat),.int .u32 (N%b.toNat:Nat)]) [n<2^40,0<b,b<2^32]
theorem ael:bF P (cw (CA NL)) 183:=
 cY (SZ fun z n i K hz need=>by
  obtain⟨h1,h2,h3⟩:n<2^40/\0<i/\i<2^32:=need
  obtain⟨b,rfl⟩:=Int.eq_ofNat_of_zero_le (Int.le_of_lt h2)
  exact abH hz h1 aa aa K [])
end Go.Am.B
