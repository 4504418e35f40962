/- ref01: up, shifted, times, down. -/
import Derived.Test.YtgfjdngnneoeoaaGreatB24
set_option linter.unusedVariables false
namespace Go.Am.B
open Go Go.Am.N AV Proofs.Tryz IntKind
theorem aa0:aX 178 f178:=aM func178
theorem Tc:aX 179 f179:=aM func179
theorem WE:aX 180 f180:=aM func180
theorem aht:aX 181 f181:=aM func181
abbrev rz:List Nat:=[0,1,5,6,7]
abbrev zn (A n l c i K:Nat):List AV:=[.mag A,.int .i64 n,.own K 1 0 l,.int .u64 c,.int .i64 i]
noncomputable abbrev JV:Code:=part (aF f178) [1,1,1,0,1,0,0]
def Hh:aV:=[(146,ua),(108,vf),(106,D7)]
theorem ab8:bg P Hh:=aE vr (aE xY (aE OD bD))
theorem aa9 {A n:Nat}:aL T fu [] 60 rz (before (aF f178) [1,1,1,0,1]) ⟨aS 0 [.mag A,.int .i64 n],[],0⟩=
  let c1:Int:=i64.wrap ((↑n:Int).tdiv (32:Int));some (ag.aj [(32:Int)≠(0:Int),(0:Int)<=c1/\c1<=c1/\c1<=2^47/\c1*(↑(4:Nat):Int)<=2^47] (ag.leaf aq.normal ([mag A,int .i64 (↑n:Int),own 12288 1 0 c1.toNat,int .u64 (0:Int),int .i64 (0:Int)],[(12288,az.mk true true 1 c1.toNat fun x=>int .u32 (0:Int))]))):=ah
theorem Q8 {A n l c i:Nat} {o:Nat->Nat}:aL T fu [14] 60 rz [JV] ⟨aG rz (zn A n l c i 7),dz 7 l o,8⟩=
  let c4:Int:=(↑n:Int).tmod (32:Int);let c3:AV:=int .i64 (↑n:Int);let c2:Int:=(↑i:Int);let c1:Int:=u64.wrap (↑(BitVec.ofInt u64.bits (↑c:Int)|||BitVec.ofInt u64.bits (u64.wrap (u64.wrap (↑(aB A c2.toNat):Int)*2^min c4.toNat u64.bits))).toNat:Int);some (ag.fork (decide (c2<(↑(nl A):Int))) (ag.aj [(0:Int)<=c2/\c2.toNat<nl A,(32:Int)≠(0:Int),(0:Int)<=c4] (ag.aj [(1:Nat)*1<=2^24,(l+1)*((4:Nat)+1)*2<=2^47] (ag.aj [(0:Int)<=32] (ag.leaf aq.normal ([mag A,c3,own 77832 1 0 (l+1),int .u64 (c1.fdiv ((2:Int)^min (Int.toNat (32:Int)) u64.bits)),int .i64 (i64.wrap (c2+1))],[(77832,az.mk true true 1 (l+1) fun i=>if i<l then aA o i else nth [int .u32 (u32.wrap c1)] (int .u32 (0:Int)) (i-l+0))]))))) (ag.leaf (aq.exit 0) ([mag A,c3,own 7 1 0 l,int .u64 (↑c:Int),int .i64 c2],[(7,az.mk true true 1 l fun a=>int .u32 (↑(o a):Int))]))):=ah
theorem acq {A n l c i:Nat} {o:Nat->Nat}:cP T fu [] 60 f178 (behind (aF f178) [1,1,1,0,1]) ⟨aG rz (zn A n l c i 7),dz 7 l o,8⟩=
  let c3:AV:=int .u32 (0:Int);let c2:Nat:=l+1;let c1:AV:=int .u32 (u32.wrap (↑c:Int));some (ag.aj [(1:Nat)*1<=2^24,c2*((4:Nat)+1)*2<=2^47,eo c2 fun i=>if i+0<l then aA o (i+0)else nth [c1] c3 (i+0-l+0),c2<2^40] (ag.leaf aq.ret [mag (val c2 fun i=>numOf (if i+0<l then aA o (i+0)else nth [c1] c3 (i+0-l+0)))])):=ah
theorem Py {A n:Nat}:bF T fu [7] 60 f179 (aF f179) ⟨aS 0 [.mag A,.int .i64 n],[],0⟩=
  let c1:Int:=(↑n:Int);some (ag.fork ((↑(nl A):Int)==0) (ag.leaf aq.ret [nil]) (ag.aj [(0:Int)<=c1/\c1<=c1/\c1<=2^47/\c1*(↑(4:Nat):Int)<=2^47,(c1.toNat+nl A)*((4:Nat)+1)*2<=2^47] (ag.leaf aq.ret [ak 1 (c1.toNat+nl A) fun i=>if i+0<c1.toNat then int .u32 (0:Int)else int .u32 (↑(aB A (i+0-c1.toNat)):Int)]))):=ah
theorem SC {A b:Nat}:bF T Hh [] 60 f180 (aF f180) ⟨aS 0 [.mag A,.int .u32 b],[],0⟩=
  let c1:Int:=u64.wrap (↑b:Int);some (ag.aj [(0:Int)<=c1/\c1<2^64,nl A<2^39,nl c1.toNat<2^39] (ag.leaf aq.ret [mag (A*c1.toNat)])):=ah
abbrev nk:List Nat:=[0,1,5,6]
abbrev wP (a:Nat->Nat) (l n i K:Nat):List AV:=[.ak 1 l (aA a),.int .i64 n,.own K 1 0 l,.int .i64 i]
noncomputable abbrev Nc:Code:=part (aF f181) [1,1,1,1,0,1,0,0]
theorem SQ {A n:Nat}:aL T fu [12] 60 (nk++[4]) (before (aF f181) [1,1,1,1,0,1]) ⟨aS 0 [.mag A,.int .i64 n],[],0⟩=
  let c5:AV:=int .i64 (↑n:Int);let c3:Int:=(↑(nl A):Int);let c2:Int:=i64.wrap ((↑n:Int).tdiv (32:Int));let c1:Nat:=c3.toNat-c2.toNat;let c4:Int:=(↑c1:Int);some (ag.aj [(32:Int)≠(0:Int)] (ag.fork (decide (c2>=c3)) (ag.leaf aq.ret ([mag A,c5,tuple [],tuple [],nil],[])) (ag.aj [(32:Int)≠(0:Int),(0:Int)<=c2/\c2<=c3/\c3<=c3/\c3<=c3] (ag.aj [(0:Int)<=c4/\c4<=c4/\c4<=2^47/\c4*(↑(4:Nat):Int)<=2^47] (ag.leaf aq.normal ([ak 1 c1 fun i=>int .u32 (↑(aB A (i+c2.toNat)):Int),c5,own 53248 1 0 c4.toNat,int .i64 (0:Int),nil],[(53248,az.mk true true 1 c4.toNat fun x=>int .u32 (0:Int))])))))):=ah
theorem OS {n l i:Nat} {a o:Nat->Nat}:aL T fu [23,35] 60 nk [Nc] ⟨aG nk (wP a l n i 7),dz 7 l o,8⟩=
  let c13:Int:=(↑l:Int);let c12:Int:=(↑n:Int).tmod (32:Int);let c11:AV:=int .i64 (↑n:Int);let c9:AV:=own 7 1 0 l;let c8:Int:=(↑i:Int);let c6:AV:=ak 1 l fun a_1=>int .u32 (↑(a a_1):Int);let c5:Int:=(2:Int)^min c12.toNat u64.bits;let c4:Nat:=c8.toNat;let c1:Int:=i64.wrap (c8+1);let c10:Int:=u64.wrap (↑(a c4):Int);let c7:Nat:=c4+0;let c2:List AV:=[c6,c11,c9,int .i64 c1];let c3:List Prop:=[(32:Int)≠(0:Int),(0:Int)<=c12,(0:Int)<=c8/\c4<l,c7<l];some (ag.fork (decide (c8<c13)) (ag.aj [(0:Int)<=c8/\c4<l] (ag.fork (decide (c1<c13)) (ag.aj [(0:Int)<=c1/\c1.toNat<l,(0:Int)<=32] (ag.aj c3 (ag.leaf aq.normal (c2,[(7,az.mk true true 1 l fun j=>if(j==c7)=true then int .u32 (u32.wrap ((u64.wrap (↑(BitVec.ofInt u64.bits c10|||BitVec.ofInt u64.bits (u64.wrap (u64.wrap (↑(a c1.toNat):Int)*2^min (Int.toNat (32:Int)) u64.bits))).toNat:Int)).fdiv c5))else aA o j)])))) (ag.aj c3 (ag.leaf aq.normal (c2,[(7,az.mk true true 1 l fun j=>if(j==c7)=true then int .u32 (u32.wrap (c10.fdiv c5))else aA o j)]))))) (ag.leaf (aq.exit 0) ([c6,c11,c9,int .i64 c8],[(7,az.mk true true 1 l fun a=>int .u32 (↑(o a):Int))]))):=ah
theorem VR {n l i:Nat} {a o:Nat->Nat}:cP T fu [] 60 f181 (behind (aF f181) [1,1,1,1,0,1]) ⟨aG nk (wP a l n i 7),dz 7 l o,8⟩=
  some (ag.aj [eo l fun i=>aA o (i+0),l<2^40] (ag.leaf aq.ret [mag (val l fun i=>numOf (aA o (i+0)))])):=ah
theorem yR {c:Ctx} (h0:∀nx k x,c.k0 k=some x->k<nx):c.k0=bt:=by
 funext k
 cases hk:c.k0 k with
 |none=>rfl
 |some x=>have:=h0 0 k x hk;omega
theorem OH {o:Nat->Nat} {l:Nat} {v:Int} {x:Nat} (hv:v=(x:Nat)) {j:Nat} (hj:j<l+1):(if j<l then aA o j else nth [.int .u32 v] (.int .u32 0) (j-l))=aA (cE o l x) j:=by
 by_cases h:j<l
 ·rw[if_pos h];unfold aA;rw[fS aa]
 ·have:j=l:=aa
  subst this
  rw[if_neg h,hv]
  simp[nth,aA,kB]
theorem R3 {A n:Nat} (hA:nl A<2^39) (hn:n<2^43) (K:Nat):aN P 178 K [.mag A,.int .i64 n] [] (aH (.mag (A*2^n)) []):=by
 refine jq hT aa0 rfl aW rfl (fun _ c0 h0=>?_) K []
 have hk0:=yR h0
 refine ay.hole [1,1,1,0,1] ah (aI.bH hT fy hm 60 rz aa9 ah ?_)
 have hw:i64.wrap ((n:Int).tdiv 32)=((n/32:Nat):Int):=by
  rw[show(n:Int).tdiv 32=((n/32:Nat):Int)from(Int.ofNat_tdiv n 32).symm]
  exact fe rfl aa
 have hmd:(n:Int).tmod 32=((n%32:Nat):Int):=(Int.ofNat_tmod n 32).symm
 rw[hw]
 obtain⟨k,hk⟩:∃k,k=n/32:=⟨_,rfl⟩
 obtain⟨s,hs⟩:∃s,s=n%32:=⟨_,rfl⟩
 rw[<-hs]at hmd
 rw[<-hk]
 simp only[ag.all,au,br]
 refine⟨aa,fun s' hv=>cL ?_⟩
 refine ay.ji (i:=0) (y:=JV) ah (fun p:Nat×Nat×(Nat->Nat)=>⟨aG rz (zn A n (k+p.1) p.2.1 p.1 7),dz 7 (k+p.1) p.2.2,8⟩)
  (fun p=>p.1<=nl A/\p.2.1<2^s/\(∀j,j<k+p.1->p.2.2 j<2^32)/\val (k+p.1) p.2.2+p.2.1*2^(32*(k+p.1))=val p.1 (aB A)*2^(32*k)*2^s)
  (fun p=>nl A-p.1) (0,0,fun _=>0)
  (dI [(7,12288)] hv hk0 rfl ⟨aP,aP,⟨rfl,dx rfl rfl rfl⟩,aP,aP,trivial⟩ ⟨⟨_,_,rfl,rfl,fP rfl fun j _=>rfl⟩,trivial⟩)
  ⟨by simp,Nat.two_pow_pos s,fun _ _=>by simp,?_⟩ ?_
 ·simp only
  rw[val_zero fun _ _=>rfl]
  simp[val]
 rintro⟨i,c,o⟩ ⟨hi,hc,ho,hval⟩
 simp only at hi hc ho hval
 have hs32:s<32:=aa
 have h31:2^s<=2^31:=Nat.pow_le_pow_right aa aa
 have hzi:=dS (N:=A) (i:=i)
 refine ay.bH hT fy hm 60 rz Q8 ah ?_
 rw[hmd]
 have hor:=Gb hs32 hzi hc
 obtain⟨b1,b2⟩:=Ie hs32 hzi hc
 simp only[ag.all,au,bz,bG,br,Nat.add_zero]at hor ⊢
 rw[hor]
 refine⟨fun hb=>⟨⟨aa,aa,aa⟩,⟨aa,aa⟩,aa,fun s' hv=>⟨(i+1,(c+aB A i*2^s)/4294967296,cE o (k+i) ((c+aB A i*2^s)%4294967296)),?_,⟨by simp only;omega,b2,fun j hj=>?_,?_⟩,by simp only;omega⟩⟩,fun hb s' hv=>fK ?_⟩
 ·refine dI (vs:=zn A n (k+(i+1)) ((c+aB A i*2^s)/4294967296) (i+1) 7) (ps:=dz 7 (k+(i+1)) (cE o (k+i) ((c+aB A i*2^s)%4294967296))) [(7,77832)] hv hk0 rfl ⟨aP,aP,⟨rfl,dx rfl rfl rfl⟩,⟨rfl,gF ?_⟩,⟨rfl,gF ?_⟩,trivial⟩
   ⟨⟨_,_,rfl,rfl,fP rfl fun j hj=>OH (by rw[jP]) aa⟩,trivial⟩
  ·rw[lW];omega
  ·rw[wrap_i64 aa aa];omega
 ·simp only at hj ⊢
  unfold cE
  split
  ·omega
  ·exact ho j aa
 ·simp only
  have:=Mz (x:=aB A i) hval
  rw[show k+(i+1)=(k+i)+1 by omega,rN,iB,this,val]
  congr 1
  rw[Nat.add_mul,Nat.mul_assoc,<-Nat.pow_add,show 32*i+32*k=32*(k+i) by omega]
 ·have hin:i=nl A:=aa
  show aI P c0 f178.ntmps (behind (aF f178) [1,1,1,0,1]) s' _
  refine aI.kA hT fy hm 60 hv (h0 _) rfl (ij aa) acq ah ah ?_
  simp only[ag.all,au,Nat.add_zero]
  have ho':∀j,j<k+i+1->cE o (k+i) c j<2^32:=fun j hj=>by
   unfold cE
   split
   ·omega
   ·exact ho j aa
  have e:∀j,j<k+i+1->(if j<k+i then aA o j else nth [.int .u32 (u32.wrap (c:Int))] (.int .u32 0) (j-(k+i)))=aA (cE o (k+i) c) j:=fun j hj=>OH (wrap_u32 aa aa) hj
  refine⟨⟨aa,aa,fun j hj=>?_,aa⟩,dX (congrArg AV.mag ?_)⟩
  ·exact⟨_,ho' j hj,e j hj⟩
  ·rw[val_congr (y:=cE o (k+i) c) fun j hj=>(congrArg numOf (e j hj)).trans Bw,rN,hval,hin,gq,Nat.mul_assoc,<-Nat.pow_add]
   congr 2
   omega
def GZ:Spec:=bX fun l=>match l with
 |[a,.int .i64 n]=>match jr a with
  |some A=>some (aH (.mag (A*2^n.toNat)) [nl A<2^39,0<=n,n<2^43])
  |none=>none
 |_=>none
theorem BW {f:FuncId} {g:Nat->Int->AV} {l:Nat->List Prop} {m:Int} (h:∀{A n:Nat},au (l A)->(n:Int)<m->∀K,aN P f K [.mag A,.int .i64 n] [] (aH (g A n) [])):∀K args pre r,bX (fun a=>match a with
 |[a,.int .i64 n]=>match jr a with
  |some A=>some (aH (g A n) (l A++[0<=n,n<m]))
  |none=>none
 |_=>none) K args pre=some r->aN P f K args pre r:=by
 refine cM fun K args r hk hs _=>?_
 split at hs
 ·split at hs
  ·rename_i A hA
   simp only[ax]at hs
   subst hs
   intro need
   obtain⟨h1,h2,h3⟩:=dN.1 need
   rename_i n _
   obtain⟨n,rfl⟩:=Int.eq_ofNat_of_zero_le h2
   exact eR (h h1 h3 K) hk ⟨lJ hA,.refl _,trivial⟩ [] trivial
  ·simp at hs
 ·simp at hs
theorem adm:bf P GZ 178:=
 BW (g:=fun A n=>.mag (A*2^n.toNat)) (l:=fun A=>[nl A<2^39]) (m:=2^43) fun {A n} h hn K=>by
  have:=R3 (A:=A) (n:=n) h aa K
  simpa using this
theorem aeP {A n:Nat} (hA:nl A<2^40) (hn:n<2^40) (K:Nat):aN P 179 K [.mag A,.int .i64 n] [] (aH (.mag (A*2^(32*n))) []):=by
 refine bM hT fy hm Tc rfl aW rfl 60 Py (fun _=>?_) K []
 simp only[ag.all,au,beq_iff_eq,beq_eq_false_iff_ne,ne_eq,br,Nat.add_zero]
 refine⟨fun hb=>?_,fun hb=>⟨⟨aa,aa⟩,?_⟩⟩
 ·have:A=0:=j9.1 aa
  subst this
  rw[Nat.zero_mul];exact kO
 ·have hA0:A≠0:=fun h=>hb (by rw[h];rfl)
  have hlt:A*2^(32*n)<2^(32*(n+nl A)):=by
   rw[show 32*(n+nl A)=32*nl A+32*n by omega,Nat.pow_add]
   exact(Nat.mul_lt_mul_right (Nat.two_pow_pos _)).2 nj
  have hval:A*2^(32*n)=val (n+nl A) (fun i=>if i<n then 0 else aB A (i-n)):=by
   rw[val_add,val_zero fun i hi=>if_pos hi,Nat.zero_add]
   congr 1
   have:=gq (N:=A)
   conv=>lhs;rw[<-this]
   exact val_congr fun i hi=>by rw[if_neg aa];congr 1;omega
  have hz:∀i,i<n+nl A->(if i<n then 0 else aB A (i-n))<2^32:=fun i _=>by
   split
   ·omega
   ·exact dS
  refine lz ?_ fun i hi=>?_
  ·rw[hval]
   refine Aa hz (.inr ?_)
   have hp:=gE.2 hA0
   rw[if_neg aa,show n+nl A-1-n=nl A-1 by omega]
   exact BO hA0
  ·rw[hval,o5 hz hi]
   split<;>rfl
def Mi:Spec:=bX fun l=>match l with
 |[a,.int .i64 n]=>match jr a with
  |some A=>some (aH (.mag (A*2^(32*n.toNat))) [nl A<2^40,0<=n,n<2^40])
  |none=>none
 |_=>none
theorem ae1:bf P Mi 179:=
 BW (g:=fun A n=>.mag (A*2^(32*n.toNat))) (l:=fun A=>[nl A<2^40]) (m:=2^40) fun {A n} h hn K=>by
  have:=aeP (A:=A) (n:=n) h aa K
  simpa using this
theorem PC {A b:Nat} (hA:nl A<2^39) (hb:b<2^32) (K:Nat):aN P 180 K [.mag A,.int .u32 b] [] (aH (.mag (A*b)) []):=by
 refine bM hT ab8 hm WE rfl aW rfl 60 SC (fun _=>?_) K []
 have e:u64.wrap (b:Int)=(b:Int):=cw aa aa
 rw[e]
 simp only[ag.all,au,br]
 have:nl b<=1:=dL.2 aa
 exact⟨⟨aa,hA,aa⟩,.refl _⟩
def JG:Spec:=bX fun l=>match l with
 |[a,.int .u32 b]=>match jr a with
  |some A=>some (aH (.mag (A*b.toNat)) [nl A<2^39,0<=b,b<2^32])
  |none=>none
 |_=>none
theorem S2:bf P JG 180:=by
 refine cM fun K args r hk hs _=>?_
 split at hs
 ·rename_i a b
  split at hs
  ·rename_i A hA
   simp only[ax]at hs
   subst hs
   intro need
   obtain⟨h1,h2,h3⟩:nl A<2^39/\0<=b/\b<2^32:=need
   obtain⟨b,rfl⟩:=Int.eq_ofNat_of_zero_le h2
   exact eR (PC h1 aa K) hk ⟨lJ hA,.refl _,trivial⟩ [] trivial
  ·simp at hs
 ·simp at hs
theorem XI {A k i:Nat}:aB A (i+k)=aB (A/2^(32*k)) i:=by
 unfold aB
 rw[Nat.div_div_eq_div_mul,<-Nat.pow_add]
 congr 3
 omega
theorem adx {a b s:Nat} (ha:a<2^32) (hb:b<2^32) (hs:s<32):(b*4294967296+a)/2^s%4294967296=a/2^s+b%2^s*2^(32-s):=by
 have:=wz (R:=b*4294967296+a) (k:=0) hs
 have l0:aB (b*4294967296+a) 0=a:=by unfold aB;simp;omega
 have l1:aB (b*4294967296+a) (0+1)=b:=by unfold aB;simp;omega
 rw[l0,l1]at this
 rw[<-this]
 unfold aB
 simp
theorem Sq {A n:Nat} (hA:nl A<2^40) (hn:n<2^62) (K:Nat):aN P 181 K [.mag A,.int .i64 n] [] (aH (.mag (A/2^n)) []):=by
 refine jq hT aht rfl aW rfl (fun _ c0 h0=>?_) K []
 have hk0:=yR h0
 refine ay.hole [1,1,1,1,0,1] ah (aI.bH hT fy hm 60 (nk++[4]) SQ ah ?_)
 have hw:i64.wrap ((n:Int).tdiv 32)=((n/32:Nat):Int):=by
  rw[show(n:Int).tdiv 32=((n/32:Nat):Int)from(Int.ofNat_tdiv n 32).symm]
  exact fe rfl aa
 have hmd:(n:Int).tmod 32=((n%32:Nat):Int):=(Int.ofNat_tmod n 32).symm
 rw[hw]
 obtain⟨k,hk⟩:∃k,k=n/32:=⟨_,rfl⟩
 obtain⟨s,hs⟩:∃s,s=n%32:=⟨_,rfl⟩
 rw[<-hs]at hmd
 rw[<-hk]
 have hnk:2^n=2^(32*k)*2^s:=by rw[<-Nat.pow_add];congr 1;omega
 simp only[ag.all,au,bz,bG,br]
 refine⟨aa,fun hb s' hv=>fI (.inl ?_),fun hb=>⟨⟨aa,aa⟩,aa,fun s' hv=>cL ?_⟩⟩
 ·refine gU (us:=[.nil]) (.inr rfl) hv ah ?_
  have:A/2^n=0:=by
   rw[hnk,<-Nat.div_div_eq_div_mul,Nat.div_eq_of_lt (dL.1 (show nl A<=k by omega)),Nat.zero_div]
  rw[this];exact kO
 have hkA:k<nl A:=aa
 have hv:=jI (ls:=nk) (l:=[4]) (vs:=[.ak 1 (nl A-k) fun i=>.int .u32 (aB A (i+k):Nat),.int .i64 n,.own 53248 1 0 (nl A-k),.int .i64 0]) hv rfl rfl
 obtain⟨R,hR⟩:∃R,R=A/2^(32*k):=⟨_,rfl⟩
 obtain⟨l,hl⟩:∃l,l=nl A-k:=⟨_,rfl⟩
 have hRl:R<2^(32*l):=by
  rw[hR,Nat.div_lt_iff_lt_mul (Nat.two_pow_pos _),<-Nat.pow_add,<-Nat.mul_add]
  exact dL.1 (show nl A<=l+k by omega)
 have hfun:(fun i=>AV.int .u32 (aB A (i+k):Nat))=aA (aB R):=by
  funext i;unfold aA;rw[XI,hR]
 rw[hfun,<-hl]at hv
 refine ay.ji (i:=0) (y:=Nc) ah (fun p:Nat×(Nat->Nat)=>⟨aG nk (wP (aB R) l n p.1 7),dz 7 l p.2,8⟩)
  (fun p=>p.1<=l/\∀j,j<p.1->p.2 j=aB (R/2^s) j)
  (fun p=>l-p.1) (0,fun _=>0)
  (dI [(7,53248)] hv hk0 rfl ⟨aP,aP,⟨rfl,dx rfl rfl rfl⟩,aP,trivial⟩ ⟨⟨_,_,rfl,rfl,fP rfl fun j _=>rfl⟩,trivial⟩)
  ⟨by simp,fun j hj=>by simp only at hj;omega⟩ ?_
 rintro⟨i,o⟩ ⟨hi,ho⟩
 simp only at hi ho
 have hs32:s<32:=aa
 have ha:=dS (N:=R) (i:=i)
 have hb':=dS (N:=R) (i:=i+1)
 refine ay.bH hT fy hm 60 nk OS ah ?_
 have w1:i64.wrap ((i:Int)+1)=if i<l then((i+1:Nat):Int)else i64.wrap ((i:Int)+1):=by
  split
  ·exact fe aa aa
  ·rfl
 simp only[ag.all,au,bz,bG,br,Nat.add_zero,beq_iff_eq]
 have next:∀{s':aK} {v:Int},i<l->v=((aB (R/2^s) i:Nat):Int)->bB nk s'=some (wP (aB R) l n (i+1) 7,[(7,⟨true,true,1,l,fun j=>if j=i then .int .u32 v else aA o j⟩)])->
   ∃p:Nat×(Nat->Nat),(∃ρ,Le c0 ρ s' ⟨aG nk (wP (aB R) l n p.1 7),dz 7 l p.2,8⟩)/\(p.1<=l/\∀j,j<p.1->p.2 j=aB (R/2^s) j)/\l-p.1<l-i:=by
  intro s' v hil hv1 hv
  refine⟨(i+1,cE o i (aB (R/2^s) i)),nQ (ee hv rfl ?_) (h0 _) rfl (ij aa),⟨by simp only;omega,fun j hj=>?_⟩,by simp only;omega⟩
  ·simp only[dz]
   congr 3
   funext j
   exact hU hv1 j
  ·simp only at hj ⊢
   unfold cE
   split
   ·rename_i h;rw[h]
   ·exact ho j aa
 refine⟨fun hb=>?_,fun hb s' hv=>fK ?_⟩
 ·have hil:i<l:=aa
  rw[if_pos hil]at w1
  rw[w1,hmd]
  have hf:∀x:Nat,(x:Int).fdiv (2^min ((s:Int).toNat) u64.bits)=((x/2^s:Nat):Int):=fun x=>by
   have:min ((s:Int).toNat) u64.bits=s:=by
    have:u64.bits=64:=rfl
    omega
   rw[this,Int.fdiv_eq_ediv_of_nonneg _ (by exact Int.le_of_lt (Int.pow_pos (by decide)))]
   simp
  have wa:u64.wrap (aB R i:Int)=((aB R i:Nat):Int):=cw aa aa
  have hor:u64.wrap ((BitVec.ofInt u64.bits (u64.wrap (aB R i:Int))|||BitVec.ofInt u64.bits (u64.wrap (u64.wrap (aB R (i+1):Int)*2^min (Int.toNat 32) u64.bits))).toNat:Int)=((aB R (i+1)*4294967296+aB R i:Nat):Int):=by
   rw[BitVec.or_comm,cw (x:=(aB R (i+1):Int)) aa aa]
   exact sL hb' ha
  simp only[br]
  refine⟨aa,fun h1=>⟨⟨aa,aa⟩,⟨aa,aa,aa,aa⟩,fun s' hv=>next hil ?_ hv⟩,fun h1=>⟨⟨aa,aa,aa,aa⟩,fun s' hv=>next hil ?_ hv⟩⟩
  ·rw[hor]
   have:=hf (aB R (i+1)*4294967296+aB R i)
   simp only[br]at this
   rw[this,jP,adx ha hb' hs32,wz hs32]
  ·rw[wa]
   have:=hf (aB R i)
   simp only[br]at this
   have hd:=Nat.div_le_self (aB R i) (2^s)
   rw[this,jP,wz hs32,jD (A:=R) (i:=i+1) (dL.2 (Nat.lt_of_lt_of_le hRl (Nat.pow_le_pow_right aa aa))),Nat.zero_mod,Nat.zero_mul,Nat.add_zero,Nat.mod_eq_of_lt aa]
 ·have hil:i=l:=aa
  show aI P c0 f181.ntmps (behind (aF f181) [1,1,1,1,0,1]) s' _
  refine aI.kA hT fy hm 60 hv (h0 _) rfl (ij aa) VR ah ah ?_
  simp only[ag.all,au,Nat.add_zero,jO]
  refine⟨⟨gD fun j hj=>?_,aa⟩,dX (congrArg AV.mag ?_)⟩
  ·rw[ho j aa];exact dS
  ·rw[val_congr (y:=aB (R/2^s)) fun j hj=>ho j aa,pU (Nat.lt_of_le_of_lt (Nat.div_le_self _ _) hRl),hR,hnk,Nat.div_div_eq_div_mul]
def Jk:Spec:=bX fun l=>match l with
 |[a,.int .i64 n]=>match jr a with
  |some A=>some (aH (.mag (A/2^n.toNat)) [nl A<2^40,0<=n,n<2^62])
  |none=>none
 |_=>none
theorem ags:bf P Jk 181:=
 BW (g:=fun A n=>.mag (A/2^n.toNat)) (l:=fun A=>[nl A<2^40]) (m:=2^62) fun {A n} h hn K=>by
  have:=Sq (A:=A) (n:=n) h aa K
  simpa using this
end Go.Am.B
