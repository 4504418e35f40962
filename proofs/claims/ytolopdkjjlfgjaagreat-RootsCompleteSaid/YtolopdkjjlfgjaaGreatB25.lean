/- ref01: up, shifted, times, down. -/
import Derived.Test.YtolopdkjjlfgjaaGreatB24
set_option linter.unusedVariables false
namespace Go.Am.B
open Go Go.Am.N AV Proofs.Tryz IntKind
theorem T9:bu 188 f188:=bz func188
theorem abg:bu 189 f189:=bz func189
theorem Xj:bu 190 f190:=bz func190
theorem Si:bu 191 f191:=bz func191
abbrev qX:List Nat:=[0,1,5,6,7]
abbrev BJ (A n l c i K:Nat):List AV:=[.mag A,.int .i64 n,.own K 1 0 l,.int .u64 c,.int .i64 i]
noncomputable abbrev NR:Code:=part (aG f188) [1,1,1,0,1,0,0]
def NK:bB:=[(140,uS),(138,vO),(85,Dl)]
theorem S7:bT P NK:=aN w8 (aN BE (aN Oa ct))
theorem R9 {A n:Nat}:aH T fJ [] 60 qX (before (aG f188) [1,1,1,0,1]) ⟨aV 0 [.mag A,.int .i64 n],[],0⟩=
  let c1:Int:=i64.wrap ((↑n:Int).tdiv (32:Int));some (af.aj [(32:Int)≠(0:Int),(0:Int)<=c1/\c1<=c1/\c1<=2^47/\c1*(↑(4:Nat):Int)<=2^47] (af.leaf ak.normal ([mag A,int .i64 (↑n:Int),own 12288 1 0 c1.toNat,int .u64 (0:Int),int .i64 (0:Int)],[(12288,ay.mk true true 1 c1.toNat fun x=>int .u32 (0:Int))]))):=ag
theorem Z8 {A n l c i:Nat} {o:Nat->Nat}:aH T fJ [14] 60 qX [NR] ⟨aE qX (BJ A n l c i 7),dQ 7 l o,8⟩=
  let c4:Int:=(↑n:Int).tmod (32:Int);let c3:AV:=int .i64 (↑n:Int);let c2:Int:=(↑i:Int);let c1:Int:=u64.wrap (↑(BitVec.ofInt u64.bits (↑c:Int)|||BitVec.ofInt u64.bits (u64.wrap (u64.wrap (↑(aB A c2.toNat):Int)*2^min c4.toNat u64.bits))).toNat:Int);some (af.fork (decide (c2<(↑(nl A):Int))) (af.aj [(0:Int)<=c2/\c2.toNat<nl A,(32:Int)≠(0:Int),(0:Int)<=c4] (af.aj [(1:Nat)*1<=2^24,(l+1)*((4:Nat)+1)*2<=2^47] (af.aj [(0:Int)<=32] (af.leaf ak.normal ([mag A,c3,own 77832 1 0 (l+1),int .u64 (c1.fdiv ((2:Int)^min (Int.toNat (32:Int)) u64.bits)),int .i64 (i64.wrap (c2+1))],[(77832,ay.mk true true 1 (l+1) fun i=>if i<l then az o i else nth [int .u32 (u32.wrap c1)] (int .u32 (0:Int)) (i-l+0))]))))) (af.leaf (ak.exit 0) ([mag A,c3,own 7 1 0 l,int .u64 (↑c:Int),int .i64 c2],[(7,ay.mk true true 1 l fun a=>int .u32 (↑(o a):Int))]))):=ag
theorem UQ {A n l c i:Nat} {o:Nat->Nat}:dA T fJ [] 60 f188 (behind (aG f188) [1,1,1,0,1]) ⟨aE qX (BJ A n l c i 7),dQ 7 l o,8⟩=
  let c3:AV:=int .u32 (0:Int);let c2:Nat:=l+1;let c1:AV:=int .u32 (u32.wrap (↑c:Int));some (af.aj [(1:Nat)*1<=2^24,c2*((4:Nat)+1)*2<=2^47,eP c2 fun i=>if i+0<l then az o (i+0)else nth [c1] c3 (i+0-l+0),c2<2^40] (af.leaf ak.ret [mag (val c2 fun i=>numOf (if i+0<l then az o (i+0)else nth [c1] c3 (i+0-l+0)))])):=ag
theorem VK {A n:Nat}:cq T fJ [7] 60 f189 (aG f189) ⟨aV 0 [.mag A,.int .i64 n],[],0⟩=
  let c1:Int:=(↑n:Int);some (af.fork ((↑(nl A):Int)==0) (af.leaf ak.ret [nil]) (af.aj [(0:Int)<=c1/\c1<=c1/\c1<=2^47/\c1*(↑(4:Nat):Int)<=2^47,(c1.toNat+nl A)*((4:Nat)+1)*2<=2^47] (af.leaf ak.ret [aq 1 (c1.toNat+nl A) fun i=>if i+0<c1.toNat then int .u32 (0:Int)else int .u32 (↑(aB A (i+0-c1.toNat)):Int)]))):=ag
theorem VV {A b:Nat}:cq T NK [] 60 f190 (aG f190) ⟨aV 0 [.mag A,.int .u32 b],[],0⟩=
  let c1:Int:=u64.wrap (↑b:Int);some (af.aj [(0:Int)<=c1/\c1<2^64,nl A<2^39,nl c1.toNat<2^39] (af.leaf ak.ret [mag (A*c1.toNat)])):=ag
abbrev nJ:List Nat:=[0,1,5,6]
abbrev vI (a:Nat->Nat) (l n i K:Nat):List AV:=[.aq 1 l (az a),.int .i64 n,.own K 1 0 l,.int .i64 i]
noncomputable abbrev LB:Code:=part (aG f191) [1,1,1,1,0,1,0,0]
theorem YE {A n:Nat}:aH T fJ [12] 60 (nJ++[4]) (before (aG f191) [1,1,1,1,0,1]) ⟨aV 0 [.mag A,.int .i64 n],[],0⟩=
  let c5:AV:=int .i64 (↑n:Int);let c3:Int:=(↑(nl A):Int);let c2:Int:=i64.wrap ((↑n:Int).tdiv (32:Int));let c1:Nat:=c3.toNat-c2.toNat;let c4:Int:=(↑c1:Int);some (af.aj [(32:Int)≠(0:Int)] (af.fork (decide (c2>=c3)) (af.leaf ak.ret ([mag A,c5,tuple [],tuple [],nil],[])) (af.aj [(32:Int)≠(0:Int),(0:Int)<=c2/\c2<=c3/\c3<=c3/\c3<=c3] (af.aj [(0:Int)<=c4/\c4<=c4/\c4<=2^47/\c4*(↑(4:Nat):Int)<=2^47] (af.leaf ak.normal ([aq 1 c1 fun i=>int .u32 (↑(aB A (i+c2.toNat)):Int),c5,own 53248 1 0 c4.toNat,int .i64 (0:Int),nil],[(53248,ay.mk true true 1 c4.toNat fun x=>int .u32 (0:Int))])))))):=ag
theorem XN {n l i:Nat} {a o:Nat->Nat}:aH T fJ [23,35] 60 nJ [LB] ⟨aE nJ (vI a l n i 7),dQ 7 l o,8⟩=
  let c13:Int:=(↑l:Int);let c12:Int:=(↑n:Int).tmod (32:Int);let c11:AV:=int .i64 (↑n:Int);let c9:AV:=own 7 1 0 l;let c8:Int:=(↑i:Int);let c6:AV:=aq 1 l fun a_1=>int .u32 (↑(a a_1):Int);let c5:Int:=(2:Int)^min c12.toNat u64.bits;let c4:Nat:=c8.toNat;let c1:Int:=i64.wrap (c8+1);let c10:Int:=u64.wrap (↑(a c4):Int);let c7:Nat:=c4+0;let c2:List AV:=[c6,c11,c9,int .i64 c1];let c3:List Prop:=[(32:Int)≠(0:Int),(0:Int)<=c12,(0:Int)<=c8/\c4<l,c7<l];some (af.fork (decide (c8<c13)) (af.aj [(0:Int)<=c8/\c4<l] (af.fork (decide (c1<c13)) (af.aj [(0:Int)<=c1/\c1.toNat<l,(0:Int)<=32] (af.aj c3 (af.leaf ak.normal (c2,[(7,ay.mk true true 1 l fun j=>if(j==c7)=true then int .u32 (u32.wrap ((u64.wrap (↑(BitVec.ofInt u64.bits c10|||BitVec.ofInt u64.bits (u64.wrap (u64.wrap (↑(a c1.toNat):Int)*2^min (Int.toNat (32:Int)) u64.bits))).toNat:Int)).fdiv c5))else az o j)])))) (af.aj c3 (af.leaf ak.normal (c2,[(7,ay.mk true true 1 l fun j=>if(j==c7)=true then int .u32 (u32.wrap (c10.fdiv c5))else az o j)]))))) (af.leaf (ak.exit 0) ([c6,c11,c9,int .i64 c8],[(7,ay.mk true true 1 l fun a=>int .u32 (↑(o a):Int))]))):=ag
theorem U3 {n l i:Nat} {a o:Nat->Nat}:dA T fJ [] 60 f191 (behind (aG f191) [1,1,1,1,0,1]) ⟨aE nJ (vI a l n i 7),dQ 7 l o,8⟩=
  some (af.aj [eP l fun i=>az o (i+0),l<2^40] (af.leaf ak.ret [mag (val l fun i=>numOf (az o (i+0)))])):=ag
theorem y9 {c:Ctx} (h0:∀nx k x,c.k0 k=some x->k<nx):c.k0=br:=by
 funext k
 cases hk:c.k0 k with
 |none=>rfl
 |some x=>have:=h0 0 k x hk;omega
theorem KD {o:Nat->Nat} {l:Nat} {v:Int} {x:Nat} (hv:v=(x:Nat)) {j:Nat} (hj:j<l+1):(if j<l then az o j else nth [.int .u32 v] (.int .u32 0) (j-l))=az (cH o l x) j:=by
 by_cases h:j<l
 ·rw[if_pos h];unfold az;rw[gC aa]
 ·have:j=l:=aa
  subst this
  rw[if_neg h,hv]
  simp[nth,az,kE]
theorem UW {A n:Nat} (hA:nl A<2^39) (hn:n<2^43) (K:Nat):aQ P 188 K [.mag A,.int .i64 n] [] (aM (.mag (A*2^n)) []):=by
 refine iI hT T9 rfl bp rfl (fun _ c0 h0=>?_) K []
 have hk0:=y9 h0
 refine au.hole [1,1,1,0,1] ag (aF.bJ hT fR hm 60 qX R9 ag ?_)
 have hw:i64.wrap ((n:Int).tdiv 32)=((n/32:Nat):Int):=by
  rw[show(n:Int).tdiv 32=((n/32:Nat):Int)from(Int.ofNat_tdiv n 32).symm]
  exact fD rfl aa
 have hmd:(n:Int).tmod 32=((n%32:Nat):Int):=(Int.ofNat_tmod n 32).symm
 rw[hw]
 obtain⟨k,hk⟩:∃k,k=n/32:=⟨_,rfl⟩
 obtain⟨s,hs⟩:∃s,s=n%32:=⟨_,rfl⟩
 rw[<-hs]at hmd
 rw[<-hk]
 simp only[af.all,aA,bE]
 refine⟨aa,fun s' hv=>cM ?_⟩
 refine au.jh (i:=0) (y:=NR) ag (fun p:Nat×Nat×(Nat->Nat)=>⟨aE qX (BJ A n (k+p.1) p.2.1 p.1 7),dQ 7 (k+p.1) p.2.2,8⟩)
  (fun p=>p.1<=nl A/\p.2.1<2^s/\(∀j,j<k+p.1->p.2.2 j<2^32)/\val (k+p.1) p.2.2+p.2.1*2^(32*(k+p.1))=val p.1 (aB A)*2^(32*k)*2^s)
  (fun p=>nl A-p.1) (0,0,fun _=>0)
  (dZ [(7,12288)] hv hk0 rfl ⟨aO,aO,⟨rfl,en rfl rfl rfl⟩,aO,aO,trivial⟩ ⟨⟨_,_,rfl,rfl,gq rfl fun j _=>rfl⟩,trivial⟩)
  ⟨by simp,Nat.two_pow_pos s,fun _ _=>by simp,?_⟩ ?_
 ·simp only
  rw[val_zero fun _ _=>rfl]
  simp[val]
 rintro⟨i,c,o⟩ ⟨hi,hc,ho,hval⟩
 simp only at hi hc ho hval
 have hs32:s<32:=aa
 have h31:2^s<=2^31:=Nat.pow_le_pow_right aa aa
 have hzi:=eA (N:=A) (i:=i)
 refine au.bJ hT fR hm 60 qX Z8 ag ?_
 rw[hmd]
 have fC:=Kq hs32 hzi hc
 obtain⟨b1,b2⟩:=Ge hs32 hzi hc
 simp only[af.all,aA,bK,bO,bE,Nat.add_zero]at fC ⊢
 rw[fC]
 refine⟨fun hb=>⟨⟨aa,aa,aa⟩,⟨aa,aa⟩,aa,fun s' hv=>⟨(i+1,(c+aB A i*2^s)/4294967296,cH o (k+i) ((c+aB A i*2^s)%4294967296)),?_,⟨by simp only;omega,b2,fun j hj=>?_,?_⟩,by simp only;omega⟩⟩,fun hb s' hv=>fW ?_⟩
 ·refine dZ (vs:=BJ A n (k+(i+1)) ((c+aB A i*2^s)/4294967296) (i+1) 7) (ps:=dQ 7 (k+(i+1)) (cH o (k+i) ((c+aB A i*2^s)%4294967296))) [(7,77832)] hv hk0 rfl ⟨aO,aO,⟨rfl,en rfl rfl rfl⟩,⟨rfl,gW ?_⟩,⟨rfl,gW ?_⟩,trivial⟩
   ⟨⟨_,_,rfl,rfl,gq rfl fun j hj=>KD (by rw[ki]) aa⟩,trivial⟩
  ·rw[me];omega
  ·rw[wrap_i64 aa aa];omega
 ·simp only at hj ⊢
  unfold cH
  split
  ·omega
  ·exact ho j aa
 ·simp only
  have:=GK (x:=aB A i) hval
  rw[show k+(i+1)=(k+i)+1 by omega,r6,iX,this,val]
  congr 1
  rw[Nat.add_mul,Nat.mul_assoc,<-Nat.pow_add,show 32*i+32*k=32*(k+i) by omega]
 ·have hin:i=nl A:=aa
  show aF P c0 f188.ntmps (behind (aG f188) [1,1,1,0,1]) s' _
  refine aF.kJ hT fR hm 60 hv (h0 _) rfl (iK aa) UQ ag ag ?_
  simp only[af.all,aA,Nat.add_zero]
  have ho':∀j,j<k+i+1->cH o (k+i) c j<2^32:=fun j hj=>by
   unfold cH
   split
   ·omega
   ·exact ho j aa
  have e:∀j,j<k+i+1->(if j<k+i then az o j else nth [.int .u32 (u32.wrap (c:Int))] (.int .u32 0) (j-(k+i)))=az (cH o (k+i) c) j:=fun j hj=>KD (wrap_u32 aa aa) hj
  refine⟨⟨aa,aa,fun j hj=>?_,aa⟩,eO (congrArg AV.mag ?_)⟩
  ·exact⟨_,ho' j hj,e j hj⟩
  ·rw[val_congr (y:=cH o (k+i) c) fun j hj=>(congrArg numOf (e j hj)).trans Cw,r6,hval,hin,gO,Nat.mul_assoc,<-Nat.pow_add]
   congr 2
   omega
def MC:Spec:=b7 fun l=>match l with
 |[a,.int .i64 n]=>match jD a with
  |some A=>some (aM (.mag (A*2^n.toNat)) [nl A<2^39,0<=n,n<2^43])
  |none=>none
 |_=>none
theorem DC {f:FuncId} {g:Nat->Int->AV} {l:Nat->List Prop} {m:Int} (h:∀{A n:Nat},aA (l A)->(n:Int)<m->∀K,aQ P f K [.mag A,.int .i64 n] [] (aM (g A n) [])):∀K args pre r,b7 (fun a=>match a with
 |[a,.int .i64 n]=>match jD a with
  |some A=>some (aM (g A n) (l A++[0<=n,n<m]))
  |none=>none
 |_=>none) K args pre=some r->aQ P f K args pre r:=by
 refine cP fun K args r hk hs _=>?_
 split at hs
 ·split at hs
  ·rename_i A hA
   simp only[ax]at hs
   subst hs
   intro need
   obtain⟨h1,h2,h3⟩:=gj.1 need
   rename_i n _
   obtain⟨n,rfl⟩:=Int.eq_ofNat_of_zero_le h2
   exact gY (h h1 h3 K) hk ⟨mB hA,.refl _,trivial⟩ [] trivial
  ·simp at hs
 ·simp at hs
theorem aeN:bA P MC 188:=
 DC (g:=fun A n=>.mag (A*2^n.toNat)) (l:=fun A=>[nl A<2^39]) (m:=2^43) fun {A n} h hn K=>by
  have:=UW (A:=A) (n:=n) h aa K
  simpa using this
theorem OQ {A n:Nat} (hA:nl A<2^40) (hn:n<2^40) (K:Nat):aQ P 189 K [.mag A,.int .i64 n] [] (aM (.mag (A*2^(32*n))) []):=by
 refine cA hT fR hm abg rfl bp rfl 60 VK (fun _=>?_) K []
 simp only[af.all,aA,beq_iff_eq,beq_eq_false_iff_ne,ne_eq,bE,Nat.add_zero]
 refine⟨fun hb=>?_,fun hb=>⟨⟨aa,aa⟩,?_⟩⟩
 ·have:A=0:=kO.1 aa
  subst this
  rw[Nat.zero_mul];exact lF
 ·have hA0:A≠0:=fun h=>hb (by rw[h];rfl)
  have hlt:A*2^(32*n)<2^(32*(n+nl A)):=by
   rw[show 32*(n+nl A)=32*nl A+32*n by omega,Nat.pow_add]
   exact(Nat.mul_lt_mul_right (Nat.two_pow_pos _)).2 nc
  have hval:A*2^(32*n)=val (n+nl A) (fun i=>if i<n then 0 else aB A (i-n)):=by
   rw[val_add,val_zero fun i hi=>if_pos hi,Nat.zero_add]
   congr 1
   have:=gO (N:=A)
   conv=>lhs;rw[<-this]
   exact val_congr fun i hi=>by rw[if_neg aa];congr 1;omega
  have hz:∀i,i<n+nl A->(if i<n then 0 else aB A (i-n))<2^32:=fun i _=>by
   split
   ·omega
   ·exact eA
  refine kK ?_ fun i hi=>?_
  ·rw[hval]
   refine Bo hz (.inr ?_)
   have hp:=gZ.2 hA0
   rw[if_neg aa,show n+nl A-1-n=nl A-1 by omega]
   exact Ey hA0
  ·rw[hval,qa hz hi]
   split<;>rfl
def Gb:Spec:=b7 fun l=>match l with
 |[a,.int .i64 n]=>match jD a with
  |some A=>some (aM (.mag (A*2^(32*n.toNat))) [nl A<2^40,0<=n,n<2^40])
  |none=>none
 |_=>none
theorem abo:bA P Gb 189:=
 DC (g:=fun A n=>.mag (A*2^(32*n.toNat))) (l:=fun A=>[nl A<2^40]) (m:=2^40) fun {A n} h hn K=>by
  have:=OQ (A:=A) (n:=n) h aa K
  simpa using this
theorem Tz {A b:Nat} (hA:nl A<2^39) (hb:b<2^32) (K:Nat):aQ P 190 K [.mag A,.int .u32 b] [] (aM (.mag (A*b)) []):=by
 refine cA hT S7 hm Xj rfl bp rfl 60 VV (fun _=>?_) K []
 have e:u64.wrap (b:Int)=(b:Int):=cy aa aa
 rw[e]
 simp only[af.all,aA,bE]
 have:nl b<=1:=ec.2 aa
 exact⟨⟨aa,hA,aa⟩,.refl _⟩
def Nz:Spec:=b7 fun l=>match l with
 |[a,.int .u32 b]=>match jD a with
  |some A=>some (aM (.mag (A*b.toNat)) [nl A<2^39,0<=b,b<2^32])
  |none=>none
 |_=>none
theorem Xq:bA P Nz 190:=by
 refine cP fun K args r hk hs _=>?_
 split at hs
 ·rename_i a b
  split at hs
  ·rename_i A hA
   simp only[ax]at hs
   subst hs
   intro need
   obtain⟨h1,h2,h3⟩:nl A<2^39/\0<=b/\b<2^32:=need
   obtain⟨b,rfl⟩:=Int.eq_ofNat_of_zero_le h2
   exact gY (Tz h1 aa K) hk ⟨mB hA,.refl _,trivial⟩ [] trivial
  ·simp at hs
 ·simp at hs
theorem W6 {A k i:Nat}:aB A (i+k)=aB (A/2^(32*k)) i:=by
 unfold aB
 rw[Nat.div_div_eq_div_mul,<-Nat.pow_add]
 congr 3
 omega
theorem aag {a b s:Nat} (ha:a<2^32) (hb:b<2^32) (hs:s<32):(b*4294967296+a)/2^s%4294967296=a/2^s+b%2^s*2^(32-s):=by
 have:=vX (R:=b*4294967296+a) (k:=0) hs
 have l0:aB (b*4294967296+a) 0=a:=by unfold aB;simp;omega
 have l1:aB (b*4294967296+a) (0+1)=b:=by unfold aB;simp;omega
 rw[l0,l1]at this
 rw[<-this]
 unfold aB
 simp
theorem Th {A n:Nat} (hA:nl A<2^40) (hn:n<2^62) (K:Nat):aQ P 191 K [.mag A,.int .i64 n] [] (aM (.mag (A/2^n)) []):=by
 refine iI hT Si rfl bp rfl (fun _ c0 h0=>?_) K []
 have hk0:=y9 h0
 refine au.hole [1,1,1,1,0,1] ag (aF.bJ hT fR hm 60 (nJ++[4]) YE ag ?_)
 have hw:i64.wrap ((n:Int).tdiv 32)=((n/32:Nat):Int):=by
  rw[show(n:Int).tdiv 32=((n/32:Nat):Int)from(Int.ofNat_tdiv n 32).symm]
  exact fD rfl aa
 have hmd:(n:Int).tmod 32=((n%32:Nat):Int):=(Int.ofNat_tmod n 32).symm
 rw[hw]
 obtain⟨k,hk⟩:∃k,k=n/32:=⟨_,rfl⟩
 obtain⟨s,hs⟩:∃s,s=n%32:=⟨_,rfl⟩
 rw[<-hs]at hmd
 rw[<-hk]
 have hnk:2^n=2^(32*k)*2^s:=by rw[<-Nat.pow_add];congr 1;omega
 simp only[af.all,aA,bK,bO,bE]
 refine⟨aa,fun hb s' hv=>fZ (.inl ?_),fun hb=>⟨⟨aa,aa⟩,aa,fun s' hv=>cM ?_⟩⟩
 ·refine iq (us:=[.nil]) (.inr rfl) hv ag ?_
  have:A/2^n=0:=by
   rw[hnk,<-Nat.div_div_eq_div_mul,Nat.div_eq_of_lt (ec.1 (show nl A<=k by omega)),Nat.zero_div]
  rw[this];exact lF
 have hkA:k<nl A:=aa
 have hv:=ku (ls:=nJ) (l:=[4]) (vs:=[.aq 1 (nl A-k) fun i=>.int .u32 (aB A (i+k):Nat),.int .i64 n,.own 53248 1 0 (nl A-k),.int .i64 0]) hv rfl rfl
 obtain⟨R,hR⟩:∃R,R=A/2^(32*k):=⟨_,rfl⟩
 obtain⟨l,hl⟩:∃l,l=nl A-k:=⟨_,rfl⟩
 have hRl:R<2^(32*l):=by
  rw[hR,Nat.div_lt_iff_lt_mul (Nat.two_pow_pos _),<-Nat.pow_add,<-Nat.mul_add]
  exact ec.1 (show nl A<=l+k by omega)
 have hfun:(fun i=>AV.int .u32 (aB A (i+k):Nat))=az (aB R):=by
  funext i;unfold az;rw[W6,hR]
 rw[hfun,<-hl]at hv
 refine au.jh (i:=0) (y:=LB) ag (fun p:Nat×(Nat->Nat)=>⟨aE nJ (vI (aB R) l n p.1 7),dQ 7 l p.2,8⟩)
  (fun p=>p.1<=l/\∀j,j<p.1->p.2 j=aB (R/2^s) j)
  (fun p=>l-p.1) (0,fun _=>0)
  (dZ [(7,53248)] hv hk0 rfl ⟨aO,aO,⟨rfl,en rfl rfl rfl⟩,aO,trivial⟩ ⟨⟨_,_,rfl,rfl,gq rfl fun j _=>rfl⟩,trivial⟩)
  ⟨by simp,fun j hj=>by simp only at hj;omega⟩ ?_
 rintro⟨i,o⟩ ⟨hi,ho⟩
 simp only at hi ho
 have hs32:s<32:=aa
 have ha:=eA (N:=R) (i:=i)
 have hb':=eA (N:=R) (i:=i+1)
 refine au.bJ hT fR hm 60 nJ XN ag ?_
 have w1:i64.wrap ((i:Int)+1)=if i<l then((i+1:Nat):Int)else i64.wrap ((i:Int)+1):=by
  split
  ·exact fD aa aa
  ·rfl
 simp only[af.all,aA,bK,bO,bE,Nat.add_zero,beq_iff_eq]
 have next:∀{s':aI} {v:Int},i<l->v=((aB (R/2^s) i:Nat):Int)->bh nJ s'=some (vI (aB R) l n (i+1) 7,[(7,⟨true,true,1,l,fun j=>if j=i then .int .u32 v else az o j⟩)])->
   ∃p:Nat×(Nat->Nat),(∃ρ,Le c0 ρ s' ⟨aE nJ (vI (aB R) l n p.1 7),dQ 7 l p.2,8⟩)/\(p.1<=l/\∀j,j<p.1->p.2 j=aB (R/2^s) j)/\l-p.1<l-i:=by
  intro s' v hil hv1 hv
  refine⟨(i+1,cH o i (aB (R/2^s) i)),qe (eH hv rfl ?_) (h0 _) rfl (iK aa),⟨by simp only;omega,fun j hj=>?_⟩,by simp only;omega⟩
  ·simp only[dQ]
   congr 3
   funext j
   exact iL hv1 j
  ·simp only at hj ⊢
   unfold cH
   split
   ·rename_i h;rw[h]
   ·exact ho j aa
 refine⟨fun hb=>?_,fun hb s' hv=>fW ?_⟩
 ·have hil:i<l:=aa
  rw[if_pos hil]at w1
  rw[w1,hmd]
  have hf:∀x:Nat,(x:Int).fdiv (2^min ((s:Int).toNat) u64.bits)=((x/2^s:Nat):Int):=fun x=>by
   have:min ((s:Int).toNat) u64.bits=s:=by
    have:u64.bits=64:=rfl
    omega
   rw[this,Int.fdiv_eq_ediv_of_nonneg _ (by exact Int.le_of_lt (Int.pow_pos (by decide)))]
   simp
  have wa:u64.wrap (aB R i:Int)=((aB R i:Nat):Int):=cy aa aa
  have fC:u64.wrap ((BitVec.ofInt u64.bits (u64.wrap (aB R i:Int))|||BitVec.ofInt u64.bits (u64.wrap (u64.wrap (aB R (i+1):Int)*2^min (Int.toNat 32) u64.bits))).toNat:Int)=((aB R (i+1)*4294967296+aB R i:Nat):Int):=by
   rw[BitVec.or_comm,cy (x:=(aB R (i+1):Int)) aa aa]
   exact uu hb' ha
  simp only[bE]
  refine⟨aa,fun h1=>⟨⟨aa,aa⟩,⟨aa,aa,aa,aa⟩,fun s' hv=>next hil ?_ hv⟩,fun h1=>⟨⟨aa,aa,aa,aa⟩,fun s' hv=>next hil ?_ hv⟩⟩
  ·rw[fC]
   have:=hf (aB R (i+1)*4294967296+aB R i)
   simp only[bE]at this
   rw[this,ki,aag ha hb' hs32,vX hs32]
  ·rw[wa]
   have:=hf (aB R i)
   simp only[bE]at this
   have hd:=Nat.div_le_self (aB R i) (2^s)
   rw[this,ki,vX hs32,jP (A:=R) (i:=i+1) (ec.2 (Nat.lt_of_lt_of_le hRl (Nat.pow_le_pow_right aa aa))),Nat.zero_mod,Nat.zero_mul,Nat.add_zero,Nat.mod_eq_of_lt aa]
 ·have hil:i=l:=aa
  show aF P c0 f191.ntmps (behind (aG f191) [1,1,1,1,0,1]) s' _
  refine aF.kJ hT fR hm 60 hv (h0 _) rfl (iK aa) U3 ag ag ?_
  simp only[af.all,aA,Nat.add_zero,kj]
  refine⟨⟨g9 fun j hj=>?_,aa⟩,eO (congrArg AV.mag ?_)⟩
  ·rw[ho j aa];exact eA
  ·rw[val_congr (y:=aB (R/2^s)) fun j hj=>ho j aa,qq (Nat.lt_of_le_of_lt (Nat.div_le_self _ _) hRl),hR,hnk,Nat.div_div_eq_div_mul]
def Oz:Spec:=b7 fun l=>match l with
 |[a,.int .i64 n]=>match jD a with
  |some A=>some (aM (.mag (A/2^n.toNat)) [nl A<2^40,0<=n,n<2^62])
  |none=>none
 |_=>none
theorem abP:bA P Oz 191:=
 DC (g:=fun A n=>.mag (A/2^n.toNat)) (l:=fun A=>[nl A<2^40]) (m:=2^62) fun {A n} h hn K=>by
  have:=Th (A:=A) (n:=n) h aa K
  simpa using this
end Go.Am.B
