/- ref01: up, shifted, times, down. -/
import Derived.Test.YtnniljlepppdpaaGreatB24
set_option linter.unusedVariables false
namespace Go.Am.B
open Go Go.Am.N AV
theorem XC:aT P CU rj (ay rj):=aU Proofs.Tryz.func264 ag ag ag
theorem aes:aT P Hq Ce (ay Ce):=aU Proofs.Tryz.func265 ag ag ag
theorem anS:aT P Ch FY (ay FY):=aU Proofs.Tryz.func266 ag ag ag
theorem anX:aT P Es qp (ay qp):=aU Proofs.Tryz.func267 ag ag ag
abbrev rJ:List Nat:=[0,1,5,6,7]
abbrev F8 (A n l c i K:Nat):List AV:=[.mag A,.int .i64 n,.own K 1 0 l,.int .u64 c,.int .i64 i]
noncomputable abbrev RG:Code:=part (ay rj) [1,1,1,0,1,0,0]
def OU:bf:=[(rz,u9),(tA,A2),(A4,Kb)]
theorem ab8:bu P OU:=aI yZ (aI Gu (aI R4 bz))
theorem adP {A n:Nat}:aG T fA [] 60 rJ (before (ay rj) [1,1,1,0,1]) ⟨aP 0 [.mag A,.int .i64 n],[],0⟩=
  let c1:Int:=IntKind.i64.wrap ((↑n:Int).tdiv (32:Int));some (ah.aj [(32:Int)≠(0:Int),(0:Int)<=c1/\c1<=c1/\c1<=2^47/\c1*(↑(4:Nat):Int)<=2^47] (ah.leaf ax.normal ([mag A,int .i64 (↑n:Int),own 12288 1 0 c1.toNat,int .u64 (0:Int),int .i64 (0:Int)],[(12288,ak.mk true true 1 c1.toNat fun x=>int .u32 (0:Int))]))):=ag
theorem akg {A n l c i:Nat} {o:Nat->Nat}:aG T fA [14] 60 rJ [RG] ⟨aB rJ (F8 A n l c i 7),dA 7 l o,8⟩=
  let c4:Int:=(↑n:Int).tmod (32:Int);let c3:AV:=int .i64 (↑n:Int);let c2:Int:=(↑i:Int);let c1:Int:=IntKind.u64.wrap (↑(BitVec.ofInt IntKind.u64.bits (↑c:Int)|||BitVec.ofInt IntKind.u64.bits (IntKind.u64.wrap (IntKind.u64.wrap (↑(aF A c2.toNat):Int)*2^min c4.toNat IntKind.u64.bits))).toNat:Int);some (ah.fork (decide (c2<(↑(nl A):Int))) (ah.aj [(0:Int)<=c2/\c2.toNat<nl A,(32:Int)≠(0:Int),(0:Int)<=c4] (ah.aj [(1:Nat)*1<=2^24,(l+1)*((4:Nat)+1)*2<=2^47] (ah.aj [(0:Int)<=32] (ah.leaf ax.normal ([mag A,c3,own 77832 1 0 (l+1),int .u64 (c1.fdiv ((2:Int)^min (Int.toNat (32:Int)) IntKind.u64.bits)),int .i64 (IntKind.i64.wrap (c2+1))],[(77832,ak.mk true true 1 (l+1) fun i=>if i<l then aD o i else nth [int .u32 (IntKind.u32.wrap c1)] (int .u32 (0:Int)) (i-l+0))]))))) (ah.leaf (ax.exit 0) ([mag A,c3,own 7 1 0 l,int .u64 (↑c:Int),int .i64 c2],[(7,ak.mk true true 1 l fun a=>int .u32 (↑(o a):Int))]))):=ag
theorem aog {A n l c i:Nat} {o:Nat->Nat}:cj T fA [] 60 rj (behind (ay rj) [1,1,1,0,1]) ⟨aB rJ (F8 A n l c i 7),dA 7 l o,8⟩=
  let c3:AV:=int .u32 (0:Int);let c2:Nat:=l+1;let c1:AV:=int .u32 (IntKind.u32.wrap (↑c:Int));some (ah.aj [(1:Nat)*1<=2^24,c2*((4:Nat)+1)*2<=2^47,ek c2 fun i=>if i+0<l then aD o (i+0)else nth [c1] c3 (i+0-l+0),c2<2^40] (ah.leaf ax.ret [mag (val c2 fun i=>numOf (if i+0<l then aD o (i+0)else nth [c1] c3 (i+0-l+0)))])):=ag
theorem Vr {A n:Nat}:bU T fA [7] 60 Ce (ay Ce) ⟨aP 0 [.mag A,.int .i64 n],[],0⟩=
  let c1:Int:=(↑n:Int);some (ah.fork ((↑(nl A):Int)==0) (ah.leaf ax.ret [nil]) (ah.aj [(0:Int)<=c1/\c1<=c1/\c1<=2^47/\c1*(↑(4:Nat):Int)<=2^47,(c1.toNat+nl A)*((4:Nat)+1)*2<=2^47] (ah.leaf ax.ret [aq 1 (c1.toNat+nl A) fun i=>if i+0<c1.toNat then int .u32 (0:Int)else int .u32 (↑(aF A (i+0-c1.toNat)):Int)]))):=ag
theorem WM {A b:Nat}:bU T OU [] 60 FY (ay FY) ⟨aP 0 [.mag A,.int .u32 b],[],0⟩=
  let c1:Int:=IntKind.u64.wrap (↑b:Int);some (ah.aj [(0:Int)<=c1/\c1<2^64,nl A<2^39,nl c1.toNat<2^39] (ah.leaf ax.ret [mag (A*c1.toNat)])):=ag
abbrev nO:List Nat:=[0,1,5,6]
abbrev z4 (a:Nat->Nat) (l n i K:Nat):List AV:=[.aq 1 l (aD a),.int .i64 n,.own K 1 0 l,.int .i64 i]
noncomputable abbrev Oa:Code:=part (ay qp) [1,1,1,1,0,1,0,0]
theorem aft {A n:Nat}:aG T fA [12] 60 (nO++[4]) (before (ay qp) [1,1,1,1,0,1]) ⟨aP 0 [.mag A,.int .i64 n],[],0⟩=
  let c5:AV:=int .i64 (↑n:Int);let c3:Int:=(↑(nl A):Int);let c2:Int:=IntKind.i64.wrap ((↑n:Int).tdiv (32:Int));let c1:Nat:=c3.toNat-c2.toNat;let c4:Int:=(↑c1:Int);some (ah.aj [(32:Int)≠(0:Int)] (ah.fork (decide (c2>=c3)) (ah.leaf ax.ret ([mag A,c5,tuple [],tuple [],nil],[])) (ah.aj [(32:Int)≠(0:Int),(0:Int)<=c2/\c2<=c3/\c3<=c3/\c3<=c3] (ah.aj [(0:Int)<=c4/\c4<=c4/\c4<=2^47/\c4*(↑(4:Nat):Int)<=2^47] (ah.leaf ax.normal ([aq 1 c1 fun i=>int .u32 (↑(aF A (i+c2.toNat)):Int),c5,own 53248 1 0 c4.toNat,int .i64 (0:Int),nil],[(53248,ak.mk true true 1 c4.toNat fun x=>int .u32 (0:Int))])))))):=ag
theorem abM {n l i:Nat} {a o:Nat->Nat}:aG T fA [23,35] 60 nO [Oa] ⟨aB nO (z4 a l n i 7),dA 7 l o,8⟩=
  let c13:Int:=(↑l:Int);let c12:Int:=(↑n:Int).tmod (32:Int);let c11:AV:=int .i64 (↑n:Int);let c9:AV:=own 7 1 0 l;let c8:Int:=(↑i:Int);let c6:AV:=aq 1 l fun a_1=>int .u32 (↑(a a_1):Int);let c5:Int:=(2:Int)^min c12.toNat IntKind.u64.bits;let c4:Nat:=c8.toNat;let c1:Int:=IntKind.i64.wrap (c8+1);let c10:Int:=IntKind.u64.wrap (↑(a c4):Int);let c7:Nat:=c4+0;let c2:List AV:=[c6,c11,c9,int .i64 c1];let c3:List Prop:=[(32:Int)≠(0:Int),(0:Int)<=c12,(0:Int)<=c8/\c4<l,c7<l];some (ah.fork (decide (c8<c13)) (ah.aj [(0:Int)<=c8/\c4<l] (ah.fork (decide (c1<c13)) (ah.aj [(0:Int)<=c1/\c1.toNat<l,(0:Int)<=32] (ah.aj c3 (ah.leaf ax.normal (c2,[(7,ak.mk true true 1 l fun j=>if(j==c7)=true then int .u32 (IntKind.u32.wrap ((IntKind.u64.wrap (↑(BitVec.ofInt IntKind.u64.bits c10|||BitVec.ofInt IntKind.u64.bits (IntKind.u64.wrap (IntKind.u64.wrap (↑(a c1.toNat):Int)*2^min (Int.toNat (32:Int)) IntKind.u64.bits))).toNat:Int)).fdiv c5))else aD o j)])))) (ah.aj c3 (ah.leaf ax.normal (c2,[(7,ak.mk true true 1 l fun j=>if(j==c7)=true then int .u32 (IntKind.u32.wrap (c10.fdiv c5))else aD o j)]))))) (ah.leaf (ax.exit 0) ([c6,c11,c9,int .i64 c8],[(7,ak.mk true true 1 l fun a=>int .u32 (↑(o a):Int))]))):=ag
theorem Wi {n l i:Nat} {a o:Nat->Nat}:cj T fA [] 60 qp (behind (ay qp) [1,1,1,1,0,1]) ⟨aB nO (z4 a l n i 7),dA 7 l o,8⟩=
  some (ah.aj [ek l fun i=>aD o (i+0),l<2^40] (ah.leaf ax.ret [mag (val l fun i=>numOf (aD o (i+0)))])):=ag
theorem Ff {c:Ctx} (h0:∀nx k x,c.k0 k=some x->k<nx):c.k0=bE:=by
 funext k
 cases hk:c.k0 k with
 |none=>rfl
 |some x=>have:=h0 0 k x hk;omega
theorem T0 {o:Nat->Nat} {l:Nat} {v:Int} {x:Nat} (hv:v=(x:Nat)) {j:Nat} (hj:j<l+1):(if j<l then aD o j else nth [.int .u32 v] (.int .u32 0) (j-l))=aD (cH o l x) j:=by
 by_cases h:j<l
 ·rw[if_pos h];unfold aD;rw[ga aa]
 ·have:j=l:=aa
  subst this
  rw[if_neg h,hv]
  simp[nth,aD,kY]
theorem agz {A n:Nat} (hA:nl A<2^39) (hn:n<2^43) (K:Nat):aQ P CU K [.mag A,.int .i64 n] [] (aJ (.mag (A*2^n)) []):=by
 refine fc hT XC rfl aX rfl (fun _ c0 h0=>?_) K []
 have hk0:=Ff h0
 refine au.hole [1,1,1,0,1] ag (aH.bC hT fG hm 60 rJ adP ag ?_)
 have hw:IntKind.i64.wrap ((n:Int).tdiv 32)=((n/32:Nat):Int):=by
  rw[show(n:Int).tdiv 32=((n/32:Nat):Int)from(Int.ofNat_tdiv n 32).symm]
  exact fm rfl aa
 have hmd:(n:Int).tmod 32=((n%32:Nat):Int):=(Int.ofNat_tmod n 32).symm
 rw[hw]
 obtain⟨k,hk⟩:∃k,k=n/32:=⟨_,rfl⟩
 obtain⟨s,hs⟩:∃s,s=n%32:=⟨_,rfl⟩
 rw[<-hs]at hmd
 rw[<-hk]
 simp only[ah.all,aA,bn]
 refine⟨aa,fun s' hv=>cO ?_⟩
 refine au.iZ (i:=0) (y:=RG) ag (fun p:Nat×Nat×(Nat->Nat)=>⟨aB rJ (F8 A n (k+p.1) p.2.1 p.1 7),dA 7 (k+p.1) p.2.2,8⟩)
  (fun p=>p.1<=nl A/\p.2.1<2^s/\(∀j,j<k+p.1->p.2.2 j<2^32)/\val (k+p.1) p.2.2+p.2.1*2^(32*(k+p.1))=val p.1 (aF A)*2^(32*k)*2^s)
  (fun p=>nl A-p.1) (0,0,fun _=>0)
  (dH [(7,12288)] hv hk0 rfl ⟨aM,aM,⟨rfl,bW rfl rfl rfl⟩,aM,aM,trivial⟩ ⟨⟨_,_,rfl,rfl,fS rfl fun j _=>rfl⟩,trivial⟩)
  ⟨by simp,Nat.two_pow_pos s,fun _ _=>by simp,?_⟩ ?_
 ·simp only
  rw[val_zero fun _ _=>rfl]
  simp[val]
 rintro⟨i,c,o⟩ ⟨hi,hc,ho,hval⟩
 simp only at hi hc ho hval
 have hs32:s<32:=aa
 have h31:2^s<=2^31:=Nat.pow_le_pow_right aa aa
 have hzi:=dL (N:=A) (i:=i)
 refine au.bC hT fG hm 60 rJ akg ag ?_
 rw[hmd]
 have hor:=OT hs32 hzi hc
 obtain⟨b1,b2⟩:=Th hs32 hzi hc
 simp only[ah.all,aA,bq,bw,bn,Nat.add_zero]at hor ⊢
 rw[hor]
 refine⟨fun hb=>⟨⟨aa,aa,aa⟩,⟨aa,aa⟩,aa,fun s' hv=>⟨(i+1,(c+aF A i*2^s)/4294967296,cH o (k+i) ((c+aF A i*2^s)%4294967296)),?_,⟨by simp only;omega,b2,fun j hj=>?_,?_⟩,by simp only;omega⟩⟩,fun hb s' hv=>fO ?_⟩
 ·refine dH (vs:=F8 A n (k+(i+1)) ((c+aF A i*2^s)/4294967296) (i+1) 7) (ps:=dA 7 (k+(i+1)) (cH o (k+i) ((c+aF A i*2^s)%4294967296))) [(7,77832)] hv hk0 rfl ⟨aM,aM,⟨rfl,bW rfl rfl rfl⟩,⟨rfl,gI ?_⟩,⟨rfl,gI ?_⟩,trivial⟩
   ⟨⟨_,_,rfl,rfl,fS rfl fun j hj=>T0 (by rw[j3]) aa⟩,trivial⟩
  ·rw[mM];omega
  ·rw[wrap_i64 aa aa];omega
 ·simp only at hj ⊢
  unfold cH
  split
  ·omega
  ·exact ho j aa
 ·simp only
  have:=Po (x:=aF A i) hval
  rw[show k+(i+1)=(k+i)+1 by omega,r7,iG,this,val]
  congr 1
  rw[Nat.add_mul,Nat.mul_assoc,<-Nat.pow_add,show 32*i+32*k=32*(k+i) by omega]
 ·have hin:i=nl A:=aa
  show aH P c0 rj.ntmps (behind (ay rj) [1,1,1,0,1]) s' _
  refine aH.kO hT fG hm 60 hv (h0 _) rfl (iw aa) aog ag ag ?_
  simp only[ah.all,aA,Nat.add_zero]
  have ho':∀j,j<k+i+1->cH o (k+i) c j<2^32:=fun j hj=>by
   unfold cH
   split
   ·omega
   ·exact ho j aa
  have e:∀j,j<k+i+1->(if j<k+i then aD o j else nth [.int .u32 (IntKind.u32.wrap (c:Int))] (.int .u32 0) (j-(k+i)))=aD (cH o (k+i) c) j:=fun j hj=>T0 (wrap_u32 aa aa) hj
  refine⟨⟨aa,aa,fun j hj=>?_,aa⟩,dO (congrArg AV.mag ?_)⟩
  ·exact⟨_,ho' j hj,e j hj⟩
  ·rw[val_congr (y:=cH o (k+i) c) fun j hj=>(congrArg numOf (e j hj)).trans JI,r7,hval,hin,gA,Nat.mul_assoc,<-Nat.pow_add]
   congr 2
   omega
def Tj:Spec:=bY fun l=>match l with
 |[a,.int .i64 n]=>match jB a with
  |some A=>some (aJ (.mag (A*2^n.toNat)) [nl A<2^39,0<=n,n<2^43])
  |none=>none
 |_=>none
theorem IK {f:FuncId} {g:Nat->Int->AV} {l:Nat->List Prop} {m:Int} (h:∀{A n:Nat},aA (l A)->(n:Int)<m->∀K,aQ P f K [.mag A,.int .i64 n] [] (aJ (g A n) [])):∀K args pre r,bY (fun a=>match a with
 |[a,.int .i64 n]=>match jB a with
  |some A=>some (aJ (g A n) (l A++[0<=n,n<m]))
  |none=>none
 |_=>none) K args pre=some r->aQ P f K args pre r:=by
 refine cJ fun K args r hk hs _=>?_
 split at hs
 ·split at hs
  ·rename_i A hA
   simp only[az]at hs
   subst hs
   intro need
   obtain⟨h1,h2,h3⟩:=dD.1 need
   rename_i n _
   obtain⟨n,rfl⟩:=Int.eq_ofNat_of_zero_le h2
   exact gZ (h h1 h3 K) hk ⟨mF hA,.refl _,trivial⟩ [] trivial
  ·simp at hs
 ·simp at hs
theorem XD:aW P Tj CU:=
 IK (g:=fun A n=>.mag (A*2^n.toNat)) (l:=fun A=>[nl A<2^39]) (m:=2^43) fun {A n} h hn K=>by
  have:=agz (A:=A) (n:=n) h aa K
  simpa using this
theorem aoO {A n:Nat} (hA:nl A<2^40) (hn:n<2^40) (K:Nat):aQ P Hq K [.mag A,.int .i64 n] [] (aJ (.mag (A*2^(32*n))) []):=by
 refine bZ hT fG hm aes rfl aX rfl 60 Vr (fun _=>?_) K []
 simp only[ah.all,aA,beq_iff_eq,beq_eq_false_iff_ne,ne_eq,bn,Nat.add_zero]
 refine⟨fun hb=>?_,fun hb=>⟨⟨aa,aa⟩,?_⟩⟩
 ·have:A=0:=jX.1 aa
  subst this
  rw[Nat.zero_mul];exact lJ
 ·have hA0:A≠0:=fun h=>hb (by rw[h];rfl)
  have hlt:A*2^(32*n)<2^(32*(n+nl A)):=by
   rw[show 32*(n+nl A)=32*nl A+32*n by omega,Nat.pow_add]
   exact(Nat.mul_lt_mul_right (Nat.two_pow_pos _)).2 oE
  have hval:A*2^(32*n)=val (n+nl A) (fun i=>if i<n then 0 else aF A (i-n)):=by
   rw[val_add,val_zero fun i hi=>if_pos hi,Nat.zero_add]
   congr 1
   have:=gA (N:=A)
   conv=>lhs;rw[<-this]
   exact val_congr fun i hi=>by rw[if_neg aa];congr 1;omega
  have hz:∀i,i<n+nl A->(if i<n then 0 else aF A (i-n))<2^32:=fun i _=>by
   split
   ·omega
   ·exact dL
  refine me ?_ fun i hi=>?_
  ·rw[hval]
   refine Eg hz (.inr ?_)
   have hp:=gJ.2 hA0
   rw[if_neg aa,show n+nl A-1-n=nl A-1 by omega]
   exact E8 hA0
  ·rw[hval,qb hz hi]
   split<;>rfl
def PL:Spec:=bY fun l=>match l with
 |[a,.int .i64 n]=>match jB a with
  |some A=>some (aJ (.mag (A*2^(32*n.toNat))) [nl A<2^40,0<=n,n<2^40])
  |none=>none
 |_=>none
theorem ag3:aW P PL Hq:=
 IK (g:=fun A n=>.mag (A*2^(32*n.toNat))) (l:=fun A=>[nl A<2^40]) (m:=2^40) fun {A n} h hn K=>by
  have:=aoO (A:=A) (n:=n) h aa K
  simpa using this
theorem adN {A b:Nat} (hA:nl A<2^39) (hb:b<2^32) (K:Nat):aQ P Ch K [.mag A,.int .u32 b] [] (aJ (.mag (A*b)) []):=by
 refine bZ hT ab8 hm anS rfl aX rfl 60 WM (fun _=>?_) K []
 have e:IntKind.u64.wrap (b:Int)=(b:Int):=cu aa aa
 rw[e]
 simp only[ah.all,aA,bn]
 have:nl b<=1:=dF.2 aa
 exact⟨⟨aa,hA,aa⟩,.refl _⟩
def UO:Spec:=bY fun l=>match l with
 |[a,.int .u32 b]=>match jB a with
  |some A=>some (aJ (.mag (A*b.toNat)) [nl A<2^39,0<=b,b<2^32])
  |none=>none
 |_=>none
theorem Za:aW P UO Ch:=by
 refine cJ fun K args r hk hs _=>?_
 split at hs
 ·rename_i a b
  split at hs
  ·rename_i A hA
   simp only[az]at hs
   subst hs
   intro need
   obtain⟨h1,h2,h3⟩:nl A<2^39/\0<=b/\b<2^32:=need
   obtain⟨b,rfl⟩:=Int.eq_ofNat_of_zero_le h2
   exact gZ (adN h1 aa K) hk ⟨mF hA,.refl _,trivial⟩ [] trivial
  ·simp at hs
 ·simp at hs
theorem ak9 {A k i:Nat}:aF A (i+k)=aF (A/2^(32*k)) i:=by
 unfold aF
 rw[Nat.div_div_eq_div_mul,<-Nat.pow_add]
 congr 3
 omega
theorem Zn {a b s:Nat} (ha:a<2^32) (hb:b<2^32) (hs:s<32):(b*4294967296+a)/2^s%4294967296=a/2^s+b%2^s*2^(32-s):=by
 have:=yx (R:=b*4294967296+a) (k:=0) hs
 have l0:aF (b*4294967296+a) 0=a:=by unfold aF;simp;omega
 have l1:aF (b*4294967296+a) (0+1)=b:=by unfold aF;simp;omega
 rw[l0,l1]at this
 rw[<-this]
 unfold aF
 simp
theorem ZA {A n:Nat} (hA:nl A<2^40) (hn:n<2^62) (K:Nat):aQ P Es K [.mag A,.int .i64 n] [] (aJ (.mag (A/2^n)) []):=by
 refine fc hT anX rfl aX rfl (fun _ c0 h0=>?_) K []
 have hk0:=Ff h0
 refine au.hole [1,1,1,1,0,1] ag (aH.bC hT fG hm 60 (nO++[4]) aft ag ?_)
 have hw:IntKind.i64.wrap ((n:Int).tdiv 32)=((n/32:Nat):Int):=by
  rw[show(n:Int).tdiv 32=((n/32:Nat):Int)from(Int.ofNat_tdiv n 32).symm]
  exact fm rfl aa
 have hmd:(n:Int).tmod 32=((n%32:Nat):Int):=(Int.ofNat_tmod n 32).symm
 rw[hw]
 obtain⟨k,hk⟩:∃k,k=n/32:=⟨_,rfl⟩
 obtain⟨s,hs⟩:∃s,s=n%32:=⟨_,rfl⟩
 rw[<-hs]at hmd
 rw[<-hk]
 have hnk:2^n=2^(32*k)*2^s:=by rw[<-Nat.pow_add];congr 1;omega
 simp only[ah.all,aA,bq,bw,bn]
 refine⟨aa,fun hb s' hv=>fM (.inl ?_),fun hb=>⟨⟨aa,aa⟩,aa,fun s' hv=>cO ?_⟩⟩
 ·refine gQ (us:=[.nil]) (.inr rfl) hv ag ?_
  have:A/2^n=0:=by
   rw[hnk,<-Nat.div_div_eq_div_mul,Nat.div_eq_of_lt (dF.1 (show nl A<=k by omega)),Nat.zero_div]
  rw[this];exact lJ
 have hkA:k<nl A:=aa
 have hv:=jx (ls:=nO) (l:=[4]) (vs:=[.aq 1 (nl A-k) fun i=>.int .u32 (aF A (i+k):Nat),.int .i64 n,.own 53248 1 0 (nl A-k),.int .i64 0]) hv rfl rfl
 obtain⟨R,hR⟩:∃R,R=A/2^(32*k):=⟨_,rfl⟩
 obtain⟨l,hl⟩:∃l,l=nl A-k:=⟨_,rfl⟩
 have hRl:R<2^(32*l):=by
  rw[hR,Nat.div_lt_iff_lt_mul (Nat.two_pow_pos _),<-Nat.pow_add,<-Nat.mul_add]
  exact dF.1 (show nl A<=l+k by omega)
 have hfun:(fun i=>AV.int .u32 (aF A (i+k):Nat))=aD (aF R):=by
  funext i;unfold aD;rw[ak9,hR]
 rw[hfun,<-hl]at hv
 refine au.iZ (i:=0) (y:=Oa) ag (fun p:Nat×(Nat->Nat)=>⟨aB nO (z4 (aF R) l n p.1 7),dA 7 l p.2,8⟩)
  (fun p=>p.1<=l/\∀j,j<p.1->p.2 j=aF (R/2^s) j)
  (fun p=>l-p.1) (0,fun _=>0)
  (dH [(7,53248)] hv hk0 rfl ⟨aM,aM,⟨rfl,bW rfl rfl rfl⟩,aM,trivial⟩ ⟨⟨_,_,rfl,rfl,fS rfl fun j _=>rfl⟩,trivial⟩)
  ⟨by simp,fun j hj=>by simp only at hj;omega⟩ ?_
 rintro⟨i,o⟩ ⟨hi,ho⟩
 simp only at hi ho
 have hs32:s<32:=aa
 have ha:=dL (N:=R) (i:=i)
 have hb':=dL (N:=R) (i:=i+1)
 refine au.bC hT fG hm 60 nO abM ag ?_
 have w1:IntKind.i64.wrap ((i:Int)+1)=if i<l then((i+1:Nat):Int)else IntKind.i64.wrap ((i:Int)+1):=by
  split
  ·exact fm aa aa
  ·rfl
 simp only[ah.all,aA,bq,bw,bn,Nat.add_zero,beq_iff_eq]
 have next:∀{s':aK} {v:Int},i<l->v=((aF (R/2^s) i:Nat):Int)->bA nO s'=some (z4 (aF R) l n (i+1) 7,[(7,⟨true,true,1,l,fun j=>if j=i then .int .u32 v else aD o j⟩)])->
   ∃p:Nat×(Nat->Nat),(∃ρ,Le c0 ρ s' ⟨aB nO (z4 (aF R) l n p.1 7),dA 7 l p.2,8⟩)/\(p.1<=l/\∀j,j<p.1->p.2 j=aF (R/2^s) j)/\l-p.1<l-i:=by
  intro s' v hil hv1 hv
  refine⟨(i+1,cH o i (aF (R/2^s) i)),o4 (dQ hv rfl ?_) (h0 _) rfl (iw aa),⟨by simp only;omega,fun j hj=>?_⟩,by simp only;omega⟩
  ·simp only[dA]
   congr 3
   funext j
   exact iu hv1 j
  ·simp only at hj ⊢
   unfold cH
   split
   ·rename_i h;rw[h]
   ·exact ho j aa
 refine⟨fun hb=>?_,fun hb s' hv=>fO ?_⟩
 ·have hil:i<l:=aa
  rw[if_pos hil]at w1
  rw[w1,hmd]
  have hf:∀x:Nat,(x:Int).fdiv (2^min ((s:Int).toNat) IntKind.u64.bits)=((x/2^s:Nat):Int):=fun x=>by
   have:min ((s:Int).toNat) IntKind.u64.bits=s:=by
    have:IntKind.u64.bits=64:=rfl
    omega
   rw[this,Int.fdiv_eq_ediv_of_nonneg _ (by exact Int.le_of_lt (Int.pow_pos (by decide)))]
   simp
  have wa:IntKind.u64.wrap (aF R i:Int)=((aF R i:Nat):Int):=cu aa aa
  have hor:IntKind.u64.wrap ((BitVec.ofInt IntKind.u64.bits (IntKind.u64.wrap (aF R i:Int))|||BitVec.ofInt IntKind.u64.bits (IntKind.u64.wrap (IntKind.u64.wrap (aF R (i+1):Int)*2^min (Int.toNat 32) IntKind.u64.bits))).toNat:Int)=((aF R (i+1)*4294967296+aF R i:Nat):Int):=by
   rw[BitVec.or_comm,cu (x:=(aF R (i+1):Int)) aa aa]
   exact wz hb' ha
  simp only[bn]
  refine⟨aa,fun h1=>⟨⟨aa,aa⟩,⟨aa,aa,aa,aa⟩,fun s' hv=>next hil ?_ hv⟩,fun h1=>⟨⟨aa,aa,aa,aa⟩,fun s' hv=>next hil ?_ hv⟩⟩
  ·rw[hor]
   have:=hf (aF R (i+1)*4294967296+aF R i)
   simp only[bn]at this
   rw[this,j3,Zn ha hb' hs32,yx hs32]
  ·rw[wa]
   have:=hf (aF R i)
   simp only[bn]at this
   have hd:=Nat.div_le_self (aF R i) (2^s)
   rw[this,j3,yx hs32,jF (A:=R) (i:=i+1) (dF.2 (Nat.lt_of_lt_of_le hRl (Nat.pow_le_pow_right aa aa))),Nat.zero_mod,Nat.zero_mul,Nat.add_zero,Nat.mod_eq_of_lt aa]
 ·have hil:i=l:=aa
  show aH P c0 qp.ntmps (behind (ay qp) [1,1,1,1,0,1]) s' _
  refine aH.kO hT fG hm 60 hv (h0 _) rfl (iw aa) Wi ag ag ?_
  simp only[ah.all,aA,Nat.add_zero,kg]
  refine⟨⟨gF fun j hj=>?_,aa⟩,dO (congrArg AV.mag ?_)⟩
  ·rw[ho j aa];exact dL
  ·rw[val_congr (y:=aF (R/2^s)) fun j hj=>ho j aa,qN (Nat.lt_of_le_of_lt (Nat.div_le_self _ _) hRl),hR,hnk,Nat.div_div_eq_div_mul]
def M6:Spec:=bY fun l=>match l with
 |[a,.int .i64 n]=>match jB a with
  |some A=>some (aJ (.mag (A/2^n.toNat)) [nl A<2^40,0<=n,n<2^62])
  |none=>none
 |_=>none
theorem adS:aW P M6 Es:=
 IK (g:=fun A n=>.mag (A/2^n.toNat)) (l:=fun A=>[nl A<2^40]) (m:=2^62) fun {A n} h hn K=>by
  have:=ZA (A:=A) (n:=n) h aa K
  simpa using this
end Go.Am.B
