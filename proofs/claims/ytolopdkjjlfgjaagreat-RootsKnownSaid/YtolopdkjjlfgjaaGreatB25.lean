/- ref01: up, shifted, times, down. -/
import Derived.Test.YtolopdkjjlfgjaaGreatB24
set_option linter.unusedVariables false
namespace Go.Am.B
open Go Go.Am.N AV Proofs.Tryz IntKind
theorem ab2:bC 188 f188:=bD func188
theorem afB:bC 189 f189:=bD func189
theorem Qn:bC 190 f190:=bD func190
theorem Wz:bC 191 f191:=bD func191
abbrev s6:List Nat:=[0,1,5,6,7]
abbrev Bb (A n l c i K:Nat):List AV:=[.mag A,.int .i64 n,.own K 1 0 l,.int .u64 c,.int .i64 i]
noncomputable abbrev NC:Code:=part (aJ f188) [1,1,1,0,1,0,0]
def N9:bG:=[(140,wo),(138,wI),(85,CU)]
theorem Zp:cm P N9:=aM xZ (aM Bq (aM Jf cK))
theorem Vg {A n:Nat}:aK T fZ [] 60 s6 (before (aJ f188) [1,1,1,0,1]) ⟨bf 0 [.mag A,.int .i64 n],[],0⟩=
  let c1:Int:=i64.wrap ((↑n:Int).tdiv (32:Int));some (af.aj [(32:Int)≠(0:Int),(0:Int)<=c1/\c1<=c1/\c1<=2^47/\c1*(↑(4:Nat):Int)<=2^47] (af.leaf au.normal ([mag A,int .i64 (↑n:Int),own 12288 1 0 c1.toNat,int .u64 (0:Int),int .i64 (0:Int)],[(12288,aC.mk true true 1 c1.toNat fun x=>int .u32 (0:Int))]))):=ah
theorem QV {A n l c i:Nat} {o:Nat->Nat}:aK T fZ [14] 60 s6 [NC] ⟨aH s6 (Bb A n l c i 7),dU 7 l o,8⟩=
  let c4:Int:=(↑n:Int).tmod (32:Int);let c3:AV:=int .i64 (↑n:Int);let c2:Int:=(↑i:Int);let c1:Int:=u64.wrap (↑(BitVec.ofInt u64.bits (↑c:Int)|||BitVec.ofInt u64.bits (u64.wrap (u64.wrap (↑(aE A c2.toNat):Int)*2^min c4.toNat u64.bits))).toNat:Int);some (af.fork (decide (c2<(↑(nl A):Int))) (af.aj [(0:Int)<=c2/\c2.toNat<nl A,(32:Int)≠(0:Int),(0:Int)<=c4] (af.aj [(1:Nat)*1<=2^24,(l+1)*((4:Nat)+1)*2<=2^47] (af.aj [(0:Int)<=32] (af.leaf au.normal ([mag A,c3,own 77832 1 0 (l+1),int .u64 (c1.fdiv ((2:Int)^min (Int.toNat (32:Int)) u64.bits)),int .i64 (i64.wrap (c2+1))],[(77832,aC.mk true true 1 (l+1) fun i=>if i<l then aD o i else nth [int .u32 (u32.wrap c1)] (int .u32 (0:Int)) (i-l+0))]))))) (af.leaf (au.exit 0) ([mag A,c3,own 7 1 0 l,int .u64 (↑c:Int),int .i64 c2],[(7,aC.mk true true 1 l fun a=>int .u32 (↑(o a):Int))]))):=ah
theorem WK {A n l c i:Nat} {o:Nat->Nat}:dJ T fZ [] 60 f188 (behind (aJ f188) [1,1,1,0,1]) ⟨aH s6 (Bb A n l c i 7),dU 7 l o,8⟩=
  let c3:AV:=int .u32 (0:Int);let c2:Nat:=l+1;let c1:AV:=int .u32 (u32.wrap (↑c:Int));some (af.aj [(1:Nat)*1<=2^24,c2*((4:Nat)+1)*2<=2^47,fu c2 fun i=>if i+0<l then aD o (i+0)else nth [c1] c3 (i+0-l+0),c2<2^40] (af.leaf au.ret [mag (val c2 fun i=>numOf (if i+0<l then aD o (i+0)else nth [c1] c3 (i+0-l+0)))])):=ah
theorem Vh {A n:Nat}:cy T fZ [7] 60 f189 (aJ f189) ⟨bf 0 [.mag A,.int .i64 n],[],0⟩=
  let c1:Int:=(↑n:Int);some (af.fork ((↑(nl A):Int)==0) (af.leaf au.ret [nil]) (af.aj [(0:Int)<=c1/\c1<=c1/\c1<=2^47/\c1*(↑(4:Nat):Int)<=2^47,(c1.toNat+nl A)*((4:Nat)+1)*2<=2^47] (af.leaf au.ret [az 1 (c1.toNat+nl A) fun i=>if i+0<c1.toNat then int .u32 (0:Int)else int .u32 (↑(aE A (i+0-c1.toNat)):Int)]))):=ah
theorem aaB {A b:Nat}:cy T N9 [] 60 f190 (aJ f190) ⟨bf 0 [.mag A,.int .u32 b],[],0⟩=
  let c1:Int:=u64.wrap (↑b:Int);some (af.aj [(0:Int)<=c1/\c1<2^64,nl A<2^39,nl c1.toNat<2^39] (af.leaf au.ret [mag (A*c1.toNat)])):=ah
abbrev oV:List Nat:=[0,1,5,6]
abbrev zh (a:Nat->Nat) (l n i K:Nat):List AV:=[.az 1 l (aD a),.int .i64 n,.own K 1 0 l,.int .i64 i]
noncomputable abbrev J7:Code:=part (aJ f191) [1,1,1,1,0,1,0,0]
theorem acB {A n:Nat}:aK T fZ [12] 60 (oV++[4]) (before (aJ f191) [1,1,1,1,0,1]) ⟨bf 0 [.mag A,.int .i64 n],[],0⟩=
  let c5:AV:=int .i64 (↑n:Int);let c3:Int:=(↑(nl A):Int);let c2:Int:=i64.wrap ((↑n:Int).tdiv (32:Int));let c1:Nat:=c3.toNat-c2.toNat;let c4:Int:=(↑c1:Int);some (af.aj [(32:Int)≠(0:Int)] (af.fork (decide (c2>=c3)) (af.leaf au.ret ([mag A,c5,tuple [],tuple [],nil],[])) (af.aj [(32:Int)≠(0:Int),(0:Int)<=c2/\c2<=c3/\c3<=c3/\c3<=c3] (af.aj [(0:Int)<=c4/\c4<=c4/\c4<=2^47/\c4*(↑(4:Nat):Int)<=2^47] (af.leaf au.normal ([az 1 c1 fun i=>int .u32 (↑(aE A (i+c2.toNat)):Int),c5,own 53248 1 0 c4.toNat,int .i64 (0:Int),nil],[(53248,aC.mk true true 1 c4.toNat fun x=>int .u32 (0:Int))])))))):=ah
theorem QO {n l i:Nat} {a o:Nat->Nat}:aK T fZ [23,35] 60 oV [J7] ⟨aH oV (zh a l n i 7),dU 7 l o,8⟩=
  let c13:Int:=(↑l:Int);let c12:Int:=(↑n:Int).tmod (32:Int);let c11:AV:=int .i64 (↑n:Int);let c9:AV:=own 7 1 0 l;let c8:Int:=(↑i:Int);let c6:AV:=az 1 l fun a_1=>int .u32 (↑(a a_1):Int);let c5:Int:=(2:Int)^min c12.toNat u64.bits;let c4:Nat:=c8.toNat;let c1:Int:=i64.wrap (c8+1);let c10:Int:=u64.wrap (↑(a c4):Int);let c7:Nat:=c4+0;let c2:List AV:=[c6,c11,c9,int .i64 c1];let c3:List Prop:=[(32:Int)≠(0:Int),(0:Int)<=c12,(0:Int)<=c8/\c4<l,c7<l];some (af.fork (decide (c8<c13)) (af.aj [(0:Int)<=c8/\c4<l] (af.fork (decide (c1<c13)) (af.aj [(0:Int)<=c1/\c1.toNat<l,(0:Int)<=32] (af.aj c3 (af.leaf au.normal (c2,[(7,aC.mk true true 1 l fun j=>if(j==c7)=true then int .u32 (u32.wrap ((u64.wrap (↑(BitVec.ofInt u64.bits c10|||BitVec.ofInt u64.bits (u64.wrap (u64.wrap (↑(a c1.toNat):Int)*2^min (Int.toNat (32:Int)) u64.bits))).toNat:Int)).fdiv c5))else aD o j)])))) (af.aj c3 (af.leaf au.normal (c2,[(7,aC.mk true true 1 l fun j=>if(j==c7)=true then int .u32 (u32.wrap (c10.fdiv c5))else aD o j)]))))) (af.leaf (au.exit 0) ([c6,c11,c9,int .i64 c8],[(7,aC.mk true true 1 l fun a=>int .u32 (↑(o a):Int))]))):=ah
theorem SY {n l i:Nat} {a o:Nat->Nat}:dJ T fZ [] 60 f191 (behind (aJ f191) [1,1,1,1,0,1]) ⟨aH oV (zh a l n i 7),dU 7 l o,8⟩=
  some (af.aj [fu l fun i=>aD o (i+0),l<2^40] (af.leaf au.ret [mag (val l fun i=>numOf (aD o (i+0)))])):=ah
theorem AW {c:Ctx} (h0:∀nx k x,c.k0 k=some x->k<nx):c.k0=bz:=by
 funext k
 cases hk:c.k0 k with
 |none=>rfl
 |some x=>have:=h0 0 k x hk;omega
theorem OG {o:Nat->Nat} {l:Nat} {v:Int} {x:Nat} (hv:v=(x:Nat)) {j:Nat} (hj:j<l+1):(if j<l then aD o j else nth [.int .u32 v] (.int .u32 0) (j-l))=aD (cP o l x) j:=by
 by_cases h:j<l
 ·rw[if_pos h];unfold aD;rw[g8 aa]
 ·have:j=l:=aa
  subst this
  rw[if_neg h,hv]
  simp[nth,aD,lR]
theorem Um {A n:Nat} (hA:nl A<2^39) (hn:n<2^43) (K:Nat):aY P 188 K [.mag A,.int .i64 n] [] (aT (.mag (A*2^n)) []):=by
 refine ja hT ab2 rfl br rfl (fun _ c0 h0=>?_) K []
 have hk0:=AW h0
 refine aA.hole [1,1,1,0,1] ah (aI.bM hT gn hm 60 s6 Vg ah ?_)
 have hw:i64.wrap ((n:Int).tdiv 32)=((n/32:Nat):Int):=by
  rw[show(n:Int).tdiv 32=((n/32:Nat):Int)from(Int.ofNat_tdiv n 32).symm]
  exact fY rfl aa
 have hmd:(n:Int).tmod 32=((n%32:Nat):Int):=(Int.ofNat_tmod n 32).symm
 rw[hw]
 obtain⟨k,hk⟩:∃k,k=n/32:=⟨_,rfl⟩
 obtain⟨s,hs⟩:∃s,s=n%32:=⟨_,rfl⟩
 rw[<-hs]at hmd
 rw[<-hk]
 simp only[af.all,aF,bJ]
 refine⟨aa,fun s' hv=>cU ?_⟩
 refine aA.jG (i:=0) (y:=NC) ah (fun p:Nat×Nat×(Nat->Nat)=>⟨aH s6 (Bb A n (k+p.1) p.2.1 p.1 7),dU 7 (k+p.1) p.2.2,8⟩)
  (fun p=>p.1<=nl A/\p.2.1<2^s/\(∀j,j<k+p.1->p.2.2 j<2^32)/\val (k+p.1) p.2.2+p.2.1*2^(32*(k+p.1))=val p.1 (aE A)*2^(32*k)*2^s)
  (fun p=>nl A-p.1) (0,0,fun _=>0)
  (eC [(7,12288)] hv hk0 rfl ⟨aU,aU,⟨rfl,e9 rfl rfl rfl⟩,aU,aU,trivial⟩ ⟨⟨_,_,rfl,rfl,gV rfl fun j _=>rfl⟩,trivial⟩)
  ⟨by simp,Nat.two_pow_pos s,fun _ _=>by simp,?_⟩ ?_
 ·simp only
  rw[val_zero fun _ _=>rfl]
  simp[val]
 rintro⟨i,c,o⟩ ⟨hi,hc,ho,hval⟩
 simp only at hi hc ho hval
 have hs32:s<32:=aa
 have h31:2^s<=2^31:=Nat.pow_le_pow_right aa aa
 have hzi:=eP (N:=A) (i:=i)
 refine aA.bM hT gn hm 60 s6 QV ah ?_
 rw[hmd]
 have fT:=Ky hs32 hzi hc
 obtain⟨b1,b2⟩:=MA hs32 hzi hc
 simp only[af.all,aF,bI,bO,bJ,Nat.add_zero]at fT ⊢
 rw[fT]
 refine⟨fun hb=>⟨⟨aa,aa,aa⟩,⟨aa,aa⟩,aa,fun s' hv=>⟨(i+1,(c+aE A i*2^s)/4294967296,cP o (k+i) ((c+aE A i*2^s)%4294967296)),?_,⟨by simp only;omega,b2,fun j hj=>?_,?_⟩,by simp only;omega⟩⟩,fun hb s' hv=>gD ?_⟩
 ·refine eC (vs:=Bb A n (k+(i+1)) ((c+aE A i*2^s)/4294967296) (i+1) 7) (ps:=dU 7 (k+(i+1)) (cP o (k+i) ((c+aE A i*2^s)%4294967296))) [(7,77832)] hv hk0 rfl ⟨aU,aU,⟨rfl,e9 rfl rfl rfl⟩,⟨rfl,iI ?_⟩,⟨rfl,iI ?_⟩,trivial⟩
   ⟨⟨_,_,rfl,rfl,gV rfl fun j hj=>OG (by rw[k9]) aa⟩,trivial⟩
  ·rw[nk];omega
  ·rw[wrap_i64 aa aa];omega
 ·simp only at hj ⊢
  unfold cP
  split
  ·omega
  ·exact ho j aa
 ·simp only
  have:=OB (x:=aE A i) hval
  rw[show k+(i+1)=(k+i)+1 by omega,rP,jn,this,val]
  congr 1
  rw[Nat.add_mul,Nat.mul_assoc,<-Nat.pow_add,show 32*i+32*k=32*(k+i) by omega]
 ·have hin:i=nl A:=aa
  show aI P c0 f188.ntmps (behind (aJ f188) [1,1,1,0,1]) s' _
  refine aI.lU hT gn hm 60 hv (h0 _) rfl (jl aa) WK ah ah ?_
  simp only[af.all,aF,Nat.add_zero]
  have ho':∀j,j<k+i+1->cP o (k+i) c j<2^32:=fun j hj=>by
   unfold cP
   split
   ·omega
   ·exact ho j aa
  have e:∀j,j<k+i+1->(if j<k+i then aD o j else nth [.int .u32 (u32.wrap (c:Int))] (.int .u32 0) (j-(k+i)))=aD (cP o (k+i) c) j:=fun j hj=>OG (wrap_u32 aa aa) hj
  refine⟨⟨aa,aa,fun j hj=>?_,aa⟩,fo (congrArg AV.mag ?_)⟩
  ·exact⟨_,ho' j hj,e j hj⟩
  ·rw[val_congr (y:=cP o (k+i) c) fun j hj=>(congrArg numOf (e j hj)).trans Da,rP,hval,hin,iE,Nat.mul_assoc,<-Nat.pow_add]
   congr 2
   omega
def HS:Spec:=cw fun l=>match l with
 |[a,.int .i64 n]=>match kj a with
  |some A=>some (aT (.mag (A*2^n.toNat)) [nl A<2^39,0<=n,n<2^43])
  |none=>none
 |_=>none
theorem CY {f:FuncId} {g:Nat->Int->AV} {l:Nat->List Prop} {m:Int} (h:∀{A n:Nat},aF (l A)->(n:Int)<m->∀K,aY P f K [.mag A,.int .i64 n] [] (aT (g A n) [])):∀K args pre r,cw (fun a=>match a with
 |[a,.int .i64 n]=>match kj a with
  |some A=>some (aT (g A n) (l A++[0<=n,n<m]))
  |none=>none
 |_=>none) K args pre=some r->aY P f K args pre r:=by
 refine cY fun K args r hk hs _=>?_
 split at hs
 ·split at hs
  ·rename_i A hA
   simp only[aB]at hs
   subst hs
   intro need
   obtain⟨h1,h2,h3⟩:=iy.1 need
   rename_i n _
   obtain⟨n,rfl⟩:=Int.eq_ofNat_of_zero_le h2
   exact je (h h1 h3 K) hk ⟨mX hA,.refl _,trivial⟩ [] trivial
  ·simp at hs
 ·simp at hs
theorem YS:bF P HS 188:=
 CY (g:=fun A n=>.mag (A*2^n.toNat)) (l:=fun A=>[nl A<2^39]) (m:=2^43) fun {A n} h hn K=>by
  have:=Um (A:=A) (n:=n) h aa K
  simpa using this
theorem ac1 {A n:Nat} (hA:nl A<2^40) (hn:n<2^40) (K:Nat):aY P 189 K [.mag A,.int .i64 n] [] (aT (.mag (A*2^(32*n))) []):=by
 refine cB hT gn hm afB rfl br rfl 60 Vh (fun _=>?_) K []
 simp only[af.all,aF,beq_iff_eq,beq_eq_false_iff_ne,ne_eq,bJ,Nat.add_zero]
 refine⟨fun hb=>?_,fun hb=>⟨⟨aa,aa⟩,?_⟩⟩
 ·have:A=0:=kA.1 aa
  subst this
  rw[Nat.zero_mul];exact mM
 ·have hA0:A≠0:=fun h=>hb (by rw[h];rfl)
  have hlt:A*2^(32*n)<2^(32*(n+nl A)):=by
   rw[show 32*(n+nl A)=32*nl A+32*n by omega,Nat.pow_add]
   exact(Nat.mul_lt_mul_right (Nat.two_pow_pos _)).2 pn
  have hval:A*2^(32*n)=val (n+nl A) (fun i=>if i<n then 0 else aE A (i-n)):=by
   rw[val_add,val_zero fun i hi=>if_pos hi,Nat.zero_add]
   congr 1
   have:=iE (N:=A)
   conv=>lhs;rw[<-this]
   exact val_congr fun i hi=>by rw[if_neg aa];congr 1;omega
  have hz:∀i,i<n+nl A->(if i<n then 0 else aE A (i-n))<2^32:=fun i _=>by
   split
   ·omega
   ·exact eP
  refine l8 ?_ fun i hi=>?_
  ·rw[hval]
   refine Cj hz (.inr ?_)
   have hp:=iO.2 hA0
   rw[if_neg aa,show n+nl A-1-n=nl A-1 by omega]
   exact BD hA0
  ·rw[hval,rG hz hi]
   split<;>rfl
def H7:Spec:=cw fun l=>match l with
 |[a,.int .i64 n]=>match kj a with
  |some A=>some (aT (.mag (A*2^(32*n.toNat))) [nl A<2^40,0<=n,n<2^40])
  |none=>none
 |_=>none
theorem Yv:bF P H7 189:=
 CY (g:=fun A n=>.mag (A*2^(32*n.toNat))) (l:=fun A=>[nl A<2^40]) (m:=2^40) fun {A n} h hn K=>by
  have:=ac1 (A:=A) (n:=n) h aa K
  simpa using this
theorem PJ {A b:Nat} (hA:nl A<2^39) (hb:b<2^32) (K:Nat):aY P 190 K [.mag A,.int .u32 b] [] (aT (.mag (A*b)) []):=by
 refine cB hT Zp hm Qn rfl br rfl 60 aaB (fun _=>?_) K []
 have e:u64.wrap (b:Int)=(b:Int):=cG aa aa
 rw[e]
 simp only[af.all,aF,bJ]
 have:nl b<=1:=eo.2 aa
 exact⟨⟨aa,hA,aa⟩,.refl _⟩
def Is:Spec:=cw fun l=>match l with
 |[a,.int .u32 b]=>match kj a with
  |some A=>some (aT (.mag (A*b.toNat)) [nl A<2^39,0<=b,b<2^32])
  |none=>none
 |_=>none
theorem adK:bF P Is 190:=by
 refine cY fun K args r hk hs _=>?_
 split at hs
 ·rename_i a b
  split at hs
  ·rename_i A hA
   simp only[aB]at hs
   subst hs
   intro need
   obtain⟨h1,h2,h3⟩:nl A<2^39/\0<=b/\b<2^32:=need
   obtain⟨b,rfl⟩:=Int.eq_ofNat_of_zero_le h2
   exact je (PJ h1 aa K) hk ⟨mX hA,.refl _,trivial⟩ [] trivial
  ·simp at hs
 ·simp at hs
theorem SJ {A k i:Nat}:aE A (i+k)=aE (A/2^(32*k)) i:=by
 unfold aE
 rw[Nat.div_div_eq_div_mul,<-Nat.pow_add]
 congr 3
 omega
theorem ach {a b s:Nat} (ha:a<2^32) (hb:b<2^32) (hs:s<32):(b*4294967296+a)/2^s%4294967296=a/2^s+b%2^s*2^(32-s):=by
 have:=xp (R:=b*4294967296+a) (k:=0) hs
 have l0:aE (b*4294967296+a) 0=a:=by unfold aE;simp;omega
 have l1:aE (b*4294967296+a) (0+1)=b:=by unfold aE;simp;omega
 rw[l0,l1]at this
 rw[<-this]
 unfold aE
 simp
theorem afL {A n:Nat} (hA:nl A<2^40) (hn:n<2^62) (K:Nat):aY P 191 K [.mag A,.int .i64 n] [] (aT (.mag (A/2^n)) []):=by
 refine ja hT Wz rfl br rfl (fun _ c0 h0=>?_) K []
 have hk0:=AW h0
 refine aA.hole [1,1,1,1,0,1] ah (aI.bM hT gn hm 60 (oV++[4]) acB ah ?_)
 have hw:i64.wrap ((n:Int).tdiv 32)=((n/32:Nat):Int):=by
  rw[show(n:Int).tdiv 32=((n/32:Nat):Int)from(Int.ofNat_tdiv n 32).symm]
  exact fY rfl aa
 have hmd:(n:Int).tmod 32=((n%32:Nat):Int):=(Int.ofNat_tmod n 32).symm
 rw[hw]
 obtain⟨k,hk⟩:∃k,k=n/32:=⟨_,rfl⟩
 obtain⟨s,hs⟩:∃s,s=n%32:=⟨_,rfl⟩
 rw[<-hs]at hmd
 rw[<-hk]
 have hnk:2^n=2^(32*k)*2^s:=by rw[<-Nat.pow_add];congr 1;omega
 simp only[af.all,aF,bI,bO,bJ]
 refine⟨aa,fun hb s' hv=>gO (.inl ?_),fun hb=>⟨⟨aa,aa⟩,aa,fun s' hv=>cU ?_⟩⟩
 ·refine iS (us:=[.nil]) (.inr rfl) hv ah ?_
  have:A/2^n=0:=by
   rw[hnk,<-Nat.div_div_eq_div_mul,Nat.div_eq_of_lt (eo.1 (show nl A<=k by omega)),Nat.zero_div]
  rw[this];exact mM
 have hkA:k<nl A:=aa
 have hv:=kK (ls:=oV) (l:=[4]) (vs:=[.az 1 (nl A-k) fun i=>.int .u32 (aE A (i+k):Nat),.int .i64 n,.own 53248 1 0 (nl A-k),.int .i64 0]) hv rfl rfl
 obtain⟨R,hR⟩:∃R,R=A/2^(32*k):=⟨_,rfl⟩
 obtain⟨l,hl⟩:∃l,l=nl A-k:=⟨_,rfl⟩
 have hRl:R<2^(32*l):=by
  rw[hR,Nat.div_lt_iff_lt_mul (Nat.two_pow_pos _),<-Nat.pow_add,<-Nat.mul_add]
  exact eo.1 (show nl A<=l+k by omega)
 have hfun:(fun i=>AV.int .u32 (aE A (i+k):Nat))=aD (aE R):=by
  funext i;unfold aD;rw[SJ,hR]
 rw[hfun,<-hl]at hv
 refine aA.jG (i:=0) (y:=J7) ah (fun p:Nat×(Nat->Nat)=>⟨aH oV (zh (aE R) l n p.1 7),dU 7 l p.2,8⟩)
  (fun p=>p.1<=l/\∀j,j<p.1->p.2 j=aE (R/2^s) j)
  (fun p=>l-p.1) (0,fun _=>0)
  (eC [(7,53248)] hv hk0 rfl ⟨aU,aU,⟨rfl,e9 rfl rfl rfl⟩,aU,trivial⟩ ⟨⟨_,_,rfl,rfl,gV rfl fun j _=>rfl⟩,trivial⟩)
  ⟨by simp,fun j hj=>by simp only at hj;omega⟩ ?_
 rintro⟨i,o⟩ ⟨hi,ho⟩
 simp only at hi ho
 have hs32:s<32:=aa
 have ha:=eP (N:=R) (i:=i)
 have hb':=eP (N:=R) (i:=i+1)
 refine aA.bM hT gn hm 60 oV QO ah ?_
 have w1:i64.wrap ((i:Int)+1)=if i<l then((i+1:Nat):Int)else i64.wrap ((i:Int)+1):=by
  split
  ·exact fY aa aa
  ·rfl
 simp only[af.all,aF,bI,bO,bJ,Nat.add_zero,beq_iff_eq]
 have next:∀{s':aL} {v:Int},i<l->v=((aE (R/2^s) i:Nat):Int)->bp oV s'=some (zh (aE R) l n (i+1) 7,[(7,⟨true,true,1,l,fun j=>if j=i then .int .u32 v else aD o j⟩)])->
   ∃p:Nat×(Nat->Nat),(∃ρ,Le c0 ρ s' ⟨aH oV (zh (aE R) l n p.1 7),dU 7 l p.2,8⟩)/\(p.1<=l/\∀j,j<p.1->p.2 j=aE (R/2^s) j)/\l-p.1<l-i:=by
  intro s' v hil hv1 hv
  refine⟨(i+1,cP o i (aE (R/2^s) i)),q9 (eU hv rfl ?_) (h0 _) rfl (jl aa),⟨by simp only;omega,fun j hj=>?_⟩,by simp only;omega⟩
  ·simp only[dU]
   congr 3
   funext j
   exact jg hv1 j
  ·simp only at hj ⊢
   unfold cP
   split
   ·rename_i h;rw[h]
   ·exact ho j aa
 refine⟨fun hb=>?_,fun hb s' hv=>gD ?_⟩
 ·have hil:i<l:=aa
  rw[if_pos hil]at w1
  rw[w1,hmd]
  have hf:∀x:Nat,(x:Int).fdiv (2^min ((s:Int).toNat) u64.bits)=((x/2^s:Nat):Int):=fun x=>by
   have:min ((s:Int).toNat) u64.bits=s:=by
    have:u64.bits=64:=rfl
    omega
   rw[this,Int.fdiv_eq_ediv_of_nonneg _ (by exact Int.le_of_lt (Int.pow_pos (by decide)))]
   simp
  have wa:u64.wrap (aE R i:Int)=((aE R i:Nat):Int):=cG aa aa
  have fT:u64.wrap ((BitVec.ofInt u64.bits (u64.wrap (aE R i:Int))|||BitVec.ofInt u64.bits (u64.wrap (u64.wrap (aE R (i+1):Int)*2^min (Int.toNat 32) u64.bits))).toNat:Int)=((aE R (i+1)*4294967296+aE R i:Nat):Int):=by
   rw[BitVec.or_comm,cG (x:=(aE R (i+1):Int)) aa aa]
   exact uZ hb' ha
  simp only[bJ]
  refine⟨aa,fun h1=>⟨⟨aa,aa⟩,⟨aa,aa,aa,aa⟩,fun s' hv=>next hil ?_ hv⟩,fun h1=>⟨⟨aa,aa,aa,aa⟩,fun s' hv=>next hil ?_ hv⟩⟩
  ·rw[fT]
   have:=hf (aE R (i+1)*4294967296+aE R i)
   simp only[bJ]at this
   rw[this,k9,ach ha hb' hs32,xp hs32]
  ·rw[wa]
   have:=hf (aE R i)
   simp only[bJ]at this
   have hd:=Nat.div_le_self (aE R i) (2^s)
   rw[this,k9,xp hs32,kB (A:=R) (i:=i+1) (eo.2 (Nat.lt_of_lt_of_le hRl (Nat.pow_le_pow_right aa aa))),Nat.zero_mod,Nat.zero_mul,Nat.add_zero,Nat.mod_eq_of_lt aa]
 ·have hil:i=l:=aa
  show aI P c0 f191.ntmps (behind (aJ f191) [1,1,1,1,0,1]) s' _
  refine aI.lU hT gn hm 60 hv (h0 _) rfl (jl aa) SY ah ah ?_
  simp only[af.all,aF,Nat.add_zero,kX]
  refine⟨⟨iJ fun j hj=>?_,aa⟩,fo (congrArg AV.mag ?_)⟩
  ·rw[ho j aa];exact eP
  ·rw[val_congr (y:=aE (R/2^s)) fun j hj=>ho j aa,rB (Nat.lt_of_le_of_lt (Nat.div_le_self _ _) hRl),hR,hnk,Nat.div_div_eq_div_mul]
def NU:Spec:=cw fun l=>match l with
 |[a,.int .i64 n]=>match kj a with
  |some A=>some (aT (.mag (A/2^n.toNat)) [nl A<2^40,0<=n,n<2^62])
  |none=>none
 |_=>none
theorem Zw:bF P NU 191:=
 CY (g:=fun A n=>.mag (A/2^n.toNat)) (l:=fun A=>[nl A<2^40]) (m:=2^62) fun {A n} h hn K=>by
  have:=afL (A:=A) (n:=n) h aa K
  simpa using this
end Go.Am.B
