/- ref01: up, shifted, times, down. -/
import Derived.Test.YtolopdkjjlfgjaaGreatB24
set_option linter.unusedVariables false
namespace Go.Am.B
open Go Go.Am.N AV Proofs.Tryz IntKind
theorem afm:bf 188 f188:=bg func188
theorem aeF:bf 189 f189:=bg func189
theorem VP:bf 190 f190:=bg func190
theorem ack:bf 191 f191:=bg func191
abbrev tN:List Nat:=[0,1,5,6,7]
abbrev BI (A n l c i K:Nat):List AV:=[.mag A,.int .i64 n,.own K 1 0 l,.int .u64 c,.int .i64 i]
noncomputable abbrev Jp:Code:=part (aH f188) [1,1,1,0,1,0,0]
def QO:bk:=[(140,vS),(138,AN),(85,DS)]
theorem acm:bR P QO:=aJ Ai (aJ BG (aJ Rx cz))
theorem aiA {A n:Nat}:aI T fY [] 60 tN (before (aH f188) [1,1,1,0,1]) ⟨aU 0 [.mag A,.int .i64 n],[],0⟩=
  let c1:Int:=i64.wrap ((↑n:Int).tdiv (32:Int));some (ag.aj [(32:Int)≠(0:Int),(0:Int)<=c1/\c1<=c1/\c1<=2^47/\c1*(↑(4:Nat):Int)<=2^47] (ag.leaf aq.normal ([mag A,int .i64 (↑n:Int),own 12288 1 0 c1.toNat,int .u64 (0:Int),int .i64 (0:Int)],[(12288,au.mk true true 1 c1.toNat fun x=>int .u32 (0:Int))]))):=ah
theorem VX {A n l c i:Nat} {o:Nat->Nat}:aI T fY [14] 60 tN [Jp] ⟨aC tN (BI A n l c i 7),eo 7 l o,8⟩=
  let c4:Int:=(↑n:Int).tmod (32:Int);let c3:AV:=int .i64 (↑n:Int);let c2:Int:=(↑i:Int);let c1:Int:=u64.wrap (↑(BitVec.ofInt u64.bits (↑c:Int)|||BitVec.ofInt u64.bits (u64.wrap (u64.wrap (↑(aD A c2.toNat):Int)*2^min c4.toNat u64.bits))).toNat:Int);some (ag.fork (decide (c2<(↑(nl A):Int))) (ag.aj [(0:Int)<=c2/\c2.toNat<nl A,(32:Int)≠(0:Int),(0:Int)<=c4] (ag.aj [(1:Nat)*1<=2^24,(l+1)*((4:Nat)+1)*2<=2^47] (ag.aj [(0:Int)<=32] (ag.leaf aq.normal ([mag A,c3,own 77832 1 0 (l+1),int .u64 (c1.fdiv ((2:Int)^min (Int.toNat (32:Int)) u64.bits)),int .i64 (i64.wrap (c2+1))],[(77832,au.mk true true 1 (l+1) fun i=>if i<l then aB o i else nth [int .u32 (u32.wrap c1)] (int .u32 (0:Int)) (i-l+0))]))))) (ag.leaf (aq.exit 0) ([mag A,c3,own 7 1 0 l,int .u64 (↑c:Int),int .i64 c2],[(7,au.mk true true 1 l fun a=>int .u32 (↑(o a):Int))]))):=ah
theorem ahz {A n l c i:Nat} {o:Nat->Nat}:cQ T fY [] 60 f188 (behind (aH f188) [1,1,1,0,1]) ⟨aC tN (BI A n l c i 7),eo 7 l o,8⟩=
  let c3:AV:=int .u32 (0:Int);let c2:Nat:=l+1;let c1:AV:=int .u32 (u32.wrap (↑c:Int));some (ag.aj [(1:Nat)*1<=2^24,c2*((4:Nat)+1)*2<=2^47,fm c2 fun i=>if i+0<l then aB o (i+0)else nth [c1] c3 (i+0-l+0),c2<2^40] (ag.leaf aq.ret [mag (val c2 fun i=>numOf (if i+0<l then aB o (i+0)else nth [c1] c3 (i+0-l+0)))])):=ah
theorem afC {A n:Nat}:b9 T fY [7] 60 f189 (aH f189) ⟨aU 0 [.mag A,.int .i64 n],[],0⟩=
  let c1:Int:=(↑n:Int);some (ag.fork ((↑(nl A):Int)==0) (ag.leaf aq.ret [nil]) (ag.aj [(0:Int)<=c1/\c1<=c1/\c1<=2^47/\c1*(↑(4:Nat):Int)<=2^47,(c1.toNat+nl A)*((4:Nat)+1)*2<=2^47] (ag.leaf aq.ret [ak 1 (c1.toNat+nl A) fun i=>if i+0<c1.toNat then int .u32 (0:Int)else int .u32 (↑(aD A (i+0-c1.toNat)):Int)]))):=ah
theorem TF {A b:Nat}:b9 T QO [] 60 f190 (aH f190) ⟨aU 0 [.mag A,.int .u32 b],[],0⟩=
  let c1:Int:=u64.wrap (↑b:Int);some (ag.aj [(0:Int)<=c1/\c1<2^64,nl A<2^39,nl c1.toNat<2^39] (ag.leaf aq.ret [mag (A*c1.toNat)])):=ah
abbrev oI:List Nat:=[0,1,5,6]
abbrev xj (a:Nat->Nat) (l n i K:Nat):List AV:=[.ak 1 l (aB a),.int .i64 n,.own K 1 0 l,.int .i64 i]
noncomputable abbrev Ja:Code:=part (aH f191) [1,1,1,1,0,1,0,0]
theorem adz {A n:Nat}:aI T fY [12] 60 (oI++[4]) (before (aH f191) [1,1,1,1,0,1]) ⟨aU 0 [.mag A,.int .i64 n],[],0⟩=
  let c5:AV:=int .i64 (↑n:Int);let c3:Int:=(↑(nl A):Int);let c2:Int:=i64.wrap ((↑n:Int).tdiv (32:Int));let c1:Nat:=c3.toNat-c2.toNat;let c4:Int:=(↑c1:Int);some (ag.aj [(32:Int)≠(0:Int)] (ag.fork (decide (c2>=c3)) (ag.leaf aq.ret ([mag A,c5,tuple [],tuple [],nil],[])) (ag.aj [(32:Int)≠(0:Int),(0:Int)<=c2/\c2<=c3/\c3<=c3/\c3<=c3] (ag.aj [(0:Int)<=c4/\c4<=c4/\c4<=2^47/\c4*(↑(4:Nat):Int)<=2^47] (ag.leaf aq.normal ([ak 1 c1 fun i=>int .u32 (↑(aD A (i+c2.toNat)):Int),c5,own 53248 1 0 c4.toNat,int .i64 (0:Int),nil],[(53248,au.mk true true 1 c4.toNat fun x=>int .u32 (0:Int))])))))):=ah
theorem aeW {n l i:Nat} {a o:Nat->Nat}:aI T fY [23,35] 60 oI [Ja] ⟨aC oI (xj a l n i 7),eo 7 l o,8⟩=
  let c13:Int:=(↑l:Int);let c12:Int:=(↑n:Int).tmod (32:Int);let c11:AV:=int .i64 (↑n:Int);let c9:AV:=own 7 1 0 l;let c8:Int:=(↑i:Int);let c6:AV:=ak 1 l fun a_1=>int .u32 (↑(a a_1):Int);let c5:Int:=(2:Int)^min c12.toNat u64.bits;let c4:Nat:=c8.toNat;let c1:Int:=i64.wrap (c8+1);let c10:Int:=u64.wrap (↑(a c4):Int);let c7:Nat:=c4+0;let c2:List AV:=[c6,c11,c9,int .i64 c1];let c3:List Prop:=[(32:Int)≠(0:Int),(0:Int)<=c12,(0:Int)<=c8/\c4<l,c7<l];some (ag.fork (decide (c8<c13)) (ag.aj [(0:Int)<=c8/\c4<l] (ag.fork (decide (c1<c13)) (ag.aj [(0:Int)<=c1/\c1.toNat<l,(0:Int)<=32] (ag.aj c3 (ag.leaf aq.normal (c2,[(7,au.mk true true 1 l fun j=>if(j==c7)=true then int .u32 (u32.wrap ((u64.wrap (↑(BitVec.ofInt u64.bits c10|||BitVec.ofInt u64.bits (u64.wrap (u64.wrap (↑(a c1.toNat):Int)*2^min (Int.toNat (32:Int)) u64.bits))).toNat:Int)).fdiv c5))else aB o j)])))) (ag.aj c3 (ag.leaf aq.normal (c2,[(7,au.mk true true 1 l fun j=>if(j==c7)=true then int .u32 (u32.wrap (c10.fdiv c5))else aB o j)]))))) (ag.leaf (aq.exit 0) ([c6,c11,c9,int .i64 c8],[(7,au.mk true true 1 l fun a=>int .u32 (↑(o a):Int))]))):=ah
theorem Tn {n l i:Nat} {a o:Nat->Nat}:cQ T fY [] 60 f191 (behind (aH f191) [1,1,1,1,0,1]) ⟨aC oI (xj a l n i 7),eo 7 l o,8⟩=
  some (ag.aj [fm l fun i=>aB o (i+0),l<2^40] (ag.leaf aq.ret [mag (val l fun i=>numOf (aB o (i+0)))])):=ah
theorem DR {c:Ctx} (h0:∀nx k x,c.k0 k=some x->k<nx):c.k0=bI:=by
 funext k
 cases hk:c.k0 k with
 |none=>rfl
 |some x=>have:=h0 0 k x hk;omega
theorem MG {o:Nat->Nat} {l:Nat} {v:Int} {x:Nat} (hv:v=(x:Nat)) {j:Nat} (hj:j<l+1):(if j<l then aB o j else nth [.int .u32 v] (.int .u32 0) (j-l))=aB (cV o l x) j:=by
 by_cases h:j<l
 ·rw[if_pos h];unfold aB;rw[gX aa]
 ·have:j=l:=aa
  subst this
  rw[if_neg h,hv]
  simp[nth,aB,lU]
theorem VH {A n:Nat} (hA:nl A<2^39) (hn:n<2^43) (K:Nat):aQ P 188 K [.mag A,.int .i64 n] [] (aL (.mag (A*2^n)) []):=by
 refine iw hT afm rfl aX rfl (fun _ c0 h0=>?_) K []
 have hk0:=DR h0
 refine ax.hole [1,1,1,0,1] ah (aG.bO hT gh hm 60 tN aiA ah ?_)
 have hw:i64.wrap ((n:Int).tdiv 32)=((n/32:Nat):Int):=by
  rw[show(n:Int).tdiv 32=((n/32:Nat):Int)from(Int.ofNat_tdiv n 32).symm]
  exact fS rfl aa
 have hmd:(n:Int).tmod 32=((n%32:Nat):Int):=(Int.ofNat_tmod n 32).symm
 rw[hw]
 obtain⟨k,hk⟩:∃k,k=n/32:=⟨_,rfl⟩
 obtain⟨s,hs⟩:∃s,s=n%32:=⟨_,rfl⟩
 rw[<-hs]at hmd
 rw[<-hk]
 simp only[ag.all,az,bJ]
 refine⟨aa,fun s' hv=>cZ ?_⟩
 refine ax.jj (i:=0) (y:=Jp) ah (fun p:Nat×Nat×(Nat->Nat)=>⟨aC tN (BI A n (k+p.1) p.2.1 p.1 7),eo 7 (k+p.1) p.2.2,8⟩)
  (fun p=>p.1<=nl A/\p.2.1<2^s/\(∀j,j<k+p.1->p.2.2 j<2^32)/\val (k+p.1) p.2.2+p.2.1*2^(32*(k+p.1))=val p.1 (aD A)*2^(32*k)*2^s)
  (fun p=>nl A-p.1) (0,0,fun _=>0)
  (eG [(7,12288)] hv hk0 rfl ⟨aS,aS,⟨rfl,eE rfl rfl rfl⟩,aS,aS,trivial⟩ ⟨⟨_,_,rfl,rfl,gI rfl fun j _=>rfl⟩,trivial⟩)
  ⟨by simp,Nat.two_pow_pos s,fun _ _=>by simp,?_⟩ ?_
 ·simp only
  rw[val_zero fun _ _=>rfl]
  simp[val]
 rintro⟨i,c,o⟩ ⟨hi,hc,ho,hval⟩
 simp only at hi hc ho hval
 have hs32:s<32:=aa
 have h31:2^s<=2^31:=Nat.pow_le_pow_right aa aa
 have hzi:=eZ (N:=A) (i:=i)
 refine ax.bO hT gh hm 60 tN VX ah ?_
 rw[hmd]
 have fP:=KX hs32 hzi hc
 obtain⟨b1,b2⟩:=Jg hs32 hzi hc
 simp only[ag.all,az,bB,bD,bJ,Nat.add_zero]at fP ⊢
 rw[fP]
 refine⟨fun hb=>⟨⟨aa,aa,aa⟩,⟨aa,aa⟩,aa,fun s' hv=>⟨(i+1,(c+aD A i*2^s)/4294967296,cV o (k+i) ((c+aD A i*2^s)%4294967296)),?_,⟨by simp only;omega,b2,fun j hj=>?_,?_⟩,by simp only;omega⟩⟩,fun hb s' hv=>gB ?_⟩
 ·refine eG (vs:=BI A n (k+(i+1)) ((c+aD A i*2^s)/4294967296) (i+1) 7) (ps:=eo 7 (k+(i+1)) (cV o (k+i) ((c+aD A i*2^s)%4294967296))) [(7,77832)] hv hk0 rfl ⟨aS,aS,⟨rfl,eE rfl rfl rfl⟩,⟨rfl,iK ?_⟩,⟨rfl,iK ?_⟩,trivial⟩
   ⟨⟨_,_,rfl,rfl,gI rfl fun j hj=>MG (by rw[kX]) aa⟩,trivial⟩
  ·rw[mR];omega
  ·rw[wrap_i64 aa aa];omega
 ·simp only at hj ⊢
  unfold cV
  split
  ·omega
  ·exact ho j aa
 ·simp only
  have:=Lz (x:=aD A i) hval
  rw[show k+(i+1)=(k+i)+1 by omega,rV,jf,this,val]
  congr 1
  rw[Nat.add_mul,Nat.mul_assoc,<-Nat.pow_add,show 32*i+32*k=32*(k+i) by omega]
 ·have hin:i=nl A:=aa
  show aG P c0 f188.ntmps (behind (aH f188) [1,1,1,0,1]) s' _
  refine aG.lO hT gh hm 60 hv (h0 _) rfl (iU aa) ahz ah ah ?_
  simp only[ag.all,az,Nat.add_zero]
  have ho':∀j,j<k+i+1->cV o (k+i) c j<2^32:=fun j hj=>by
   unfold cV
   split
   ·omega
   ·exact ho j aa
  have e:∀j,j<k+i+1->(if j<k+i then aB o j else nth [.int .u32 (u32.wrap (c:Int))] (.int .u32 0) (j-(k+i)))=aB (cV o (k+i) c) j:=fun j hj=>MG (wrap_u32 aa aa) hj
  refine⟨⟨aa,aa,fun j hj=>?_,aa⟩,fk (congrArg AV.mag ?_)⟩
  ·exact⟨_,ho' j hj,e j hj⟩
  ·rw[val_congr (y:=cV o (k+i) c) fun j hj=>(congrArg numOf (e j hj)).trans Hg,rV,hval,hin,iB,Nat.mul_assoc,<-Nat.pow_add]
   congr 2
   omega
def Nt:Spec:=cu fun l=>match l with
 |[a,.int .i64 n]=>match jJ a with
  |some A=>some (aL (.mag (A*2^n.toNat)) [nl A<2^39,0<=n,n<2^43])
  |none=>none
 |_=>none
theorem Ef {f:FuncId} {g:Nat->Int->AV} {l:Nat->List Prop} {m:Int} (h:∀{A n:Nat},az (l A)->(n:Int)<m->∀K,aQ P f K [.mag A,.int .i64 n] [] (aL (g A n) [])):∀K args pre r,cu (fun a=>match a with
 |[a,.int .i64 n]=>match jJ a with
  |some A=>some (aL (g A n) (l A++[0<=n,n<m]))
  |none=>none
 |_=>none) K args pre=some r->aQ P f K args pre r:=by
 refine cW fun K args r hk hs _=>?_
 split at hs
 ·split at hs
  ·rename_i A hA
   simp only[ay]at hs
   subst hs
   intro need
   obtain⟨h1,h2,h3⟩:=gJ.1 need
   rename_i n _
   obtain⟨n,rfl⟩:=Int.eq_ofNat_of_zero_le h2
   exact gW (h h1 h3 K) hk ⟨mY hA,.refl _,trivial⟩ [] trivial
  ·simp at hs
 ·simp at hs
theorem afL:aY P Nt 188:=
 Ef (g:=fun A n=>.mag (A*2^n.toNat)) (l:=fun A=>[nl A<2^39]) (m:=2^43) fun {A n} h hn K=>by
  have:=VH (A:=A) (n:=n) h aa K
  simpa using this
theorem RH {A n:Nat} (hA:nl A<2^40) (hn:n<2^40) (K:Nat):aQ P 189 K [.mag A,.int .i64 n] [] (aL (.mag (A*2^(32*n))) []):=by
 refine ck hT gh hm aeF rfl aX rfl 60 afC (fun _=>?_) K []
 simp only[ag.all,az,beq_iff_eq,beq_eq_false_iff_ne,ne_eq,bJ,Nat.add_zero]
 refine⟨fun hb=>?_,fun hb=>⟨⟨aa,aa⟩,?_⟩⟩
 ·have:A=0:=jY.1 aa
  subst this
  rw[Nat.zero_mul];exact l9
 ·have hA0:A≠0:=fun h=>hb (by rw[h];rfl)
  have hlt:A*2^(32*n)<2^(32*(n+nl A)):=by
   rw[show 32*(n+nl A)=32*nl A+32*n by omega,Nat.pow_add]
   exact(Nat.mul_lt_mul_right (Nat.two_pow_pos _)).2 nY
  have hval:A*2^(32*n)=val (n+nl A) (fun i=>if i<n then 0 else aD A (i-n)):=by
   rw[val_add,val_zero fun i hi=>if_pos hi,Nat.zero_add]
   congr 1
   have:=iB (N:=A)
   conv=>lhs;rw[<-this]
   exact val_congr fun i hi=>by rw[if_neg aa];congr 1;omega
  have hz:∀i,i<n+nl A->(if i<n then 0 else aD A (i-n))<2^32:=fun i _=>by
   split
   ·omega
   ·exact eZ
  refine lT ?_ fun i hi=>?_
  ·rw[hval]
   refine Dd hz (.inr ?_)
   have hp:=iF.2 hA0
   rw[if_neg aa,show n+nl A-1-n=nl A-1 by omega]
   exact zI hA0
  ·rw[hval,qY hz hi]
   split<;>rfl
def Jm:Spec:=cu fun l=>match l with
 |[a,.int .i64 n]=>match jJ a with
  |some A=>some (aL (.mag (A*2^(32*n.toNat))) [nl A<2^40,0<=n,n<2^40])
  |none=>none
 |_=>none
theorem afJ:aY P Jm 189:=
 Ef (g:=fun A n=>.mag (A*2^(32*n.toNat))) (l:=fun A=>[nl A<2^40]) (m:=2^40) fun {A n} h hn K=>by
  have:=RH (A:=A) (n:=n) h aa K
  simpa using this
theorem SJ {A b:Nat} (hA:nl A<2^39) (hb:b<2^32) (K:Nat):aQ P 190 K [.mag A,.int .u32 b] [] (aL (.mag (A*b)) []):=by
 refine ck hT acm hm VP rfl aX rfl 60 TF (fun _=>?_) K []
 have e:u64.wrap (b:Int)=(b:Int):=cK aa aa
 rw[e]
 simp only[ag.all,az,bJ]
 have:nl b<=1:=eA.2 aa
 exact⟨⟨aa,hA,aa⟩,.refl _⟩
def NL:Spec:=cu fun l=>match l with
 |[a,.int .u32 b]=>match jJ a with
  |some A=>some (aL (.mag (A*b.toNat)) [nl A<2^39,0<=b,b<2^32])
  |none=>none
 |_=>none
theorem Wm:aY P NL 190:=by
 refine cW fun K args r hk hs _=>?_
 split at hs
 ·rename_i a b
  split at hs
  ·rename_i A hA
   simp only[ay]at hs
   subst hs
   intro need
   obtain⟨h1,h2,h3⟩:nl A<2^39/\0<=b/\b<2^32:=need
   obtain⟨b,rfl⟩:=Int.eq_ofNat_of_zero_le h2
   exact gW (SJ h1 aa K) hk ⟨mY hA,.refl _,trivial⟩ [] trivial
  ·simp at hs
 ·simp at hs
theorem agW {A k i:Nat}:aD A (i+k)=aD (A/2^(32*k)) i:=by
 unfold aD
 rw[Nat.div_div_eq_div_mul,<-Nat.pow_add]
 congr 3
 omega
theorem Vr {a b s:Nat} (ha:a<2^32) (hb:b<2^32) (hs:s<32):(b*4294967296+a)/2^s%4294967296=a/2^s+b%2^s*2^(32-s):=by
 have:=AM (R:=b*4294967296+a) (k:=0) hs
 have l0:aD (b*4294967296+a) 0=a:=by unfold aD;simp;omega
 have l1:aD (b*4294967296+a) (0+1)=b:=by unfold aD;simp;omega
 rw[l0,l1]at this
 rw[<-this]
 unfold aD
 simp
theorem WJ {A n:Nat} (hA:nl A<2^40) (hn:n<2^62) (K:Nat):aQ P 191 K [.mag A,.int .i64 n] [] (aL (.mag (A/2^n)) []):=by
 refine iw hT ack rfl aX rfl (fun _ c0 h0=>?_) K []
 have hk0:=DR h0
 refine ax.hole [1,1,1,1,0,1] ah (aG.bO hT gh hm 60 (oI++[4]) adz ah ?_)
 have hw:i64.wrap ((n:Int).tdiv 32)=((n/32:Nat):Int):=by
  rw[show(n:Int).tdiv 32=((n/32:Nat):Int)from(Int.ofNat_tdiv n 32).symm]
  exact fS rfl aa
 have hmd:(n:Int).tmod 32=((n%32:Nat):Int):=(Int.ofNat_tmod n 32).symm
 rw[hw]
 obtain⟨k,hk⟩:∃k,k=n/32:=⟨_,rfl⟩
 obtain⟨s,hs⟩:∃s,s=n%32:=⟨_,rfl⟩
 rw[<-hs]at hmd
 rw[<-hk]
 have hnk:2^n=2^(32*k)*2^s:=by rw[<-Nat.pow_add];congr 1;omega
 simp only[ag.all,az,bB,bD,bJ]
 refine⟨aa,fun hb s' hv=>gy (.inl ?_),fun hb=>⟨⟨aa,aa⟩,aa,fun s' hv=>cZ ?_⟩⟩
 ·refine iP (us:=[.nil]) (.inr rfl) hv ah ?_
  have:A/2^n=0:=by
   rw[hnk,<-Nat.div_div_eq_div_mul,Nat.div_eq_of_lt (eA.1 (show nl A<=k by omega)),Nat.zero_div]
  rw[this];exact l9
 have hkA:k<nl A:=aa
 have hv:=kn (ls:=oI) (l:=[4]) (vs:=[.ak 1 (nl A-k) fun i=>.int .u32 (aD A (i+k):Nat),.int .i64 n,.own 53248 1 0 (nl A-k),.int .i64 0]) hv rfl rfl
 obtain⟨R,hR⟩:∃R,R=A/2^(32*k):=⟨_,rfl⟩
 obtain⟨l,hl⟩:∃l,l=nl A-k:=⟨_,rfl⟩
 have hRl:R<2^(32*l):=by
  rw[hR,Nat.div_lt_iff_lt_mul (Nat.two_pow_pos _),<-Nat.pow_add,<-Nat.mul_add]
  exact eA.1 (show nl A<=l+k by omega)
 have hfun:(fun i=>AV.int .u32 (aD A (i+k):Nat))=aB (aD R):=by
  funext i;unfold aB;rw[agW,hR]
 rw[hfun,<-hl]at hv
 refine ax.jj (i:=0) (y:=Ja) ah (fun p:Nat×(Nat->Nat)=>⟨aC oI (xj (aD R) l n p.1 7),eo 7 l p.2,8⟩)
  (fun p=>p.1<=l/\∀j,j<p.1->p.2 j=aD (R/2^s) j)
  (fun p=>l-p.1) (0,fun _=>0)
  (eG [(7,53248)] hv hk0 rfl ⟨aS,aS,⟨rfl,eE rfl rfl rfl⟩,aS,trivial⟩ ⟨⟨_,_,rfl,rfl,gI rfl fun j _=>rfl⟩,trivial⟩)
  ⟨by simp,fun j hj=>by simp only at hj;omega⟩ ?_
 rintro⟨i,o⟩ ⟨hi,ho⟩
 simp only at hi ho
 have hs32:s<32:=aa
 have ha:=eZ (N:=R) (i:=i)
 have hb':=eZ (N:=R) (i:=i+1)
 refine ax.bO hT gh hm 60 oI aeW ah ?_
 have w1:i64.wrap ((i:Int)+1)=if i<l then((i+1:Nat):Int)else i64.wrap ((i:Int)+1):=by
  split
  ·exact fS aa aa
  ·rfl
 simp only[ag.all,az,bB,bD,bJ,Nat.add_zero,beq_iff_eq]
 have next:∀{s':aN} {v:Int},i<l->v=((aD (R/2^s) i:Nat):Int)->bE oI s'=some (xj (aD R) l n (i+1) 7,[(7,⟨true,true,1,l,fun j=>if j=i then .int .u32 v else aB o j⟩)])->
   ∃p:Nat×(Nat->Nat),(∃ρ,Le c0 ρ s' ⟨aC oI (xj (aD R) l n p.1 7),eo 7 l p.2,8⟩)/\(p.1<=l/\∀j,j<p.1->p.2 j=aD (R/2^s) j)/\l-p.1<l-i:=by
  intro s' v hil hv1 hv
  refine⟨(i+1,cV o i (aD (R/2^s) i)),rF (fe hv rfl ?_) (h0 _) rfl (iU aa),⟨by simp only;omega,fun j hj=>?_⟩,by simp only;omega⟩
  ·simp only[eo]
   congr 3
   funext j
   exact iY hv1 j
  ·simp only at hj ⊢
   unfold cV
   split
   ·rename_i h;rw[h]
   ·exact ho j aa
 refine⟨fun hb=>?_,fun hb s' hv=>gB ?_⟩
 ·have hil:i<l:=aa
  rw[if_pos hil]at w1
  rw[w1,hmd]
  have hf:∀x:Nat,(x:Int).fdiv (2^min ((s:Int).toNat) u64.bits)=((x/2^s:Nat):Int):=fun x=>by
   have:min ((s:Int).toNat) u64.bits=s:=by
    have:u64.bits=64:=rfl
    omega
   rw[this,Int.fdiv_eq_ediv_of_nonneg _ (by exact Int.le_of_lt (Int.pow_pos (by decide)))]
   simp
  have wa:u64.wrap (aD R i:Int)=((aD R i:Nat):Int):=cK aa aa
  have fP:u64.wrap ((BitVec.ofInt u64.bits (u64.wrap (aD R i:Int))|||BitVec.ofInt u64.bits (u64.wrap (u64.wrap (aD R (i+1):Int)*2^min (Int.toNat 32) u64.bits))).toNat:Int)=((aD R (i+1)*4294967296+aD R i:Nat):Int):=by
   rw[BitVec.or_comm,cK (x:=(aD R (i+1):Int)) aa aa]
   exact uI hb' ha
  simp only[bJ]
  refine⟨aa,fun h1=>⟨⟨aa,aa⟩,⟨aa,aa,aa,aa⟩,fun s' hv=>next hil ?_ hv⟩,fun h1=>⟨⟨aa,aa,aa,aa⟩,fun s' hv=>next hil ?_ hv⟩⟩
  ·rw[fP]
   have:=hf (aD R (i+1)*4294967296+aD R i)
   simp only[bJ]at this
   rw[this,kX,Vr ha hb' hs32,AM hs32]
  ·rw[wa]
   have:=hf (aD R i)
   simp only[bJ]at this
   have hd:=Nat.div_le_self (aD R i) (2^s)
   rw[this,kX,AM hs32,kG (A:=R) (i:=i+1) (eA.2 (Nat.lt_of_lt_of_le hRl (Nat.pow_le_pow_right aa aa))),Nat.zero_mod,Nat.zero_mul,Nat.add_zero,Nat.mod_eq_of_lt aa]
 ·have hil:i=l:=aa
  show aG P c0 f191.ntmps (behind (aH f191) [1,1,1,1,0,1]) s' _
  refine aG.lO hT gh hm 60 hv (h0 _) rfl (iU aa) Tn ah ah ?_
  simp only[ag.all,az,Nat.add_zero,kY]
  refine⟨⟨iE fun j hj=>?_,aa⟩,fk (congrArg AV.mag ?_)⟩
  ·rw[ho j aa];exact eZ
  ·rw[val_congr (y:=aD (R/2^s)) fun j hj=>ho j aa,rM (Nat.lt_of_le_of_lt (Nat.div_le_self _ _) hRl),hR,hnk,Nat.div_div_eq_div_mul]
def N7:Spec:=cu fun l=>match l with
 |[a,.int .i64 n]=>match jJ a with
  |some A=>some (aL (.mag (A/2^n.toNat)) [nl A<2^40,0<=n,n<2^62])
  |none=>none
 |_=>none
theorem adu:aY P N7 191:=
 Ef (g:=fun A n=>.mag (A/2^n.toNat)) (l:=fun A=>[nl A<2^40]) (m:=2^62) fun {A n} h hn K=>by
  have:=WJ (A:=A) (n:=n) h aa K
  simpa using this
end Go.Am.B
