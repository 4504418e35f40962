/- ref01: up, shifted, times, down. -/
import Derived.Test.YtnniljlepppdpaaGreatB24
set_option linter.unusedVariables false
namespace Go.Am.B
open Go Go.Am.N AV
theorem XV:aR P Dt p7 (az p7):=aS Proofs.Tryz.func264 ag ag ag
theorem aa0:aR P CX FJ (az FJ):=aS Proofs.Tryz.func265 ag ag ag
theorem Y3:aR P Cb Dk (az Dk):=aS Proofs.Tryz.func266 ag ag ag
theorem UN:aR P BL qy (az qy):=aS Proofs.Tryz.func267 ag ag ag
abbrev uh:List Nat:=[0,1,5,6,7]
abbrev Fj (A n l c i K:Nat):List AV:=[.mag A,.int .i64 n,.own K 1 0 l,.int .u64 c,.int .i64 i]
noncomputable abbrev Ro:Code:=part (az p7) [1,1,1,0,1,0,0]
def Rr:aX:=[(qW,uA),(sU,zJ),(zK,Kt)]
theorem Vn:bq P Rr:=aH zo (aH Cn (aH Qz bC))
theorem ahv {A n:Nat}:aI T fh [] 60 uh (before (az p7) [1,1,1,0,1]) ⟨aP 0 [.mag A,.int .i64 n],[],0⟩=
  let c1:Int:=IntKind.i64.wrap ((↑n:Int).tdiv (32:Int));some (ah.aj [(32:Int)≠(0:Int),(0:Int)<=c1/\c1<=c1/\c1<=(2:Int)^47/\c1*(↑(4:Nat):Int)<=(2:Int)^47] (ah.leaf aq.normal ([mag A,int IntKind.i64 (↑n:Int),own 12288 1 0 c1.toNat,int IntKind.u64 (0:Int),int IntKind.i64 (0:Int)],[(12288,au.mk true true 1 c1.toNat fun x=>int IntKind.u32 (0:Int))]))):=ag
theorem XP {A n l c i:Nat} {o:Nat->Nat}:aI T fh [14] 60 uh [Ro] ⟨aE uh (Fj A n l c i 7),dy 7 l o,8⟩=
  let c4:Int:=(↑n:Int).tmod (32:Int);let c3:AV:=int IntKind.i64 (↑n:Int);let c2:Int:=(↑i:Int);let c1:Int:=IntKind.u64.wrap (↑(BitVec.ofInt IntKind.u64.bits (↑c:Int)|||BitVec.ofInt IntKind.u64.bits (IntKind.u64.wrap (IntKind.u64.wrap (↑(aC A c2.toNat):Int)*(2:Int)^min c4.toNat IntKind.u64.bits))).toNat:Int);some (ah.fork (decide (c2<(↑(nl A):Int))) (ah.aj [(0:Int)<=c2/\c2.toNat<nl A,(32:Int)≠(0:Int),(0:Int)<=c4] (ah.aj [(1:Nat)*1<=2^24,(l+1)*((4:Nat)+1)*2<=2^47] (ah.aj [(0:Int)<=(32:Int)] (ah.leaf aq.normal ([mag A,c3,own 77832 1 0 (l+1),int IntKind.u64 (c1.fdiv ((2:Int)^min (Int.toNat (32:Int)) IntKind.u64.bits)),int IntKind.i64 (IntKind.i64.wrap (c2+(1:Int)))],[(77832,au.mk true true 1 (l+1) fun i=>if i<l then aB o i else nth [int IntKind.u32 (IntKind.u32.wrap c1)] (int IntKind.u32 (0:Int)) (i-l+0))]))))) (ah.leaf (aq.exit 0) ([mag A,c3,own 7 1 0 l,int IntKind.u64 (↑c:Int),int IntKind.i64 c2],[(7,au.mk true true 1 l fun a=>int IntKind.u32 (↑(o a):Int))]))):=ag
theorem Zs {A n l c i:Nat} {o:Nat->Nat}:cJ T fh [] 60 p7 (behind (az p7) [1,1,1,0,1]) ⟨aE uh (Fj A n l c i 7),dy 7 l o,8⟩=
  let c3:AV:=int IntKind.u32 (0:Int);let c2:Nat:=l+1;let c1:AV:=int IntKind.u32 (IntKind.u32.wrap (↑c:Int));some (ah.aj [(1:Nat)*1<=2^24,c2*((4:Nat)+1)*2<=2^47,dZ c2 fun i=>if i+0<l then aB o (i+0)else nth [c1] c3 (i+0-l+0),c2<2^40] (ah.leaf aq.ret [mag (val c2 fun i=>numOf (if i+0<l then aB o (i+0)else nth [c1] c3 (i+0-l+0)))])):=ag
theorem aeK {A n:Nat}:bS T fh [7] 60 FJ (az FJ) ⟨aP 0 [.mag A,.int .i64 n],[],0⟩=
  let c1:Int:=(↑n:Int);some (ah.fork ((↑(nl A):Int)==(0:Int)) (ah.leaf aq.ret [nil]) (ah.aj [(0:Int)<=c1/\c1<=c1/\c1<=(2:Int)^47/\c1*(↑(4:Nat):Int)<=(2:Int)^47,(c1.toNat+nl A)*((4:Nat)+1)*2<=2^47] (ah.leaf aq.ret [ak 1 (c1.toNat+nl A) fun i=>if i+0<c1.toNat then int IntKind.u32 (0:Int)else int IntKind.u32 (↑(aC A (i+0-c1.toNat)):Int)]))):=ag
theorem UI {A b:Nat}:bS T Rr [] 60 Dk (az Dk) ⟨aP 0 [.mag A,.int .u32 b],[],0⟩=
  let c1:Int:=IntKind.u64.wrap (↑b:Int);some (ah.aj [(0:Int)<=c1/\c1<(2:Int)^64,nl A<2^39,nl c1.toNat<2^39] (ah.leaf aq.ret [mag (A*c1.toNat)])):=ag
abbrev oe:List Nat:=[0,1,5,6]
abbrev y8 (a:Nat->Nat) (l n i K:Nat):List AV:=[.ak 1 l (aB a),.int .i64 n,.own K 1 0 l,.int .i64 i]
noncomputable abbrev NK:Code:=part (az qy) [1,1,1,1,0,1,0,0]
theorem XR {A n:Nat}:aI T fh [12] 60 (oe++[4]) (before (az qy) [1,1,1,1,0,1]) ⟨aP 0 [.mag A,.int .i64 n],[],0⟩=
  let c5:AV:=int IntKind.i64 (↑n:Int);let c3:Int:=(↑(nl A):Int);let c2:Int:=IntKind.i64.wrap ((↑n:Int).tdiv (32:Int));let c1:Nat:=c3.toNat-c2.toNat;let c4:Int:=(↑c1:Int);some (ah.aj [(32:Int)≠(0:Int)] (ah.fork (decide (c2>=c3)) (ah.leaf aq.ret ([mag A,c5,tuple [],tuple [],nil],[])) (ah.aj [(32:Int)≠(0:Int),(0:Int)<=c2/\c2<=c3/\c3<=c3/\c3<=c3] (ah.aj [(0:Int)<=c4/\c4<=c4/\c4<=(2:Int)^47/\c4*(↑(4:Nat):Int)<=(2:Int)^47] (ah.leaf aq.normal ([ak 1 c1 fun i=>int IntKind.u32 (↑(aC A (i+c2.toNat)):Int),c5,own 53248 1 0 c4.toNat,int IntKind.i64 (0:Int),nil],[(53248,au.mk true true 1 c4.toNat fun x=>int IntKind.u32 (0:Int))])))))):=ag
theorem aiO {n l i:Nat} {a o:Nat->Nat}:aI T fh [23,35] 60 oe [NK] ⟨aE oe (y8 a l n i 7),dy 7 l o,8⟩=
  let c13:Int:=(↑l:Int);let c12:Int:=(↑n:Int).tmod (32:Int);let c11:AV:=int IntKind.i64 (↑n:Int);let c9:AV:=own 7 1 0 l;let c8:Int:=(↑i:Int);let c6:AV:=ak 1 l fun a_1=>int IntKind.u32 (↑(a a_1):Int);let c5:Int:=(2:Int)^min c12.toNat IntKind.u64.bits;let c4:Nat:=c8.toNat;let c1:Int:=IntKind.i64.wrap (c8+(1:Int));let c10:Int:=IntKind.u64.wrap (↑(a c4):Int);let c7:Nat:=c4+0;let c2:List AV:=[c6,c11,c9,int IntKind.i64 c1];let c3:List Prop:=[(32:Int)≠(0:Int),(0:Int)<=c12,(0:Int)<=c8/\c4<l,c7<l];some (ah.fork (decide (c8<c13)) (ah.aj [(0:Int)<=c8/\c4<l] (ah.fork (decide (c1<c13)) (ah.aj [(0:Int)<=c1/\c1.toNat<l,(0:Int)<=(32:Int)] (ah.aj c3 (ah.leaf aq.normal (c2,[(7,au.mk true true 1 l fun j=>if(j==c7)=true then int IntKind.u32 (IntKind.u32.wrap ((IntKind.u64.wrap (↑(BitVec.ofInt IntKind.u64.bits c10|||BitVec.ofInt IntKind.u64.bits (IntKind.u64.wrap (IntKind.u64.wrap (↑(a c1.toNat):Int)*(2:Int)^min (Int.toNat (32:Int)) IntKind.u64.bits))).toNat:Int)).fdiv c5))else aB o j)])))) (ah.aj c3 (ah.leaf aq.normal (c2,[(7,au.mk true true 1 l fun j=>if(j==c7)=true then int IntKind.u32 (IntKind.u32.wrap (c10.fdiv c5))else aB o j)]))))) (ah.leaf (aq.exit 0) ([c6,c11,c9,int IntKind.i64 c8],[(7,au.mk true true 1 l fun a=>int IntKind.u32 (↑(o a):Int))]))):=ag
theorem ajH {n l i:Nat} {a o:Nat->Nat}:cJ T fh [] 60 qy (behind (az qy) [1,1,1,1,0,1]) ⟨aE oe (y8 a l n i 7),dy 7 l o,8⟩=
  some (ah.aj [dZ l fun i=>aB o (i+0),l<2^40] (ah.leaf aq.ret [mag (val l fun i=>numOf (aB o (i+0)))])):=ag
theorem DU {c:Ctx} (h0:∀nx k x,c.k0 k=some x->k<nx):c.k0=bn:=by
 funext k
 cases hk:c.k0 k with
 |none=>rfl
 |some x=>have:=h0 0 k x hk;omega
theorem R6 {o:Nat->Nat} {l:Nat} {v:Int} {x:Nat} (hv:v=(x:Nat)) {j:Nat} (hj:j<l+1):(if j<l then aB o j else nth [.int .u32 v] (.int .u32 0) (j-l))=aB (cA o l x) j:=by
 by_cases h:j<l
 ·rw[if_pos h];unfold aB;rw[fW aa]
 ·have:j=l:=aa
  subst this
  rw[if_neg h,hv]
  simp[nth,aB,kU]
theorem aaG {A n:Nat} (hA:nl A<2^39) (hn:n<2^43) (K:Nat):aD P Dt K [.mag A,.int .i64 n] [] (aK (.mag (A*2^n)) []):=by
 refine iP hT XV rfl aW rfl (fun _ c0 h0=>?_) K []
 have hk0:=DU h0
 refine ay.hole [1,1,1,0,1] ag (aG.bB hT fB hm 60 uh ahv ag ?_)
 have hw:IntKind.i64.wrap ((n:Int).tdiv 32)=((n/32:Nat):Int):=by
  rw[show(n:Int).tdiv 32=((n/32:Nat):Int)from(Int.ofNat_tdiv n 32).symm]
  exact eV rfl aa
 have hmd:(n:Int).tmod 32=((n%32:Nat):Int):=(Int.ofNat_tmod n 32).symm
 rw[hw]
 obtain⟨k,hk⟩:∃k,k=n/32:=⟨_,rfl⟩
 obtain⟨s,hs⟩:∃s,s=n%32:=⟨_,rfl⟩
 rw[<-hs]at hmd
 rw[<-hk]
 simp only[ah.all,aA,aZ]
 refine⟨aa,fun s' hv=>cF ?_⟩
 refine ay.iS (i:=0) (y:=Ro) ag (fun p:Nat×Nat×(Nat->Nat)=>⟨aE uh (Fj A n (k+p.1) p.2.1 p.1 7),dy 7 (k+p.1) p.2.2,8⟩)
  (fun p=>p.1<=nl A/\p.2.1<2^s/\(∀j,j<k+p.1->p.2.2 j<2^32)/\val (k+p.1) p.2.2+p.2.1*2^(32*(k+p.1))=val p.1 (aC A)*2^(32*k)*2^s)
  (fun p=>nl A-p.1) (0,0,fun _=>0)
  (dF [(7,12288)] hv hk0 rfl ⟨⟨rfl,aL rfl⟩,⟨rfl,aL rfl⟩,⟨rfl,cT rfl rfl rfl⟩,⟨rfl,aL rfl⟩,⟨rfl,aL rfl⟩,trivial⟩ ⟨⟨_,_,rfl,rfl,fU rfl fun j _=>rfl⟩,trivial⟩)
  ⟨by simp,Nat.two_pow_pos s,fun _ _=>by simp,?_⟩ ?_
 ·simp only
  rw[val_zero fun _ _=>rfl]
  simp[val]
 rintro⟨i,c,o⟩ ⟨hi,hc,ho,hval⟩
 simp only at hi hc ho hval
 have hs32:s<32:=aa
 have h31:2^s<=2^31:=Nat.pow_le_pow_right aa aa
 have hzi:=dK (N:=A) (i:=i)
 refine ay.bB hT fB hm 60 uh XP ag ?_
 rw[hmd]
 have hor:=NT hs32 hzi hc
 obtain⟨b1,b2⟩:=Rc hs32 hzi hc
 simp only[ah.all,aA,bh,bz,aZ,Nat.add_zero]at hor ⊢
 rw[hor]
 refine⟨fun hb=>⟨⟨aa,aa,aa⟩,⟨aa,aa⟩,aa,fun s' hv=>⟨(i+1,(c+aC A i*2^s)/4294967296,cA o (k+i) ((c+aC A i*2^s)%4294967296)),?_,⟨by simp only;omega,b2,fun j hj=>?_,?_⟩,by simp only;omega⟩⟩,fun hb s' hv=>fN ?_⟩
 ·refine dF (vs:=Fj A n (k+(i+1)) ((c+aC A i*2^s)/4294967296) (i+1) 7) (ps:=dy 7 (k+(i+1)) (cA o (k+i) ((c+aC A i*2^s)%4294967296))) [(7,77832)] hv hk0 rfl ⟨⟨rfl,aL rfl⟩,⟨rfl,aL rfl⟩,⟨rfl,cT rfl rfl rfl⟩,⟨rfl,gB ?_⟩,⟨rfl,gB ?_⟩,trivial⟩
   ⟨⟨_,_,rfl,rfl,fU rfl fun j hj=>R6 (by rw[j8]) aa⟩,trivial⟩
  ·rw[mE];omega
  ·rw[wrap_i64 aa aa];omega
 ·simp only at hj ⊢
  unfold cA
  split
  ·omega
  ·exact ho j aa
 ·simp only
  have:=MG (x:=aC A i) hval
  rw[show k+(i+1)=(k+i)+1 by omega,rE,iy,this,val]
  congr 1
  rw[Nat.add_mul,Nat.mul_assoc,<-Nat.pow_add,show 32*i+32*k=32*(k+i) by omega]
 ·have hin:i=nl A:=aa
  show aG P c0 p7.ntmps (behind (az p7) [1,1,1,0,1]) s' _
  refine aG.k8 hT fB hm 60 hv (h0 _) rfl (ia aa) Zs ag ag ?_
  simp only[ah.all,aA,Nat.add_zero]
  have ho':∀j,j<k+i+1->cA o (k+i) c j<2^32:=fun j hj=>by
   unfold cA
   split
   ·omega
   ·exact ho j aa
  have e:∀j,j<k+i+1->(if j<k+i then aB o j else nth [.int .u32 (IntKind.u32.wrap (c:Int))] (.int .u32 0) (j-(k+i)))=aB (cA o (k+i) c) j:=fun j hj=>R6 (wrap_u32 aa aa) hj
  refine⟨⟨aa,aa,fun j hj=>?_,aa⟩,dL (congrArg AV.mag ?_)⟩
  ·exact⟨_,ho' j hj,e j hj⟩
  ·rw[val_congr (y:=cA o (k+i) c) fun j hj=>(congrArg numOf (e j hj)).trans K6,rE,hval,hin,gu,Nat.mul_assoc,<-Nat.pow_add]
   congr 2
   omega
def NP:Spec:=bU fun l=>match l with
 |[a,.int .i64 n]=>match jr a with
  |some A=>some (aK (.mag (A*2^n.toNat)) [nl A<2^39,0<=n,n<2^43])
  |none=>none
 |_=>none
theorem KN {f:FuncId} {g:Nat->Int->AV} {l:Nat->List Prop} {m:Int} (h:∀{A n:Nat},aA (l A)->(n:Int)<m->∀K,aD P f K [.mag A,.int .i64 n] [] (aK (g A n) [])):∀K args pre r,bU (fun a=>match a with
 |[a,.int .i64 n]=>match jr a with
  |some A=>some (aK (g A n) (l A++[0<=n,n<m]))
  |none=>none
 |_=>none) K args pre=some r->aD P f K args pre r:=by
 refine cB fun K args r hk hs _=>?_
 split at hs
 ·split at hs
  ·rename_i A hA
   simp only[ax]at hs
   subst hs
   intro need
   obtain⟨h1,h2,h3⟩:=eu.1 need
   rename_i n _
   obtain⟨n,rfl⟩:=Int.eq_ofNat_of_zero_le h2
   exact gR (h h1 h3 K) hk ⟨mq hA,.refl _,trivial⟩ [] trivial
  ·simp at hs
 ·simp at hs
theorem YY:∀K args pre r,NP K args pre=some r->aD P Dt K args pre r:=
 KN (g:=fun A n=>.mag (A*2^n.toNat)) (l:=fun A=>[nl A<2^39]) (m:=2^43) fun {A n} h hn K=>by
  have:=aaG (A:=A) (n:=n) h aa K
  simpa using this
theorem Yr {A n:Nat} (hA:nl A<2^40) (hn:n<2^40) (K:Nat):aD P CX K [.mag A,.int .i64 n] [] (aK (.mag (A*2^(32*n))) []):=by
 refine bY hT fB hm aa0 rfl aW rfl 60 aeK (fun _=>?_) K []
 simp only[ah.all,aA,beq_iff_eq,beq_eq_false_iff_ne,ne_eq,aZ,Nat.add_zero]
 refine⟨fun hb=>?_,fun hb=>⟨⟨aa,aa⟩,?_⟩⟩
 ·have:A=0:=jK.1 aa
  subst this
  rw[Nat.zero_mul];exact lO
 ·have hA0:A≠0:=fun h=>hb (by rw[h];rfl)
  have hlt:A*2^(32*n)<2^(32*(n+nl A)):=by
   rw[show 32*(n+nl A)=32*nl A+32*n by omega,Nat.pow_add]
   exact(Nat.mul_lt_mul_right (Nat.two_pow_pos _)).2 oB
  have hval:A*2^(32*n)=val (n+nl A) (fun i=>if i<n then 0 else aC A (i-n)):=by
   rw[val_add,val_zero fun i hi=>if_pos hi,Nat.zero_add]
   congr 1
   have:=gu (N:=A)
   conv=>lhs;rw[<-this]
   exact val_congr fun i hi=>by rw[if_neg aa];congr 1;omega
  have hz:∀i,i<n+nl A->(if i<n then 0 else aC A (i-n))<2^32:=fun i _=>by
   split
   ·omega
   ·exact dK
  refine mu ?_ fun i hi=>?_
  ·rw[hval]
   refine Fv hz (.inr ?_)
   have hp:=gG.2 hA0
   rw[if_neg aa,show n+nl A-1-n=nl A-1 by omega]
   exact AW hA0
  ·rw[hval,ry hz hi]
   split<;>rfl
def SM:Spec:=bU fun l=>match l with
 |[a,.int .i64 n]=>match jr a with
  |some A=>some (aK (.mag (A*2^(32*n.toNat))) [nl A<2^40,0<=n,n<2^40])
  |none=>none
 |_=>none
theorem aav:∀K args pre r,SM K args pre=some r->aD P CX K args pre r:=
 KN (g:=fun A n=>.mag (A*2^(32*n.toNat))) (l:=fun A=>[nl A<2^40]) (m:=2^40) fun {A n} h hn K=>by
  have:=Yr (A:=A) (n:=n) h aa K
  simpa using this
theorem VG {A b:Nat} (hA:nl A<2^39) (hb:b<2^32) (K:Nat):aD P Cb K [.mag A,.int .u32 b] [] (aK (.mag (A*b)) []):=by
 refine bY hT Vn hm Y3 rfl aW rfl 60 UI (fun _=>?_) K []
 have e:IntKind.u64.wrap (b:Int)=(b:Int):=cr aa aa
 rw[e]
 simp only[ah.all,aA,aZ]
 have:nl b<=1:=dB.2 aa
 exact⟨⟨aa,hA,aa⟩,.refl _⟩
def Qx:Spec:=bU fun l=>match l with
 |[a,.int .u32 b]=>match jr a with
  |some A=>some (aK (.mag (A*b.toNat)) [nl A<2^39,0<=b,b<2^32])
  |none=>none
 |_=>none
theorem aj6:∀K args pre r,Qx K args pre=some r->aD P Cb K args pre r:=by
 refine cB fun K args r hk hs _=>?_
 split at hs
 ·rename_i a b
  split at hs
  ·rename_i A hA
   simp only[ax]at hs
   subst hs
   intro need
   obtain⟨h1,h2,h3⟩:nl A<2^39/\0<=b/\b<2^32:=need
   obtain⟨b,rfl⟩:=Int.eq_ofNat_of_zero_le h2
   exact gR (VG h1 aa K) hk ⟨mq hA,.refl _,trivial⟩ [] trivial
  ·simp at hs
 ·simp at hs
theorem ab2 {A k i:Nat}:aC A (i+k)=aC (A/2^(32*k)) i:=by
 unfold aC
 rw[Nat.div_div_eq_div_mul,<-Nat.pow_add]
 congr 3
 omega
theorem ajX {a b s:Nat} (ha:a<2^32) (hb:b<2^32) (hs:s<32):(b*4294967296+a)/2^s%4294967296=a/2^s+b%2^s*2^(32-s):=by
 have:=Aj (R:=b*4294967296+a) (k:=0) hs
 have l0:aC (b*4294967296+a) 0=a:=by unfold aC;simp;omega
 have l1:aC (b*4294967296+a) (0+1)=b:=by unfold aC;simp;omega
 rw[l0,l1]at this
 rw[<-this]
 unfold aC
 simp
theorem afF {A n:Nat} (hA:nl A<2^40) (hn:n<2^62) (K:Nat):aD P BL K [.mag A,.int .i64 n] [] (aK (.mag (A/2^n)) []):=by
 refine iP hT UN rfl aW rfl (fun _ c0 h0=>?_) K []
 have hk0:=DU h0
 refine ay.hole [1,1,1,1,0,1] ag (aG.bB hT fB hm 60 (oe++[4]) XR ag ?_)
 have hw:IntKind.i64.wrap ((n:Int).tdiv 32)=((n/32:Nat):Int):=by
  rw[show(n:Int).tdiv 32=((n/32:Nat):Int)from(Int.ofNat_tdiv n 32).symm]
  exact eV rfl aa
 have hmd:(n:Int).tmod 32=((n%32:Nat):Int):=(Int.ofNat_tmod n 32).symm
 rw[hw]
 obtain⟨k,hk⟩:∃k,k=n/32:=⟨_,rfl⟩
 obtain⟨s,hs⟩:∃s,s=n%32:=⟨_,rfl⟩
 rw[<-hs]at hmd
 rw[<-hk]
 have hnk:2^n=2^(32*k)*2^s:=by rw[<-Nat.pow_add];congr 1;omega
 simp only[ah.all,aA,bh,bz,aZ]
 refine⟨aa,fun hb s' hv=>fO (.inl ?_),fun hb=>⟨⟨aa,aa⟩,aa,fun s' hv=>cF ?_⟩⟩
 ·refine gM (us:=[.nil]) (.inr rfl) hv ag ?_
  have:A/2^n=0:=by
   rw[hnk,<-Nat.div_div_eq_div_mul,Nat.div_eq_of_lt (dB.1 (show nl A<=k by omega)),Nat.zero_div]
  rw[this];exact lO
 have hkA:k<nl A:=aa
 have hv:=iY (ls:=oe) (l:=[4]) (vs:=[.ak 1 (nl A-k) fun i=>.int .u32 (aC A (i+k):Nat),.int .i64 n,.own 53248 1 0 (nl A-k),.int .i64 0]) hv rfl rfl
 obtain⟨R,hR⟩:∃R,R=A/2^(32*k):=⟨_,rfl⟩
 obtain⟨l,hl⟩:∃l,l=nl A-k:=⟨_,rfl⟩
 have hRl:R<2^(32*l):=by
  rw[hR,Nat.div_lt_iff_lt_mul (Nat.two_pow_pos _),<-Nat.pow_add,<-Nat.mul_add]
  exact dB.1 (show nl A<=l+k by omega)
 have hfun:(fun i=>AV.int .u32 (aC A (i+k):Nat))=aB (aC R):=by
  funext i;unfold aB;rw[ab2,hR]
 rw[hfun,<-hl]at hv
 refine ay.iS (i:=0) (y:=NK) ag (fun p:Nat×(Nat->Nat)=>⟨aE oe (y8 (aC R) l n p.1 7),dy 7 l p.2,8⟩)
  (fun p=>p.1<=l/\∀j,j<p.1->p.2 j=aC (R/2^s) j)
  (fun p=>l-p.1) (0,fun _=>0)
  (dF [(7,53248)] hv hk0 rfl ⟨⟨rfl,aL rfl⟩,⟨rfl,aL rfl⟩,⟨rfl,cT rfl rfl rfl⟩,⟨rfl,aL rfl⟩,trivial⟩ ⟨⟨_,_,rfl,rfl,fU rfl fun j _=>rfl⟩,trivial⟩)
  ⟨by simp,fun j hj=>by simp only at hj;omega⟩ ?_
 rintro⟨i,o⟩ ⟨hi,ho⟩
 simp only at hi ho
 have hs32:s<32:=aa
 have ha:=dK (N:=R) (i:=i)
 have hb':=dK (N:=R) (i:=i+1)
 refine ay.bB hT fB hm 60 oe aiO ag ?_
 have w1:IntKind.i64.wrap ((i:Int)+1)=if i<l then((i+1:Nat):Int)else IntKind.i64.wrap ((i:Int)+1):=by
  split
  ·exact eV aa aa
  ·rfl
 simp only[ah.all,aA,bh,bz,aZ,Nat.add_zero,beq_iff_eq]
 have next:∀{s':aJ} {v:Int},i<l->v=((aC (R/2^s) i:Nat):Int)->bw oe s'=some (y8 (aC R) l n (i+1) 7,[(7,⟨true,true,1,l,fun j=>if j=i then .int .u32 v else aB o j⟩)])->
   ∃p:Nat×(Nat->Nat),(∃ρ,Le c0 ρ s' ⟨aE oe (y8 (aC R) l n p.1 7),dy 7 l p.2,8⟩)/\(p.1<=l/\∀j,j<p.1->p.2 j=aC (R/2^s) j)/\l-p.1<l-i:=by
  intro s' v hil hv1 hv
  refine⟨(i+1,cA o i (aC (R/2^s) i)),nQ (dP hv rfl ?_) (h0 _) rfl (ia aa),⟨by simp only;omega,fun j hj=>?_⟩,by simp only;omega⟩
  ·simp only[dy]
   congr 3
   funext j
   exact g9 hv1 j
  ·simp only at hj ⊢
   unfold cA
   split
   ·rename_i h;rw[h]
   ·exact ho j aa
 refine⟨fun hb=>?_,fun hb s' hv=>fN ?_⟩
 ·have hil:i<l:=aa
  rw[if_pos hil]at w1
  rw[w1,hmd]
  have hf:∀x:Nat,(x:Int).fdiv (2^min ((s:Int).toNat) IntKind.u64.bits)=((x/2^s:Nat):Int):=fun x=>by
   have:min ((s:Int).toNat) IntKind.u64.bits=s:=by
    have:IntKind.u64.bits=64:=rfl
    omega
   rw[this,Int.fdiv_eq_ediv_of_nonneg _ (by exact Int.le_of_lt (Int.pow_pos (by decide)))]
   simp
  have wa:IntKind.u64.wrap (aC R i:Int)=((aC R i:Nat):Int):=cr aa aa
  have hor:IntKind.u64.wrap ((BitVec.ofInt IntKind.u64.bits (IntKind.u64.wrap (aC R i:Int))|||BitVec.ofInt IntKind.u64.bits (IntKind.u64.wrap (IntKind.u64.wrap (aC R (i+1):Int)*2^min (Int.toNat 32) IntKind.u64.bits))).toNat:Int)=((aC R (i+1)*4294967296+aC R i:Nat):Int):=by
   rw[BitVec.or_comm,cr (x:=(aC R (i+1):Int)) aa aa]
   exact vD hb' ha
  simp only[aZ]
  refine⟨aa,fun h1=>⟨⟨aa,aa⟩,⟨aa,aa,aa,aa⟩,fun s' hv=>next hil ?_ hv⟩,fun h1=>⟨⟨aa,aa,aa,aa⟩,fun s' hv=>next hil ?_ hv⟩⟩
  ·rw[hor]
   have:=hf (aC R (i+1)*4294967296+aC R i)
   simp only[aZ]at this
   rw[this,j8,ajX ha hb' hs32,Aj hs32]
  ·rw[wa]
   have:=hf (aC R i)
   simp only[aZ]at this
   have hd:=Nat.div_le_self (aC R i) (2^s)
   rw[this,j8,Aj hs32,jT (A:=R) (i:=i+1) (dB.2 (Nat.lt_of_lt_of_le hRl (Nat.pow_le_pow_right aa aa))),Nat.zero_mod,Nat.zero_mul,Nat.add_zero,Nat.mod_eq_of_lt aa]
 ·have hil:i=l:=aa
  show aG P c0 qy.ntmps (behind (az qy) [1,1,1,1,0,1]) s' _
  refine aG.k8 hT fB hm 60 hv (h0 _) rfl (ia aa) ajH ag ag ?_
  simp only[ah.all,aA,Nat.add_zero,j6]
  refine⟨⟨gE fun j hj=>?_,aa⟩,dL (congrArg AV.mag ?_)⟩
  ·rw[ho j aa];exact dK
  ·rw[val_congr (y:=aC (R/2^s)) fun j hj=>ho j aa,qi (Nat.lt_of_le_of_lt (Nat.div_le_self _ _) hRl),hR,hnk,Nat.div_div_eq_div_mul]
def MH:Spec:=bU fun l=>match l with
 |[a,.int .i64 n]=>match jr a with
  |some A=>some (aK (.mag (A/2^n.toNat)) [nl A<2^40,0<=n,n<2^62])
  |none=>none
 |_=>none
theorem aky:∀K args pre r,MH K args pre=some r->aD P BL K args pre r:=
 KN (g:=fun A n=>.mag (A/2^n.toNat)) (l:=fun A=>[nl A<2^40]) (m:=2^62) fun {A n} h hn K=>by
  have:=afF (A:=A) (n:=n) h aa K
  simpa using this
end Go.Am.B
