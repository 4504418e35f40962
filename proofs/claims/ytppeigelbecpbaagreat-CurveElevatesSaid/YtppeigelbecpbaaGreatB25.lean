/- ref01. -/
import Derived.Test.YtppeigelbecpbaaGreatB24
set_option linter.unusedVariables false
namespace Go.Am.B
open Go Go.Am.N AV
theorem aif:aT P CC rz (aA rz):=aY Proofs.Tryz.func239 ag ag ag
theorem T6:aT P Ey BD (aA BD):=aY Proofs.Tryz.func240 ag ag ag
theorem Ud:aT P BB FY (aA FY):=aY Proofs.Tryz.func241 ag ag ag
theorem acK:aT P B2 qe (aA qe):=aY Proofs.Tryz.func242 ag ag ag
abbrev rU:List Nat:=[0,1,5,6,7]
abbrev Dc (A n l c i K:Nat):List AV:=[.mag A,.int .i64 n,.own K 1 0 l,.int .u64 c,.int .i64 i]
noncomputable abbrev NN:Code:=part (aA rz) [1,1,1,0,1,0,0]
def LV:bg:=[(qx,uN),(tJ,AE),(Ae,Lu)]
theorem WC:bz P LV:=aL xC (aL FN (aL RN bO))
theorem Ux {A n:Nat}:aH T eJ [] 60 rU (before (aA rz) [1,1,1,0,1]) ⟨aQ 0 [.mag A,.int .i64 n],[],0⟩=
  let c1:Int:=IntKind.i64.wrap ((↑n:Int).tdiv (32:Int));some (ah.aj [(32:Int)≠(0:Int),(0:Int)<=c1/\c1<=c1/\c1<=(2:Int)^47/\c1*(↑(4:Nat):Int)<=(2:Int)^47] (ah.leaf au.normal ([mag A,int IntKind.i64 (↑n:Int),own 12288 1 0 c1.toNat,int IntKind.u64 (0:Int),int IntKind.i64 (0:Int)],[(12288,ak.mk true true 1 c1.toNat fun x=>int IntKind.u32 (0:Int))]))):=ag
theorem abO {A n l c i:Nat} {o:Nat->Nat}:aH T eJ [14] 60 rU [NN] ⟨aC rU (Dc A n l c i 7),dn 7 l o,8⟩=
  let c4:Int:=(↑n:Int).tmod (32:Int);let c3:AV:=int IntKind.i64 (↑n:Int);let c2:Int:=(↑i:Int);let c1:Int:=IntKind.u64.wrap (↑(BitVec.ofInt IntKind.u64.bits (↑c:Int)|||BitVec.ofInt IntKind.u64.bits (IntKind.u64.wrap (IntKind.u64.wrap (↑(aG A c2.toNat):Int)*(2:Int)^min c4.toNat IntKind.u64.bits))).toNat:Int);some (ah.fork (decide (c2<(↑(nl A):Int))) (ah.aj [(0:Int)<=c2/\c2.toNat<nl A,(32:Int)≠(0:Int),(0:Int)<=c4] (ah.aj [(1:Nat)*1<=2^24,(l+1)*((4:Nat)+1)*2<=2^47] (ah.aj [(0:Int)<=(32:Int)] (ah.leaf au.normal ([mag A,c3,own 77832 1 0 (l+1),int IntKind.u64 (c1.fdiv ((2:Int)^min (Int.toNat (32:Int)) IntKind.u64.bits)),int IntKind.i64 (IntKind.i64.wrap (c2+(1:Int)))],[(77832,ak.mk true true 1 (l+1) fun i=>if i<l then aD o i else nth [int IntKind.u32 (IntKind.u32.wrap c1)] (int IntKind.u32 (0:Int)) (i-l+0))]))))) (ah.leaf (au.exit 0) ([mag A,c3,own 7 1 0 l,int IntKind.u64 (↑c:Int),int IntKind.i64 c2],[(7,ak.mk true true 1 l fun a=>int IntKind.u32 (↑(o a):Int))]))):=ag
theorem YS {A n l c i:Nat} {o:Nat->Nat}:cw T eJ [] 60 rz (behind (aA rz) [1,1,1,0,1]) ⟨aC rU (Dc A n l c i 7),dn 7 l o,8⟩=
  let c3:AV:=int IntKind.u32 (0:Int);let c2:Nat:=l+1;let c1:AV:=int IntKind.u32 (IntKind.u32.wrap (↑c:Int));some (ah.aj [(1:Nat)*1<=2^24,c2*((4:Nat)+1)*2<=2^47,dQ c2 fun i=>if i+0<l then aD o (i+0)else nth [c1] c3 (i+0-l+0),c2<2^40] (ah.leaf au.ret [mag (val c2 fun i=>numOf (if i+0<l then aD o (i+0)else nth [c1] c3 (i+0-l+0)))])):=ag
theorem T8 {A n:Nat}:bW T eJ [7] 60 BD (aA BD) ⟨aQ 0 [.mag A,.int .i64 n],[],0⟩=
  let c1:Int:=(↑n:Int);some (ah.fork ((↑(nl A):Int)==(0:Int)) (ah.leaf au.ret [nil]) (ah.aj [(0:Int)<=c1/\c1<=c1/\c1<=(2:Int)^47/\c1*(↑(4:Nat):Int)<=(2:Int)^47,(c1.toNat+nl A)*((4:Nat)+1)*2<=2^47] (ah.leaf au.ret [aq 1 (c1.toNat+nl A) fun i=>if i+0<c1.toNat then int IntKind.u32 (0:Int)else int IntKind.u32 (↑(aG A (i+0-c1.toNat)):Int)]))):=ag
theorem ajZ {A b:Nat}:bW T LV [] 60 FY (aA FY) ⟨aQ 0 [.mag A,.int .u32 b],[],0⟩=
  let c1:Int:=IntKind.u64.wrap (↑b:Int);some (ah.aj [(0:Int)<=c1/\c1<(2:Int)^64,nl A<2^39,nl c1.toNat<2^39] (ah.leaf au.ret [mag (A*c1.toNat)])):=ag
abbrev nX:List Nat:=[0,1,5,6]
abbrev xZ (a:Nat->Nat) (l n i K:Nat):List AV:=[.aq 1 l (aD a),.int .i64 n,.own K 1 0 l,.int .i64 i]
noncomputable abbrev OL:Code:=part (aA qe) [1,1,1,1,0,1,0,0]
theorem UO {A n:Nat}:aH T eJ [12] 60 (nX++[4]) (before (aA qe) [1,1,1,1,0,1]) ⟨aQ 0 [.mag A,.int .i64 n],[],0⟩=
  let c5:AV:=int IntKind.i64 (↑n:Int);let c3:Int:=(↑(nl A):Int);let c2:Int:=IntKind.i64.wrap ((↑n:Int).tdiv (32:Int));let c1:Nat:=c3.toNat-c2.toNat;let c4:Int:=(↑c1:Int);some (ah.aj [(32:Int)≠(0:Int)] (ah.fork (decide (c2>=c3)) (ah.leaf au.ret ([mag A,c5,tuple [],tuple [],nil],[])) (ah.aj [(32:Int)≠(0:Int),(0:Int)<=c2/\c2<=c3/\c3<=c3/\c3<=c3] (ah.aj [(0:Int)<=c4/\c4<=c4/\c4<=(2:Int)^47/\c4*(↑(4:Nat):Int)<=(2:Int)^47] (ah.leaf au.normal ([aq 1 c1 fun i=>int IntKind.u32 (↑(aG A (i+c2.toNat)):Int),c5,own 53248 1 0 c4.toNat,int IntKind.i64 (0:Int),nil],[(53248,ak.mk true true 1 c4.toNat fun x=>int IntKind.u32 (0:Int))])))))):=ag
theorem Xt {n l i:Nat} {a o:Nat->Nat}:aH T eJ [23,35] 60 nX [OL] ⟨aC nX (xZ a l n i 7),dn 7 l o,8⟩=
  let c13:Int:=(↑l:Int);let c12:Int:=(↑n:Int).tmod (32:Int);let c11:AV:=int IntKind.i64 (↑n:Int);let c9:AV:=own 7 1 0 l;let c8:Int:=(↑i:Int);let c6:AV:=aq 1 l fun a_1=>int IntKind.u32 (↑(a a_1):Int);let c5:Int:=(2:Int)^min c12.toNat IntKind.u64.bits;let c4:Nat:=c8.toNat;let c1:Int:=IntKind.i64.wrap (c8+(1:Int));let c10:Int:=IntKind.u64.wrap (↑(a c4):Int);let c7:Nat:=c4+0;let c2:List AV:=[c6,c11,c9,int IntKind.i64 c1];let c3:List Prop:=[(32:Int)≠(0:Int),(0:Int)<=c12,(0:Int)<=c8/\c4<l,c7<l];some (ah.fork (decide (c8<c13)) (ah.aj [(0:Int)<=c8/\c4<l] (ah.fork (decide (c1<c13)) (ah.aj [(0:Int)<=c1/\c1.toNat<l,(0:Int)<=(32:Int)] (ah.aj c3 (ah.leaf au.normal (c2,[(7,ak.mk true true 1 l fun j=>if(j==c7)=true then int IntKind.u32 (IntKind.u32.wrap ((IntKind.u64.wrap (↑(BitVec.ofInt IntKind.u64.bits c10|||BitVec.ofInt IntKind.u64.bits (IntKind.u64.wrap (IntKind.u64.wrap (↑(a c1.toNat):Int)*(2:Int)^min (Int.toNat (32:Int)) IntKind.u64.bits))).toNat:Int)).fdiv c5))else aD o j)])))) (ah.aj c3 (ah.leaf au.normal (c2,[(7,ak.mk true true 1 l fun j=>if(j==c7)=true then int IntKind.u32 (IntKind.u32.wrap (c10.fdiv c5))else aD o j)]))))) (ah.leaf (au.exit 0) ([c6,c11,c9,int IntKind.i64 c8],[(7,ak.mk true true 1 l fun a=>int IntKind.u32 (↑(o a):Int))]))):=ag
theorem acA {n l i:Nat} {a o:Nat->Nat}:cw T eJ [] 60 qe (behind (aA qe) [1,1,1,1,0,1]) ⟨aC nX (xZ a l n i 7),dn 7 l o,8⟩=
  some (ah.aj [dQ l fun i=>aD o (i+0),l<2^40] (ah.leaf au.ret [mag (val l fun i=>numOf (aD o (i+0)))])):=ag
theorem Dm {c:Ctx} (h0:∀nx k x,c.k0 k=some x->k<nx):c.k0=bB:=by
 funext k
 cases hk:c.k0 k with
 |none=>rfl
 |some x=>have:=h0 0 k x hk;omega
theorem Mo {o:Nat->Nat} {l:Nat} {v:Int} {x:Nat} (hv:v=(x:Nat)) {j:Nat} (hj:j<l+1):(if j<l then aD o j else nth [.int .u32 v] (.int .u32 0) (j-l))=aD (cH o l x) j:=by
 by_cases h:j<l
 ·rw[if_pos h];unfold aD;rw[fL aa]
 ·have:j=l:=aa
  subst this
  rw[if_neg h,hv]
  simp[nth,aD,j0]
theorem Ul {A n:Nat} (hA:nl A<2^39) (hn:n<2^43) (K:Nat):aE P CC K [.mag A,.int .i64 n] [] (aK (.mag (A*2^n)) []):=by
 refine gr hT aif rfl aX rfl (fun _ c0 h0=>?_) K []
 have hk0:=Dm h0
 refine ax.hole [1,1,1,0,1] ag (aI.bA hT eZ hm 60 rU Ux ag ?_)
 have hw:IntKind.i64.wrap ((n:Int).tdiv 32)=((n/32:Nat):Int):=by
  rw[show(n:Int).tdiv 32=((n/32:Nat):Int)from(Int.ofNat_tdiv n 32).symm]
  exact eC rfl aa
 have hmd:(n:Int).tmod 32=((n%32:Nat):Int):=(Int.ofNat_tmod n 32).symm
 rw[hw]
 obtain⟨k,hk⟩:∃k,k=n/32:=⟨_,rfl⟩
 obtain⟨s,hs⟩:∃s,s=n%32:=⟨_,rfl⟩
 rw[<-hs]at hmd
 rw[<-hk]
 simp only[ah.all,az,aW]
 refine⟨aa,fun s' hv=>cJ ?_⟩
 refine ax.iw (i:=0) (y:=NN) ag (fun p:Nat×Nat×(Nat->Nat)=>⟨aC rU (Dc A n (k+p.1) p.2.1 p.1 7),dn 7 (k+p.1) p.2.2,8⟩)
  (fun p=>p.1<=nl A/\p.2.1<2^s/\(∀j,j<k+p.1->p.2.2 j<2^32)/\val (k+p.1) p.2.2+p.2.1*2^(32*(k+p.1))=val p.1 (aG A)*2^(32*k)*2^s)
  (fun p=>nl A-p.1) (0,0,fun _=>0)
  (dB [(7,12288)] hv hk0 rfl ⟨⟨rfl,aN rfl⟩,⟨rfl,aN rfl⟩,⟨rfl,cD rfl rfl rfl⟩,⟨rfl,aN rfl⟩,⟨rfl,aN rfl⟩,trivial⟩ ⟨⟨_,_,rfl,rfl,fF rfl fun j _=>rfl⟩,trivial⟩)
  ⟨by simp,Nat.two_pow_pos s,fun _ _=>by simp,?_⟩ ?_
 ·simp only
  rw[val_zero fun _ _=>rfl]
  simp[val]
 rintro⟨i,c,o⟩ ⟨hi,hc,ho,hval⟩
 simp only at hi hc ho hval
 have hs32:s<32:=aa
 have h31:2^s<=2^31:=Nat.pow_le_pow_right aa aa
 have hzi:=dG (N:=A) (i:=i)
 refine ax.bA hT eZ hm 60 rU abO ag ?_
 rw[hmd]
 have hor:=RY hs32 hzi hc
 obtain⟨b1,b2⟩:=Rm hs32 hzi hc
 simp only[ah.all,az,aZ,bk,aW,Nat.add_zero]at hor ⊢
 rw[hor]
 refine⟨fun hb=>⟨⟨aa,aa,aa⟩,⟨aa,aa⟩,aa,fun s' hv=>⟨(i+1,(c+aG A i*2^s)/4294967296,cH o (k+i) ((c+aG A i*2^s)%4294967296)),?_,⟨by simp only;omega,b2,fun j hj=>?_,?_⟩,by simp only;omega⟩⟩,fun hb s' hv=>fC ?_⟩
 ·refine dB (vs:=Dc A n (k+(i+1)) ((c+aG A i*2^s)/4294967296) (i+1) 7) (ps:=dn 7 (k+(i+1)) (cH o (k+i) ((c+aG A i*2^s)%4294967296))) [(7,77832)] hv hk0 rfl ⟨⟨rfl,aN rfl⟩,⟨rfl,aN rfl⟩,⟨rfl,cD rfl rfl rfl⟩,⟨rfl,gh ?_⟩,⟨rfl,gh ?_⟩,trivial⟩
   ⟨⟨_,_,rfl,rfl,fF rfl fun j hj=>Mo (by rw[jN]) aa⟩,trivial⟩
  ·rw[lM];omega
  ·rw[wrap_i64 aa aa];omega
 ·simp only at hj ⊢
  unfold cH
  split
  ·omega
  ·exact ho j aa
 ·simp only
  have:=SL (x:=aG A i) hval
  rw[show k+(i+1)=(k+i)+1 by omega,th,gY,this,val]
  congr 1
  rw[Nat.add_mul,Nat.mul_assoc,<-Nat.pow_add,show 32*i+32*k=32*(k+i) by omega]
 ·have hin:i=nl A:=aa
  show aI P c0 rz.ntmps (behind (aA rz) [1,1,1,0,1]) s' _
  refine aI.jZ hT eZ hm 60 hv (h0 _) rfl (gL aa) YS ag ag ?_
  simp only[ah.all,az,Nat.add_zero]
  have ho':∀j,j<k+i+1->cH o (k+i) c j<2^32:=fun j hj=>by
   unfold cH
   split
   ·omega
   ·exact ho j aa
  have e:∀j,j<k+i+1->(if j<k+i then aD o j else nth [.int .u32 (IntKind.u32.wrap (c:Int))] (.int .u32 0) (j-(k+i)))=aD (cH o (k+i) c) j:=fun j hj=>Mo (wrap_u32 aa aa) hj
  refine⟨⟨aa,aa,fun j hj=>?_,aa⟩,dF (congrArg AV.mag ?_)⟩
  ·exact⟨_,ho' j hj,e j hj⟩
  ·rw[val_congr (y:=cH o (k+i) c) fun j hj=>(congrArg numOf (e j hj)).trans Hz,th,hval,hin,fZ,Nat.mul_assoc,<-Nat.pow_add]
   congr 2
   omega
def Qb:Spec:=bX fun l=>match l with
 |[a,.int .i64 n]=>match je a with
  |some A=>some (aK (.mag (A*2^n.toNat)) [nl A<2^39,0<=n,n<2^43])
  |none=>none
 |_=>none
theorem HU {f:FuncId} {g:Nat->Int->AV} {l:Nat->List Prop} {m:Int} (h:∀{A n:Nat},az (l A)->(n:Int)<m->∀K,aE P f K [.mag A,.int .i64 n] [] (aK (g A n) [])):∀K args pre r,bX (fun a=>match a with
 |[a,.int .i64 n]=>match je a with
  |some A=>some (aK (g A n) (l A++[0<=n,n<m]))
  |none=>none
 |_=>none) K args pre=some r->aE P f K args pre r:=by
 refine cK fun K args r hk hs _=>?_
 split at hs
 ·split at hs
  ·rename_i A hA
   simp only[ay]at hs
   subst hs
   intro need
   obtain⟨h1,h2,h3⟩:=eL.1 need
   rename_i n _
   obtain⟨n,rfl⟩:=Int.eq_ofNat_of_zero_le h2
   exact gD (h h1 h3 K) hk ⟨lW hA,.refl _,trivial⟩ [] trivial
  ·simp at hs
 ·simp at hs
theorem ajn:∀K args pre r,Qb K args pre=some r->aE P CC K args pre r:=
 HU (g:=fun A n=>.mag (A*2^n.toNat)) (l:=fun A=>[nl A<2^39]) (m:=2^43) fun {A n} h hn K=>by
  have:=Ul (A:=A) (n:=n) h aa K
  simpa using this
theorem aes {A n:Nat} (hA:nl A<2^40) (hn:n<2^40) (K:Nat):aE P Ey K [.mag A,.int .i64 n] [] (aK (.mag (A*2^(32*n))) []):=by
 refine cj hT eZ hm T6 rfl aX rfl 60 T8 (fun _=>?_) K []
 simp only[ah.all,az,beq_iff_eq,beq_eq_false_iff_ne,ne_eq,aW,Nat.add_zero]
 refine⟨fun hb=>?_,fun hb=>⟨⟨aa,aa⟩,?_⟩⟩
 ·have:A=0:=jG.1 aa
  subst this
  rw[Nat.zero_mul];exact lH
 ·have hA0:A≠0:=fun h=>hb (by rw[h];rfl)
  have hlt:A*2^(32*n)<2^(32*(n+nl A)):=by
   rw[show 32*(n+nl A)=32*nl A+32*n by omega,Nat.pow_add]
   exact(Nat.mul_lt_mul_right (Nat.two_pow_pos _)).2 nh
  have hval:A*2^(32*n)=val (n+nl A) (fun i=>if i<n then 0 else aG A (i-n)):=by
   rw[val_add,val_zero fun i hi=>if_pos hi,Nat.zero_add]
   congr 1
   have:=fZ (N:=A)
   conv=>lhs;rw[<-this]
   exact val_congr fun i hi=>by rw[if_neg aa];congr 1;omega
  have hz:∀i,i<n+nl A->(if i<n then 0 else aG A (i-n))<2^32:=fun i _=>by
   split
   ·omega
   ·exact dG
  refine lO ?_ fun i hi=>?_
  ·rw[hval]
   refine CW hz (.inr ?_)
   have hp:=gn.2 hA0
   rw[if_neg aa,show n+nl A-1-n=nl A-1 by omega]
   exact CO hA0
  ·rw[hval,qN hz hi]
   split<;>rfl
def OK:Spec:=bX fun l=>match l with
 |[a,.int .i64 n]=>match je a with
  |some A=>some (aK (.mag (A*2^(32*n.toNat))) [nl A<2^40,0<=n,n<2^40])
  |none=>none
 |_=>none
theorem VA:∀K args pre r,OK K args pre=some r->aE P Ey K args pre r:=
 HU (g:=fun A n=>.mag (A*2^(32*n.toNat))) (l:=fun A=>[nl A<2^40]) (m:=2^40) fun {A n} h hn K=>by
  have:=aes (A:=A) (n:=n) h aa K
  simpa using this
theorem YH {A b:Nat} (hA:nl A<2^39) (hb:b<2^32) (K:Nat):aE P BB K [.mag A,.int .u32 b] [] (aK (.mag (A*b)) []):=by
 refine cj hT WC hm Ud rfl aX rfl 60 ajZ (fun _=>?_) K []
 have e:IntKind.u64.wrap (b:Int)=(b:Int):=cu aa aa
 rw[e]
 simp only[ah.all,az,aW]
 have:nl b<=1:=dz.2 aa
 exact⟨⟨aa,hA,aa⟩,.refl _⟩
def So:Spec:=bX fun l=>match l with
 |[a,.int .u32 b]=>match je a with
  |some A=>some (aK (.mag (A*b.toNat)) [nl A<2^39,0<=b,b<2^32])
  |none=>none
 |_=>none
theorem abg:∀K args pre r,So K args pre=some r->aE P BB K args pre r:=by
 refine cK fun K args r hk hs _=>?_
 split at hs
 ·rename_i a b
  split at hs
  ·rename_i A hA
   simp only[ay]at hs
   subst hs
   intro need
   obtain⟨h1,h2,h3⟩:nl A<2^39/\0<=b/\b<2^32:=need
   obtain⟨b,rfl⟩:=Int.eq_ofNat_of_zero_le h2
   exact gD (YH h1 aa K) hk ⟨lW hA,.refl _,trivial⟩ [] trivial
  ·simp at hs
 ·simp at hs
theorem acd {A k i:Nat}:aG A (i+k)=aG (A/2^(32*k)) i:=by
 unfold aG
 rw[Nat.div_div_eq_div_mul,<-Nat.pow_add]
 congr 3
 omega
theorem abh {a b s:Nat} (ha:a<2^32) (hb:b<2^32) (hs:s<32):(b*4294967296+a)/2^s%4294967296=a/2^s+b%2^s*2^(32-s):=by
 have:=Ai (R:=b*4294967296+a) (k:=0) hs
 have l0:aG (b*4294967296+a) 0=a:=by unfold aG;simp;omega
 have l1:aG (b*4294967296+a) (0+1)=b:=by unfold aG;simp;omega
 rw[l0,l1]at this
 rw[<-this]
 unfold aG
 simp
theorem akP {A n:Nat} (hA:nl A<2^40) (hn:n<2^62) (K:Nat):aE P B2 K [.mag A,.int .i64 n] [] (aK (.mag (A/2^n)) []):=by
 refine gr hT acK rfl aX rfl (fun _ c0 h0=>?_) K []
 have hk0:=Dm h0
 refine ax.hole [1,1,1,1,0,1] ag (aI.bA hT eZ hm 60 (nX++[4]) UO ag ?_)
 have hw:IntKind.i64.wrap ((n:Int).tdiv 32)=((n/32:Nat):Int):=by
  rw[show(n:Int).tdiv 32=((n/32:Nat):Int)from(Int.ofNat_tdiv n 32).symm]
  exact eC rfl aa
 have hmd:(n:Int).tmod 32=((n%32:Nat):Int):=(Int.ofNat_tmod n 32).symm
 rw[hw]
 obtain⟨k,hk⟩:∃k,k=n/32:=⟨_,rfl⟩
 obtain⟨s,hs⟩:∃s,s=n%32:=⟨_,rfl⟩
 rw[<-hs]at hmd
 rw[<-hk]
 have hnk:2^n=2^(32*k)*2^s:=by rw[<-Nat.pow_add];congr 1;omega
 simp only[ah.all,az,aZ,bk,aW]
 refine⟨aa,fun hb s' hv=>fA (.inl ?_),fun hb=>⟨⟨aa,aa⟩,aa,fun s' hv=>cJ ?_⟩⟩
 ·refine gy (us:=[.nil]) (.inr rfl) hv ag ?_
  have:A/2^n=0:=by
   rw[hnk,<-Nat.div_div_eq_div_mul,Nat.div_eq_of_lt (dz.1 (show nl A<=k by omega)),Nat.zero_div]
  rw[this];exact lH
 have hkA:k<nl A:=aa
 have hv:=iL (ls:=nX) (l:=[4]) (vs:=[.aq 1 (nl A-k) fun i=>.int .u32 (aG A (i+k):Nat),.int .i64 n,.own 53248 1 0 (nl A-k),.int .i64 0]) hv rfl rfl
 obtain⟨R,hR⟩:∃R,R=A/2^(32*k):=⟨_,rfl⟩
 obtain⟨l,hl⟩:∃l,l=nl A-k:=⟨_,rfl⟩
 have hRl:R<2^(32*l):=by
  rw[hR,Nat.div_lt_iff_lt_mul (Nat.two_pow_pos _),<-Nat.pow_add,<-Nat.mul_add]
  exact dz.1 (show nl A<=l+k by omega)
 have hfun:(fun i=>AV.int .u32 (aG A (i+k):Nat))=aD (aG R):=by
  funext i;unfold aD;rw[acd,hR]
 rw[hfun,<-hl]at hv
 refine ax.iw (i:=0) (y:=OL) ag (fun p:Nat×(Nat->Nat)=>⟨aC nX (xZ (aG R) l n p.1 7),dn 7 l p.2,8⟩)
  (fun p=>p.1<=l/\∀j,j<p.1->p.2 j=aG (R/2^s) j)
  (fun p=>l-p.1) (0,fun _=>0)
  (dB [(7,53248)] hv hk0 rfl ⟨⟨rfl,aN rfl⟩,⟨rfl,aN rfl⟩,⟨rfl,cD rfl rfl rfl⟩,⟨rfl,aN rfl⟩,trivial⟩ ⟨⟨_,_,rfl,rfl,fF rfl fun j _=>rfl⟩,trivial⟩)
  ⟨by simp,fun j hj=>by simp only at hj;omega⟩ ?_
 rintro⟨i,o⟩ ⟨hi,ho⟩
 simp only at hi ho
 have hs32:s<32:=aa
 have ha:=dG (N:=R) (i:=i)
 have hb':=dG (N:=R) (i:=i+1)
 refine ax.bA hT eZ hm 60 nX Xt ag ?_
 have w1:IntKind.i64.wrap ((i:Int)+1)=if i<l then((i+1:Nat):Int)else IntKind.i64.wrap ((i:Int)+1):=by
  split
  ·exact eC aa aa
  ·rfl
 simp only[ah.all,az,aZ,bk,aW,Nat.add_zero,beq_iff_eq]
 have next:∀{s':aM} {v:Int},i<l->v=((aG (R/2^s) i:Nat):Int)->bt nX s'=some (xZ (aG R) l n (i+1) 7,[(7,⟨true,true,1,l,fun j=>if j=i then .int .u32 v else aD o j⟩)])->
   ∃p:Nat×(Nat->Nat),(∃ρ,Le c0 ρ s' ⟨aC nX (xZ (aG R) l n p.1 7),dn 7 l p.2,8⟩)/\(p.1<=l/\∀j,j<p.1->p.2 j=aG (R/2^s) j)/\l-p.1<l-i:=by
  intro s' v hil hv1 hv
  refine⟨(i+1,cH o i (aG (R/2^s) i)),nS (dJ hv rfl ?_) (h0 _) rfl (gL aa),⟨by simp only;omega,fun j hj=>?_⟩,by simp only;omega⟩
  ·simp only[dn]
   congr 3
   funext j
   exact gO hv1 j
  ·simp only at hj ⊢
   unfold cH
   split
   ·rename_i h;rw[h]
   ·exact ho j aa
 refine⟨fun hb=>?_,fun hb s' hv=>fC ?_⟩
 ·have hil:i<l:=aa
  rw[if_pos hil]at w1
  rw[w1,hmd]
  have hf:∀x:Nat,(x:Int).fdiv (2^min ((s:Int).toNat) IntKind.u64.bits)=((x/2^s:Nat):Int):=fun x=>by
   have:min ((s:Int).toNat) IntKind.u64.bits=s:=by
    have:IntKind.u64.bits=64:=rfl
    omega
   rw[this,Int.fdiv_eq_ediv_of_nonneg _ (by exact Int.le_of_lt (Int.pow_pos (by decide)))]
   simp
  have wa:IntKind.u64.wrap (aG R i:Int)=((aG R i:Nat):Int):=cu aa aa
  have hor:IntKind.u64.wrap ((BitVec.ofInt IntKind.u64.bits (IntKind.u64.wrap (aG R i:Int))|||BitVec.ofInt IntKind.u64.bits (IntKind.u64.wrap (IntKind.u64.wrap (aG R (i+1):Int)*2^min (Int.toNat 32) IntKind.u64.bits))).toNat:Int)=((aG R (i+1)*4294967296+aG R i:Nat):Int):=by
   rw[BitVec.or_comm,cu (x:=(aG R (i+1):Int)) aa aa]
   exact vt hb' ha
  simp only[aW]
  refine⟨aa,fun h1=>⟨⟨aa,aa⟩,⟨aa,aa,aa,aa⟩,fun s' hv=>next hil ?_ hv⟩,fun h1=>⟨⟨aa,aa,aa,aa⟩,fun s' hv=>next hil ?_ hv⟩⟩
  ·rw[hor]
   have:=hf (aG R (i+1)*4294967296+aG R i)
   simp only[aW]at this
   rw[this,jN,abh ha hb' hs32,Ai hs32]
  ·rw[wa]
   have:=hf (aG R i)
   simp only[aW]at this
   have hd:=Nat.div_le_self (aG R i) (2^s)
   rw[this,jN,Ai hs32,jH (A:=R) (i:=i+1) (dz.2 (Nat.lt_of_lt_of_le hRl (Nat.pow_le_pow_right aa aa))),Nat.zero_mod,Nat.zero_mul,Nat.add_zero,Nat.mod_eq_of_lt aa]
 ·have hil:i=l:=aa
  show aI P c0 qe.ntmps (behind (aA qe) [1,1,1,1,0,1]) s' _
  refine aI.jZ hT eZ hm 60 hv (h0 _) rfl (gL aa) acA ag ag ?_
  simp only[ah.all,az,Nat.add_zero,jQ]
  refine⟨⟨gd fun j hj=>?_,aa⟩,dF (congrArg AV.mag ?_)⟩
  ·rw[ho j aa];exact dG
  ·rw[val_congr (y:=aG (R/2^s)) fun j hj=>ho j aa,qq (Nat.lt_of_le_of_lt (Nat.div_le_self _ _) hRl),hR,hnk,Nat.div_div_eq_div_mul]
def NQ:Spec:=bX fun l=>match l with
 |[a,.int .i64 n]=>match je a with
  |some A=>some (aK (.mag (A/2^n.toNat)) [nl A<2^40,0<=n,n<2^62])
  |none=>none
 |_=>none
theorem TK:∀K args pre r,NQ K args pre=some r->aE P B2 K args pre r:=
 HU (g:=fun A n=>.mag (A/2^n.toNat)) (l:=fun A=>[nl A<2^40]) (m:=2^62) fun {A n} h hn K=>by
  have:=akP (A:=A) (n:=n) h aa K
  simpa using this
end Go.Am.B
