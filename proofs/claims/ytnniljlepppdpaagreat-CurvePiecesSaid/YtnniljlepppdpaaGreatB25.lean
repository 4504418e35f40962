/- ref01: up, shifted, times, down. -/
import Derived.Test.YtnniljlepppdpaaGreatB24
set_option linter.unusedVariables false
namespace Go.Am.B
open Go Go.Am.N AV
theorem ai3:aU P Bt pN (az pN):=aT Proofs.Tryz.func264 ah ah ah
theorem Wb:aU P Dh Bh (az Bh):=aT Proofs.Tryz.func265 ah ah ah
theorem Yp:aU P BW Dt (az Dt):=aT Proofs.Tryz.func266 ah ah ah
theorem VP:aU P BV pn (az pn):=aT Proofs.Tryz.func267 ah ah ah
abbrev rX:List Nat:=[0,1,5,6,7]
abbrev Dq (A n l c i K:Nat):List AV:=[.mag A,.int .i64 n,.own K 1 0 l,.int .u64 c,.int .i64 i]
noncomputable abbrev OW:Code:=part (az pN) [1,1,1,0,1,0,0]
def Mx:aV:=[(oW,tU),(qC,wj),(wA,Ie)]
theorem Y7:bn P Mx:=aI wG (aI zS (aI Mu bE))
theorem XP {A n:Nat}:aJ T eG [] 60 rX (before (az pN) [1,1,1,0,1]) ⟨aQ 0 [.mag A,.int .i64 n],[],0⟩=
  let c1:Int:=IntKind.i64.wrap ((↑n:Int).tdiv (32:Int));some (ag.aj [(32:Int)≠(0:Int),(0:Int)<=c1/\c1<=c1/\c1<=(2:Int)^47/\c1*(↑(4:Nat):Int)<=(2:Int)^47] (ag.leaf ak.normal ([mag A,int IntKind.i64 (↑n:Int),own 12288 1 0 c1.toNat,int IntKind.u64 (0:Int),int IntKind.i64 (0:Int)],[(12288,ax.mk true true 1 c1.toNat fun x=>int IntKind.u32 (0:Int))]))):=ah
theorem agK {A n l c i:Nat} {o:Nat->Nat}:aJ T eG [14] 60 rX [OW] ⟨aF rX (Dq A n l c i 7),de 7 l o,8⟩=
  let c4:Int:=(↑n:Int).tmod (32:Int);let c3:AV:=int IntKind.i64 (↑n:Int);let c2:Int:=(↑i:Int);let c1:Int:=IntKind.u64.wrap (↑(BitVec.ofInt IntKind.u64.bits (↑c:Int)|||BitVec.ofInt IntKind.u64.bits (IntKind.u64.wrap (IntKind.u64.wrap (↑(aC A c2.toNat):Int)*(2:Int)^min c4.toNat IntKind.u64.bits))).toNat:Int);some (ag.fork (decide (c2<(↑(nl A):Int))) (ag.aj [(0:Int)<=c2/\c2.toNat<nl A,(32:Int)≠(0:Int),(0:Int)<=c4] (ag.aj [(1:Nat)*1<=2^24,(l+1)*((4:Nat)+1)*2<=2^47] (ag.aj [(0:Int)<=(32:Int)] (ag.leaf ak.normal ([mag A,c3,own 77832 1 0 (l+1),int IntKind.u64 (c1.fdiv ((2:Int)^min (Int.toNat (32:Int)) IntKind.u64.bits)),int IntKind.i64 (IntKind.i64.wrap (c2+(1:Int)))],[(77832,ax.mk true true 1 (l+1) fun i=>if i<l then aB o i else nth [int IntKind.u32 (IntKind.u32.wrap c1)] (int IntKind.u32 (0:Int)) (i-l+0))]))))) (ag.leaf (ak.exit 0) ([mag A,c3,own 7 1 0 l,int IntKind.u64 (↑c:Int),int IntKind.i64 c2],[(7,ax.mk true true 1 l fun a=>int IntKind.u32 (↑(o a):Int))]))):=ah
theorem agV {A n l c i:Nat} {o:Nat->Nat}:cJ T eG [] 60 pN (behind (az pN) [1,1,1,0,1]) ⟨aF rX (Dq A n l c i 7),de 7 l o,8⟩=
  let c3:AV:=int IntKind.u32 (0:Int);let c2:Nat:=l+1;let c1:AV:=int IntKind.u32 (IntKind.u32.wrap (↑c:Int));some (ag.aj [(1:Nat)*1<=2^24,c2*((4:Nat)+1)*2<=2^47,dN c2 fun i=>if i+0<l then aB o (i+0)else nth [c1] c3 (i+0-l+0),c2<2^40] (ag.leaf ak.ret [mag (val c2 fun i=>numOf (if i+0<l then aB o (i+0)else nth [c1] c3 (i+0-l+0)))])):=ah
theorem Ua {A n:Nat}:bP T eG [7] 60 Bh (az Bh) ⟨aQ 0 [.mag A,.int .i64 n],[],0⟩=
  let c1:Int:=(↑n:Int);some (ag.fork ((↑(nl A):Int)==(0:Int)) (ag.leaf ak.ret [nil]) (ag.aj [(0:Int)<=c1/\c1<=c1/\c1<=(2:Int)^47/\c1*(↑(4:Nat):Int)<=(2:Int)^47,(c1.toNat+nl A)*((4:Nat)+1)*2<=2^47] (ag.leaf ak.ret [aq 1 (c1.toNat+nl A) fun i=>if i+0<c1.toNat then int IntKind.u32 (0:Int)else int IntKind.u32 (↑(aC A (i+0-c1.toNat)):Int)]))):=ah
theorem TB {A b:Nat}:bP T Mx [] 60 Dt (az Dt) ⟨aQ 0 [.mag A,.int .u32 b],[],0⟩=
  let c1:Int:=IntKind.u64.wrap (↑b:Int);some (ag.aj [(0:Int)<=c1/\c1<(2:Int)^64,nl A<2^39,nl c1.toNat<2^39] (ag.leaf ak.ret [mag (A*c1.toNat)])):=ah
abbrev mU:List Nat:=[0,1,5,6]
abbrev yA (a:Nat->Nat) (l n i K:Nat):List AV:=[.aq 1 l (aB a),.int .i64 n,.own K 1 0 l,.int .i64 i]
noncomputable abbrev Rw:Code:=part (az pn) [1,1,1,1,0,1,0,0]
theorem YF {A n:Nat}:aJ T eG [12] 60 (mU++[4]) (before (az pn) [1,1,1,1,0,1]) ⟨aQ 0 [.mag A,.int .i64 n],[],0⟩=
  let c5:AV:=int IntKind.i64 (↑n:Int);let c3:Int:=(↑(nl A):Int);let c2:Int:=IntKind.i64.wrap ((↑n:Int).tdiv (32:Int));let c1:Nat:=c3.toNat-c2.toNat;let c4:Int:=(↑c1:Int);some (ag.aj [(32:Int)≠(0:Int)] (ag.fork (decide (c2>=c3)) (ag.leaf ak.ret ([mag A,c5,tuple [],tuple [],nil],[])) (ag.aj [(32:Int)≠(0:Int),(0:Int)<=c2/\c2<=c3/\c3<=c3/\c3<=c3] (ag.aj [(0:Int)<=c4/\c4<=c4/\c4<=(2:Int)^47/\c4*(↑(4:Nat):Int)<=(2:Int)^47] (ag.leaf ak.normal ([aq 1 c1 fun i=>int IntKind.u32 (↑(aC A (i+c2.toNat)):Int),c5,own 53248 1 0 c4.toNat,int IntKind.i64 (0:Int),nil],[(53248,ax.mk true true 1 c4.toNat fun x=>int IntKind.u32 (0:Int))])))))):=ah
theorem aa8 {n l i:Nat} {a o:Nat->Nat}:aJ T eG [23,35] 60 mU [Rw] ⟨aF mU (yA a l n i 7),de 7 l o,8⟩=
  let c13:Int:=(↑l:Int);let c12:Int:=(↑n:Int).tmod (32:Int);let c11:AV:=int IntKind.i64 (↑n:Int);let c9:AV:=own 7 1 0 l;let c8:Int:=(↑i:Int);let c6:AV:=aq 1 l fun a_1=>int IntKind.u32 (↑(a a_1):Int);let c5:Int:=(2:Int)^min c12.toNat IntKind.u64.bits;let c4:Nat:=c8.toNat;let c1:Int:=IntKind.i64.wrap (c8+(1:Int));let c10:Int:=IntKind.u64.wrap (↑(a c4):Int);let c7:Nat:=c4+0;let c2:List AV:=[c6,c11,c9,int IntKind.i64 c1];let c3:List Prop:=[(32:Int)≠(0:Int),(0:Int)<=c12,(0:Int)<=c8/\c4<l,c7<l];some (ag.fork (decide (c8<c13)) (ag.aj [(0:Int)<=c8/\c4<l] (ag.fork (decide (c1<c13)) (ag.aj [(0:Int)<=c1/\c1.toNat<l,(0:Int)<=(32:Int)] (ag.aj c3 (ag.leaf ak.normal (c2,[(7,ax.mk true true 1 l fun j=>if(j==c7)=true then int IntKind.u32 (IntKind.u32.wrap ((IntKind.u64.wrap (↑(BitVec.ofInt IntKind.u64.bits c10|||BitVec.ofInt IntKind.u64.bits (IntKind.u64.wrap (IntKind.u64.wrap (↑(a c1.toNat):Int)*(2:Int)^min (Int.toNat (32:Int)) IntKind.u64.bits))).toNat:Int)).fdiv c5))else aB o j)])))) (ag.aj c3 (ag.leaf ak.normal (c2,[(7,ax.mk true true 1 l fun j=>if(j==c7)=true then int IntKind.u32 (IntKind.u32.wrap (c10.fdiv c5))else aB o j)]))))) (ag.leaf (ak.exit 0) ([c6,c11,c9,int IntKind.i64 c8],[(7,ax.mk true true 1 l fun a=>int IntKind.u32 (↑(o a):Int))]))):=ah
theorem ab9 {n l i:Nat} {a o:Nat->Nat}:cJ T eG [] 60 pn (behind (az pn) [1,1,1,1,0,1]) ⟨aF mU (yA a l n i 7),de 7 l o,8⟩=
  some (ag.aj [dN l fun i=>aB o (i+0),l<2^40] (ag.leaf ak.ret [mag (val l fun i=>numOf (aB o (i+0)))])):=ah
theorem A6 {c:Ctx} (h0:∀nx k x,c.k0 k=some x->k<nx):c.k0=br:=by
 funext k
 cases hk:c.k0 k with
 |none=>rfl
 |some x=>have:=h0 0 k x hk;omega
theorem OI {o:Nat->Nat} {l:Nat} {v:Int} {x:Nat} (hv:v=(x:Nat)) {j:Nat} (hj:j<l+1):(if j<l then aB o j else nth [.int .u32 v] (.int .u32 0) (j-l))=aB (cm o l x) j:=by
 by_cases h:j<l
 ·rw[if_pos h];unfold aB;rw[fB aa]
 ·have:j=l:=aa
  subst this
  rw[if_neg h,hv]
  simp[nth,aB,jP]
theorem acq {A n:Nat} (hA:nl A<2^39) (hn:n<2^43) (K:Nat):aD P Bt K [.mag A,.int .i64 n] [] (aL (.mag (A*2^n)) []):=by
 refine iy hT ai3 rfl aW rfl (fun _ c0 h0=>?_) K []
 have hk0:=A6 h0
 refine ay.hole [1,1,1,0,1] ah (aG.bz hT eM hm 60 rX XP ah ?_)
 have hw:IntKind.i64.wrap ((n:Int).tdiv 32)=((n/32:Nat):Int):=by
  rw[show(n:Int).tdiv 32=((n/32:Nat):Int)from(Int.ofNat_tdiv n 32).symm]
  exact eB rfl aa
 have hmd:(n:Int).tmod 32=((n%32:Nat):Int):=(Int.ofNat_tmod n 32).symm
 rw[hw]
 obtain⟨k,hk⟩:∃k,k=n/32:=⟨_,rfl⟩
 obtain⟨s,hs⟩:∃s,s=n%32:=⟨_,rfl⟩
 rw[<-hs]at hmd
 rw[<-hk]
 simp only[ag.all,aA,aX]
 refine⟨aa,fun s' hv=>cw ?_⟩
 refine ay.iz (i:=0) (y:=OW) ah (fun p:Nat×Nat×(Nat->Nat)=>⟨aF rX (Dq A n (k+p.1) p.2.1 p.1 7),de 7 (k+p.1) p.2.2,8⟩)
  (fun p=>p.1<=nl A/\p.2.1<2^s/\(∀j,j<k+p.1->p.2.2 j<2^32)/\val (k+p.1) p.2.2+p.2.1*2^(32*(k+p.1))=val p.1 (aC A)*2^(32*k)*2^s)
  (fun p=>nl A-p.1) (0,0,fun _=>0)
  (dr [(7,12288)] hv hk0 rfl ⟨⟨rfl,aK rfl⟩,⟨rfl,aK rfl⟩,⟨rfl,cP rfl rfl rfl⟩,⟨rfl,aK rfl⟩,⟨rfl,aK rfl⟩,trivial⟩ ⟨⟨_,_,rfl,rfl,fq rfl fun j _=>rfl⟩,trivial⟩)
  ⟨by simp,Nat.two_pow_pos s,fun _ _=>by simp,?_⟩ ?_
 ·simp only
  rw[val_zero fun _ _=>rfl]
  simp[val]
 rintro⟨i,c,o⟩ ⟨hi,hc,ho,hval⟩
 simp only at hi hc ho hval
 have hs32:s<32:=aa
 have h31:2^s<=2^31:=Nat.pow_le_pow_right aa aa
 have hzi:=dG (N:=A) (i:=i)
 refine ay.bz hT eM hm 60 rX agK ah ?_
 rw[hmd]
 have hor:=OO hs32 hzi hc
 obtain⟨b1,b2⟩:=Pk hs32 hzi hc
 simp only[ag.all,aA,bf,bt,aX,Nat.add_zero]at hor ⊢
 rw[hor]
 refine⟨fun hb=>⟨⟨aa,aa,aa⟩,⟨aa,aa⟩,aa,fun s' hv=>⟨(i+1,(c+aC A i*2^s)/4294967296,cm o (k+i) ((c+aC A i*2^s)%4294967296)),?_,⟨by simp only;omega,b2,fun j hj=>?_,?_⟩,by simp only;omega⟩⟩,fun hb s' hv=>fc ?_⟩
 ·refine dr (vs:=Dq A n (k+(i+1)) ((c+aC A i*2^s)/4294967296) (i+1) 7) (ps:=de 7 (k+(i+1)) (cm o (k+i) ((c+aC A i*2^s)%4294967296))) [(7,77832)] hv hk0 rfl ⟨⟨rfl,aK rfl⟩,⟨rfl,aK rfl⟩,⟨rfl,cP rfl rfl rfl⟩,⟨rfl,ga ?_⟩,⟨rfl,ga ?_⟩,trivial⟩
   ⟨⟨_,_,rfl,rfl,fq rfl fun j hj=>OI (by rw[jy]) aa⟩,trivial⟩
  ·rw[lG];omega
  ·rw[wrap_i64 aa aa];omega
 ·simp only at hj ⊢
  unfold cm
  split
  ·omega
  ·exact ho j aa
 ·simp only
  have:=Jn (x:=aC A i) hval
  rw[show k+(i+1)=(k+i)+1 by omega,qA,gL,this,val]
  congr 1
  rw[Nat.add_mul,Nat.mul_assoc,<-Nat.pow_add,show 32*i+32*k=32*(k+i) by omega]
 ·have hin:i=nl A:=aa
  show aG P c0 pN.ntmps (behind (az pN) [1,1,1,0,1]) s' _
  refine aG.j6 hT eM hm 60 hv (h0 _) rfl (gH aa) agV ah ah ?_
  simp only[ag.all,aA,Nat.add_zero]
  have ho':∀j,j<k+i+1->cm o (k+i) c j<2^32:=fun j hj=>by
   unfold cm
   split
   ·omega
   ·exact ho j aa
  have e:∀j,j<k+i+1->(if j<k+i then aB o j else nth [.int .u32 (IntKind.u32.wrap (c:Int))] (.int .u32 0) (j-(k+i)))=aB (cm o (k+i) c) j:=fun j hj=>OI (wrap_u32 aa aa) hj
  refine⟨⟨aa,aa,fun j hj=>?_,aa⟩,dD (congrArg AV.mag ?_)⟩
  ·exact⟨_,ho' j hj,e j hj⟩
  ·rw[val_congr (y:=cm o (k+i) c) fun j hj=>(congrArg numOf (e j hj)).trans FY,qA,hval,hin,fS,Nat.mul_assoc,<-Nat.pow_add]
   congr 2
   omega
def Rm:Spec:=bM fun l=>match l with
 |[a,.int .i64 n]=>match iV a with
  |some A=>some (aL (.mag (A*2^n.toNat)) [nl A<2^39,0<=n,n<2^43])
  |none=>none
 |_=>none
theorem Gt {f:FuncId} {g:Nat->Int->AV} {l:Nat->List Prop} {m:Int} (h:∀{A n:Nat},aA (l A)->(n:Int)<m->∀K,aD P f K [.mag A,.int .i64 n] [] (aL (g A n) [])):∀K args pre r,bM (fun a=>match a with
 |[a,.int .i64 n]=>match iV a with
  |some A=>some (aL (g A n) (l A++[0<=n,n<m]))
  |none=>none
 |_=>none) K args pre=some r->aD P f K args pre r:=by
 refine ct fun K args r hk hs _=>?_
 split at hs
 ·split at hs
  ·rename_i A hA
   simp only[au]at hs
   subst hs
   intro need
   obtain⟨h1,h2,h3⟩:=dn.1 need
   rename_i n _
   obtain⟨n,rfl⟩:=Int.eq_ofNat_of_zero_le h2
   exact gv (h h1 h3 K) hk ⟨lQ hA,.refl _,trivial⟩ [] trivial
  ·simp at hs
 ·simp at hs
theorem afe:∀K args pre r,Rm K args pre=some r->aD P Bt K args pre r:=
 Gt (g:=fun A n=>.mag (A*2^n.toNat)) (l:=fun A=>[nl A<2^39]) (m:=2^43) fun {A n} h hn K=>by
  have:=acq (A:=A) (n:=n) h aa K
  simpa using this
theorem ah9 {A n:Nat} (hA:nl A<2^40) (hn:n<2^40) (K:Nat):aD P Dh K [.mag A,.int .i64 n] [] (aL (.mag (A*2^(32*n))) []):=by
 refine bW hT eM hm Wb rfl aW rfl 60 Ua (fun _=>?_) K []
 simp only[ag.all,aA,beq_iff_eq,beq_eq_false_iff_ne,ne_eq,aX,Nat.add_zero]
 refine⟨fun hb=>?_,fun hb=>⟨⟨aa,aa⟩,?_⟩⟩
 ·have:A=0:=ja.1 aa
  subst this
  rw[Nat.zero_mul];exact kH
 ·have hA0:A≠0:=fun h=>hb (by rw[h];rfl)
  have hlt:A*2^(32*n)<2^(32*(n+nl A)):=by
   rw[show 32*(n+nl A)=32*nl A+32*n by omega,Nat.pow_add]
   exact(Nat.mul_lt_mul_right (Nat.two_pow_pos _)).2 mT
  have hval:A*2^(32*n)=val (n+nl A) (fun i=>if i<n then 0 else aC A (i-n)):=by
   rw[val_add,val_zero fun i hi=>if_pos hi,Nat.zero_add]
   congr 1
   have:=fS (N:=A)
   conv=>lhs;rw[<-this]
   exact val_congr fun i hi=>by rw[if_neg aa];congr 1;omega
  have hz:∀i,i<n+nl A->(if i<n then 0 else aC A (i-n))<2^32:=fun i _=>by
   split
   ·omega
   ·exact dG
  refine lD ?_ fun i hi=>?_
  ·rw[hval]
   refine AA hz (.inr ?_)
   have hp:=gd.2 hA0
   rw[if_neg aa,show n+nl A-1-n=nl A-1 by omega]
   exact BJ hA0
  ·rw[hval,pU hz hi]
   split<;>rfl
def JT:Spec:=bM fun l=>match l with
 |[a,.int .i64 n]=>match iV a with
  |some A=>some (aL (.mag (A*2^(32*n.toNat))) [nl A<2^40,0<=n,n<2^40])
  |none=>none
 |_=>none
theorem aaF:∀K args pre r,JT K args pre=some r->aD P Dh K args pre r:=
 Gt (g:=fun A n=>.mag (A*2^(32*n.toNat))) (l:=fun A=>[nl A<2^40]) (m:=2^40) fun {A n} h hn K=>by
  have:=ah9 (A:=A) (n:=n) h aa K
  simpa using this
theorem abQ {A b:Nat} (hA:nl A<2^39) (hb:b<2^32) (K:Nat):aD P BW K [.mag A,.int .u32 b] [] (aL (.mag (A*b)) []):=by
 refine bW hT Y7 hm Yp rfl aW rfl 60 TB (fun _=>?_) K []
 have e:IntKind.u64.wrap (b:Int)=(b:Int):=bZ aa aa
 rw[e]
 simp only[ag.all,aA,aX]
 have:nl b<=1:=dm.2 aa
 exact⟨⟨aa,hA,aa⟩,.refl _⟩
def Qr:Spec:=bM fun l=>match l with
 |[a,.int .u32 b]=>match iV a with
  |some A=>some (aL (.mag (A*b.toNat)) [nl A<2^39,0<=b,b<2^32])
  |none=>none
 |_=>none
theorem Zt:∀K args pre r,Qr K args pre=some r->aD P BW K args pre r:=by
 refine ct fun K args r hk hs _=>?_
 split at hs
 ·rename_i a b
  split at hs
  ·rename_i A hA
   simp only[au]at hs
   subst hs
   intro need
   obtain⟨h1,h2,h3⟩:nl A<2^39/\0<=b/\b<2^32:=need
   obtain⟨b,rfl⟩:=Int.eq_ofNat_of_zero_le h2
   exact gv (abQ h1 aa K) hk ⟨lQ hA,.refl _,trivial⟩ [] trivial
  ·simp at hs
 ·simp at hs
theorem WB {A k i:Nat}:aC A (i+k)=aC (A/2^(32*k)) i:=by
 unfold aC
 rw[Nat.div_div_eq_div_mul,<-Nat.pow_add]
 congr 3
 omega
theorem adn {a b s:Nat} (ha:a<2^32) (hb:b<2^32) (hs:s<32):(b*4294967296+a)/2^s%4294967296=a/2^s+b%2^s*2^(32-s):=by
 have:=y7 (R:=b*4294967296+a) (k:=0) hs
 have l0:aC (b*4294967296+a) 0=a:=by unfold aC;simp;omega
 have l1:aC (b*4294967296+a) (0+1)=b:=by unfold aC;simp;omega
 rw[l0,l1]at this
 rw[<-this]
 unfold aC
 simp
theorem Xd {A n:Nat} (hA:nl A<2^40) (hn:n<2^62) (K:Nat):aD P BV K [.mag A,.int .i64 n] [] (aL (.mag (A/2^n)) []):=by
 refine iy hT VP rfl aW rfl (fun _ c0 h0=>?_) K []
 have hk0:=A6 h0
 refine ay.hole [1,1,1,1,0,1] ah (aG.bz hT eM hm 60 (mU++[4]) YF ah ?_)
 have hw:IntKind.i64.wrap ((n:Int).tdiv 32)=((n/32:Nat):Int):=by
  rw[show(n:Int).tdiv 32=((n/32:Nat):Int)from(Int.ofNat_tdiv n 32).symm]
  exact eB rfl aa
 have hmd:(n:Int).tmod 32=((n%32:Nat):Int):=(Int.ofNat_tmod n 32).symm
 rw[hw]
 obtain⟨k,hk⟩:∃k,k=n/32:=⟨_,rfl⟩
 obtain⟨s,hs⟩:∃s,s=n%32:=⟨_,rfl⟩
 rw[<-hs]at hmd
 rw[<-hk]
 have hnk:2^n=2^(32*k)*2^s:=by rw[<-Nat.pow_add];congr 1;omega
 simp only[ag.all,aA,bf,bt,aX]
 refine⟨aa,fun hb s' hv=>ff (.inl ?_),fun hb=>⟨⟨aa,aa⟩,aa,fun s' hv=>cw ?_⟩⟩
 ·refine gj (us:=[.nil]) (.inr rfl) hv ah ?_
  have:A/2^n=0:=by
   rw[hnk,<-Nat.div_div_eq_div_mul,Nat.div_eq_of_lt (dm.1 (show nl A<=k by omega)),Nat.zero_div]
  rw[this];exact kH
 have hkA:k<nl A:=aa
 have hv:=iD (ls:=mU) (l:=[4]) (vs:=[.aq 1 (nl A-k) fun i=>.int .u32 (aC A (i+k):Nat),.int .i64 n,.own 53248 1 0 (nl A-k),.int .i64 0]) hv rfl rfl
 obtain⟨R,hR⟩:∃R,R=A/2^(32*k):=⟨_,rfl⟩
 obtain⟨l,hl⟩:∃l,l=nl A-k:=⟨_,rfl⟩
 have hRl:R<2^(32*l):=by
  rw[hR,Nat.div_lt_iff_lt_mul (Nat.two_pow_pos _),<-Nat.pow_add,<-Nat.mul_add]
  exact dm.1 (show nl A<=l+k by omega)
 have hfun:(fun i=>AV.int .u32 (aC A (i+k):Nat))=aB (aC R):=by
  funext i;unfold aB;rw[WB,hR]
 rw[hfun,<-hl]at hv
 refine ay.iz (i:=0) (y:=Rw) ah (fun p:Nat×(Nat->Nat)=>⟨aF mU (yA (aC R) l n p.1 7),de 7 l p.2,8⟩)
  (fun p=>p.1<=l/\∀j,j<p.1->p.2 j=aC (R/2^s) j)
  (fun p=>l-p.1) (0,fun _=>0)
  (dr [(7,53248)] hv hk0 rfl ⟨⟨rfl,aK rfl⟩,⟨rfl,aK rfl⟩,⟨rfl,cP rfl rfl rfl⟩,⟨rfl,aK rfl⟩,trivial⟩ ⟨⟨_,_,rfl,rfl,fq rfl fun j _=>rfl⟩,trivial⟩)
  ⟨by simp,fun j hj=>by simp only at hj;omega⟩ ?_
 rintro⟨i,o⟩ ⟨hi,ho⟩
 simp only at hi ho
 have hs32:s<32:=aa
 have ha:=dG (N:=R) (i:=i)
 have hb':=dG (N:=R) (i:=i+1)
 refine ay.bz hT eM hm 60 mU aa8 ah ?_
 have w1:IntKind.i64.wrap ((i:Int)+1)=if i<l then((i+1:Nat):Int)else IntKind.i64.wrap ((i:Int)+1):=by
  split
  ·exact eB aa aa
  ·rfl
 simp only[ag.all,aA,bf,bt,aX,Nat.add_zero,beq_iff_eq]
 have next:∀{s':aH} {v:Int},i<l->v=((aC (R/2^s) i:Nat):Int)->bk mU s'=some (yA (aC R) l n (i+1) 7,[(7,⟨true,true,1,l,fun j=>if j=i then .int .u32 v else aB o j⟩)])->
   ∃p:Nat×(Nat->Nat),(∃ρ,Le c0 ρ s' ⟨aF mU (yA (aC R) l n p.1 7),de 7 l p.2,8⟩)/\(p.1<=l/\∀j,j<p.1->p.2 j=aC (R/2^s) j)/\l-p.1<l-i:=by
  intro s' v hil hv1 hv
  refine⟨(i+1,cm o i (aC (R/2^s) i)),m7 (dH hv rfl ?_) (h0 _) rfl (gH aa),⟨by simp only;omega,fun j hj=>?_⟩,by simp only;omega⟩
  ·simp only[de]
   congr 3
   funext j
   exact gE hv1 j
  ·simp only at hj ⊢
   unfold cm
   split
   ·rename_i h;rw[h]
   ·exact ho j aa
 refine⟨fun hb=>?_,fun hb s' hv=>fc ?_⟩
 ·have hil:i<l:=aa
  rw[if_pos hil]at w1
  rw[w1,hmd]
  have hf:∀x:Nat,(x:Int).fdiv (2^min ((s:Int).toNat) IntKind.u64.bits)=((x/2^s:Nat):Int):=fun x=>by
   have:min ((s:Int).toNat) IntKind.u64.bits=s:=by
    have:IntKind.u64.bits=64:=rfl
    omega
   rw[this,Int.fdiv_eq_ediv_of_nonneg _ (by exact Int.le_of_lt (Int.pow_pos (by decide)))]
   simp
  have wa:IntKind.u64.wrap (aC R i:Int)=((aC R i:Nat):Int):=bZ aa aa
  have hor:IntKind.u64.wrap ((BitVec.ofInt IntKind.u64.bits (IntKind.u64.wrap (aC R i:Int))|||BitVec.ofInt IntKind.u64.bits (IntKind.u64.wrap (IntKind.u64.wrap (aC R (i+1):Int)*2^min (Int.toNat 32) IntKind.u64.bits))).toNat:Int)=((aC R (i+1)*4294967296+aC R i:Nat):Int):=by
   rw[BitVec.or_comm,bZ (x:=(aC R (i+1):Int)) aa aa]
   exact uV hb' ha
  simp only[aX]
  refine⟨aa,fun h1=>⟨⟨aa,aa⟩,⟨aa,aa,aa,aa⟩,fun s' hv=>next hil ?_ hv⟩,fun h1=>⟨⟨aa,aa,aa,aa⟩,fun s' hv=>next hil ?_ hv⟩⟩
  ·rw[hor]
   have:=hf (aC R (i+1)*4294967296+aC R i)
   simp only[aX]at this
   rw[this,jy,adn ha hb' hs32,y7 hs32]
  ·rw[wa]
   have:=hf (aC R i)
   simp only[aX]at this
   have hd:=Nat.div_le_self (aC R i) (2^s)
   rw[this,jy,y7 hs32,jt (A:=R) (i:=i+1) (dm.2 (Nat.lt_of_lt_of_le hRl (Nat.pow_le_pow_right aa aa))),Nat.zero_mod,Nat.zero_mul,Nat.add_zero,Nat.mod_eq_of_lt aa]
 ·have hil:i=l:=aa
  show aG P c0 pn.ntmps (behind (az pn) [1,1,1,1,0,1]) s' _
  refine aG.j6 hT eM hm 60 hv (h0 _) rfl (gH aa) ab9 ah ah ?_
  simp only[ag.all,aA,Nat.add_zero,jE]
  refine⟨⟨fW fun j hj=>?_,aa⟩,dD (congrArg AV.mag ?_)⟩
  ·rw[ho j aa];exact dG
  ·rw[val_congr (y:=aC (R/2^s)) fun j hj=>ho j aa,p7 (Nat.lt_of_le_of_lt (Nat.div_le_self _ _) hRl),hR,hnk,Nat.div_div_eq_div_mul]
def M9:Spec:=bM fun l=>match l with
 |[a,.int .i64 n]=>match iV a with
  |some A=>some (aL (.mag (A/2^n.toNat)) [nl A<2^40,0<=n,n<2^62])
  |none=>none
 |_=>none
theorem SW:∀K args pre r,M9 K args pre=some r->aD P BV K args pre r:=
 Gt (g:=fun A n=>.mag (A/2^n.toNat)) (l:=fun A=>[nl A<2^40]) (m:=2^62) fun {A n} h hn K=>by
  have:=Xd (A:=A) (n:=n) h aa K
  simpa using this
end Go.Am.B
