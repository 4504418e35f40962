/- ref05.Split, Eval. -/
import Derived.Test.YtolopdkjjlfgjaaGreatY43
import Derived.Test.YtolopdkjjlfgjaaGreatY40
set_option linter.unusedVariables false
noncomputable section
namespace Go.Am.B
open Go Go.Am.N AV af ak IntKind Proofs.Tryz
def fM (p:Nat->Rat) (t:Rat):Nat->Nat->Rat
 |0=>p
 |k+1=>fun i=>fM p t k i+(fM p t k (i+1)-fM p t k i)*t
def kD (m:Nat) (p:Nat->Rat) (t:Rat) (k j:Nat):Rat:=fM p t (min k (m-j)) j
def ke (m:Nat) (p:Nat->Rat) (t:Rat) (k i j:Nat):Rat:=if j<i then fM p t (k+1) j else kD m p t k j
def pW (p:Nat->Rat) (t:Rat) (k j:Nat):Rat:=if j<k then fM p t j 0 else 0
def oB (m:Nat) (p:Nat->Rat) (t:Rat) (k j:Nat):Rat:=if m<j+k then fM p t (m-j) j else 0
def rJ:bB:=nG::(139,KW kR kR kR Ly SJ)::[]
abbrev ym:Code:=aG f83
abbrev xP:Code:=part ym [1,1,1,1,0,1,0,0]
abbrev wk:Code:=part xP [1,0,0]
abbrev sD:List Nat:=[3,6,7,8,9,10]
abbrev BN (m k:Nat):List AV:=[.ptr 3 0 3 0 [],.int .i64 (m+1:Nat),.own 0 3 0 (m+1),.own 1 3 0 (m+1),.own 2 3 0 (m+1),.int .i64 k]
abbrev sV (m:Nat) (t:Rat) (a b r:Nat->Rat):aD:=[(3,tR t ah),(2,cZ (m+1) r ah),(1,cZ (m+1) b ah),(0,cZ (m+1) a ah)]
abbrev vD:List Nat:=[3,6,7,8,9,10,11]
abbrev Dz (m k i:Nat):List AV:=[.ptr 3 0 3 0 [],.int .i64 (m+1:Nat),.own 0 3 0 (m+1),.own 1 3 0 (m+1),.own 2 3 0 (m+1),.int .i64 k,.int .i64 i]
def KH:Spec:=fu (kC (kL ah) (kC (gE ah) kN)) (fun a=>.tuple [bD (fun k=>fM a.1.2 a.2.1 k 0) a.1.1 ah,bD (fun j=>fM a.1.2 a.2.1 (a.1.1-1-j) j) a.1.1 ah]) fun a=>[1<=a.1.1,a.1.1<=41,∀k i,k+i<=a.1.1-1->Sz (fM a.1.2 a.2.1 k i) ah]
def Pm:bB:=nG::(83,KH)::[]
theorem Ni:bu 83 f83:=bz func83
theorem aeC {m:Nat} {p:Nat->Rat} {t:Rat}:aH T rJ [] 60 sD (before ym [1,1,1,1,0,1]) ⟨aV 0 [bD p (m+1) ah,.rat t ah],[],0⟩=
  let c4:Nat:=0+(m+1);let c1:Int:=(↑(m+1):Int);let c3:ay:=ay.mk true true 3 c1.toNat fun x=>rat 0 1;let c2:Prop:=(0:Int)<=c1/\c1<=c1/\c1<=2^47/\c1*(↑(56:Nat):Int)<=2^47;some (aj [c2,c2] (aj [(0:Nat)*3<=2^24,c4*((56:Nat)+1)*2<=2^47] (leaf normal ([ptr 0 0 (eU (rat t ah)).size 0 [],int i64 c1,own 28672 3 0 c1.toNat,own 36864 3 0 c1.toNat,own 57344 3 0 c4,int i64 0],[(57344,ay.mk true true 3 c4 fun i=>rat (p (i-0)) ah),((36864:Nat),c3),((28672:Nat),c3),(0,ay.mk false true (eU (rat t ah)).size 1 fun x=>rat t ah)])))):=ag
theorem YP {m k:Nat} {t:Rat} {a b r:Nat->Rat}:aH T rJ [23] 60 sD (before xP [1,0]) ⟨aE sD (BN m k),sV m t a b r,4⟩=
  let c2:Nat:=m+1;let c1:List AV×aD:=([ptr 3 0 3 0 [],int i64 (↑c2:Int),own 0 3 0 c2,own 1 3 0 c2,own 2 3 0 c2,int i64 (↑k:Int)],[(2,ay.mk true true 3 c2 fun i=>rat (r i) ah),(1,ay.mk true true 3 c2 fun i=>rat (b i) ah),(0,ay.mk true true 3 c2 fun i=>rat (a i) ah),((3:Nat),gX fun x=>rat t ah)]);some (fork (decide ((↑k:Int)<(↑c2:Int))) (leaf normal c1) (leaf (exit 0) c1)):=ag
theorem Vm {m k:Nat} {t:Rat} {a b r:Nat->Rat}:aH T rJ [] 60 vD (before wk [1,1]) ⟨aE sD (BN m k),sV m t a b r,4⟩=
  let c8:Int:=(↑k:Int);let c7:Nat:=Int.toNat (0:Int);let c3:Int:=(2:Int)^63;let c2:Nat:=m+1;let c6:Nat:=c8.toNat+0;let c4:Int:=(↑c2:Int)-1;let c1:Int:=c4-c8;let c9:Prop:=(0:Int)<=c1/\c1.toNat<c2;let c5:Nat:=c1.toNat+0;some (aj [-c3<=c4/\c4<c3,-c3<=c1/\c1<c3,(0:Int)<=0/\c7<c2,c7+0<c2,-c3<=c4/\c4<c3,-c3<=c1/\c1<c3,c9,c5<c2,(0:Int)<=c8/\c8.toNat<c2,c6<c2,c9,c5<c2] (leaf normal ([ptr 3 0 3 0 [],int i64 (↑c2:Int),own 0 3 0 c2,own 1 3 0 c2,own 2 3 0 c2,int i64 c8,int i64 0],[(2,ay.mk true true 3 c2 fun i=>rat (r i) ah),(1,ay.mk true true 3 c2 fun j=>rat (bif j==c5 then r c5 else b j) (bif j==c5 then ah else ah)),(0,ay.mk true true 3 c2 fun j=>rat (bif j==c6 then r (c7+0)else a j) (bif j==c6 then ah else ah)),((3:Nat),gX fun x=>rat t ah)]))):=ag
theorem WB {m k i:Nat} {t:Rat} {a b r:Nat->Rat}:aH T rJ [50] 60 vD [part wk [1,1,0,0]] ⟨aE vD (Dz m k i),sV m t a b r,4⟩=
  let c15:Int:=(↑i:Int);let c10:Nat:=ah+ah+1;let c9:Nat:=2^40;let c7:AV:=ptr 3 0 3 0 [];let c4:Int:=(2:Int)^63;let c3:Nat:=m+1;let c13:AV:=own 1 3 0 c3;let c12:AV:=own 2 3 0 c3;let c11:AV:=own 0 3 0 c3;let c8:Prop:=(0:Int)<=c15/\c15.toNat<c3;let c6:Int:=(↑c3:Int)-(↑k:Int);let c5:Nat:=c15.toNat+0;let c2:Int:=c15+1;let c1:List (Nat×ay):=[(1,ay.mk true true 3 c3 fun i=>rat (b i) ah),(0,ay.mk true true 3 c3 fun i=>rat (a i) ah),((3:Nat),gX fun x=>rat t ah)];let c14:Prop:=-c4<=c2/\c2<c4;some (aj [c14,-c4<=c6/\c6<c4] (fork (decide (c2<c6)) (aj [c8,c5<c3,c14,(0:Int)<=c2/\c2.toNat<c3,c2.toNat+0<c3,(0:Nat)<1,ah<c9,c10<c9,c10+ah<c9,c8,c5<c3] (aj [c14] (leaf normal ([c7,int i64 (↑c3:Int),c11,c13,c12,int i64 (↑k:Int),int i64 c2],(2,ay.mk true true 3 c3 fun j=>rat (bif j==c5 then r c5+(r (c2.toNat+0)-r c5)*t else r j) (bif j==c5 then ah+(c10+ah)+1 else ah))::c1)))) (leaf (exit 2) ([c7,int i64 (↑c3:Int),c11,c13,c12,int i64 (↑k:Int),int i64 c15],(2,ay.mk true true 3 c3 fun i=>rat (r i) ah)::c1)))):=ag
theorem acF {m k i:Nat} {t:Rat} {a b r:Nat->Rat}:aH T rJ [] 60 sD (behind wk [1,1]++[part xP [1,1]]) ⟨aE vD (Dz m k i),sV m t a b r,4⟩=
  let c2:Int:=(↑k:Int)+1;let c1:Nat:=m+1;some (aj [-(2:Int)^63<=c2/\c2<2^63] (leaf normal ([ptr 3 0 3 0 [],int i64 (↑c1:Int),own 0 3 0 c1,own 1 3 0 c1,own 2 3 0 c1,int i64 c2],[(2,ay.mk true true 3 c1 fun i=>rat (r i) ah),(1,ay.mk true true 3 c1 fun i=>rat (b i) ah),(0,ay.mk true true 3 c1 fun i=>rat (a i) ah),((3:Nat),gX fun x=>rat t ah)]))):=ag
theorem Sh {m k:Nat} {t:Rat} {a b r:Nat->Rat}:dA T rJ [] 60 f83 [part ym [1,1,1,1,1]] ⟨aE sD (BN m k),sV m t a b r,4⟩=
  some (leaf ret [aq 3 (m+1) fun i=>rat (a (i+0)) ah,aq 3 (m+1) fun i=>rat (b (i+0)) ah]):=ag
theorem SR:bu 25 f25:=bz func25
theorem aaU {m:Nat} {p:Nat->Rat} {t:Rat}:cq T Pm [] 60 f25 (aG f25) ⟨aV 0 [bD p (m+1) ah,.rat t ah],[],0⟩=
  let c3:Prop:=0<1;let c2:Nat:=m+1;let c1:Int:=(↑c2:Int)-1;some (aj [c3,dU (fun i=>rat (p i) ah) c2 ah,ah<=ah,(1:Nat)<=c2,c2<=41,∀(k i:Nat),k+i<=c2-1->Sz (fM (fun i=>aW (rat (p i) ah)) t k i) ah] (aj [-(2:Int)^63<=c1/\c1<2^63,(0:Int)<=c1/\c1.toNat<c2,c3] (aj [c3] (leaf ret [rat (fM (fun i=>aW (rat (p i) ah)) t c1.toNat 0) ah])))):=ag
theorem Jm:bT P rJ:=jM (aN (PU fun a b t K hn=>cA (r:=aM (Ly a b t) []) hT o4 hm abc rfl bp rfl 60 abA (fun _=>by
 obtain⟨h1,h2,h3⟩:=hn
 have h3:b.2+a.2+1+t.2<2^40:=h3
 have e1:(2:Nat)^40<2^41:=by decide
 simp only[af.all,aA]
 exact⟨⟨aa,aa,aa,aa,aa,aa,aa,aa,aa,aa,aa⟩,aa,.refl _⟩) K []) ct)
theorem EL {t:Rat}:∀k (p:Nat->Rat) i,fM p t k i=cs k (fun j=>p (i+j)) t
 |0,_,_=>rfl
 |k+1,p,i=>by
  rw[cs]
  show fM p t k i+(fM p t k (i+1)-fM p t k i)*t=_
  rw[EL k p i,EL k p (i+1)]
  rw[show(fun j=>p (i+1+j))=fun j=>p (i+(j+1))from funext fun j=>by rw[show i+1+j=i+(j+1) by omega]]
  generalize cs k (fun j=>p (i+j)) t=a
  generalize cs k (fun j=>p (i+(j+1))) t=b
  grind
theorem adm {m k:Nat} {p:Nat->Rat} {t:Rat} {j:Nat}:ke m p t k (m-k) j=kD m p t (k+1) j:=by
 unfold ke kD
 by_cases h:j<m-k
 ·rw[if_pos h,show min (k+1) (m-j)=k+1 by omega]
 ·rw[if_neg h];congr 1;omega
def yE (m:Nat) (p:Nat->Rat) (t:Rat):Prop:=∀k i,k+i<=m->Sz (fM p t k i) ah
theorem ado {m:Nat} {p:Nat->Rat} {t:Rat} (hm1:m<=40) (hz:yE m p t) (K:Nat):aQ P 83 K [bD p (m+1) ah,.rat t ah] [] (aM (.tuple [bD (fun k=>fM p t k 0) (m+1) ah,bD (fun j=>fM p t (m-j) j) (m+1) ah]) []):=by
 refine iI (r:=aM (.tuple [bD (fun k=>fM p t k 0) (m+1) ah,bD (fun j=>fM p t (m-j) j) (m+1) ah]) []) hT Ni rfl bp rfl (fun _ cx h0=>?_) K []
 have hk:=nV h0
 have hW:=dI
 refine au.qV hT Jm hm (x:=ym) [1,1,1,1,0,1] (i:=0) (y:=xP) (z:=part ym [1,1,1,1,1]) ag ag ag Ni.dst [1,0] (j:=1) (x1:=wk) (zb:=part xP [1,1]) ag ag ag [1,1] (i2:=2) (y2:=part wk [1,1,0,0]) ag ag rfl hk
  (f1:=[]) (f2:=[23]) (f3:=[]) (f4:=[50]) (f5:=[]) 60 sD vD 4 4 (fun k:Nat=>BN m k) (fun k=>sV m t (pW p t k) (oB m p t k) (kD m p t k)) (fun k=>k<=m+1) (fun k=>k=m+1) (fun k=>m+1-k) (fun k=>k<m+1) (fun _=>False) (fun _=>False)
  (fun k (i:Nat)=>Dz m k i) (fun k i=>sV m t (pW p t (k+1)) (oB m p t (k+1)) (ke m p t k i)) (fun k i=>i<=m-k) (fun k i=>i=m-k) (fun k i=>m-k-i)
  ⟨_,aeC,?_⟩ (fun k hk=>⟨_,YP,?_⟩) (fun k hk hG=>⟨_,Vm,?_⟩) (fun k hk hG i hi=>⟨_,WB,?_⟩) (fun k hk hG i hi=>⟨_,acF,?_⟩) (fun k hk=>?_) (fun _ _ h=>h.elim) (fun _ _ h=>h.elim)
 ·have e1:((m+1:Nat):Int).toNat=m+1:=aa
  simp only[af.all,aA,e1]
  refine⟨⟨aa,aa⟩,⟨aa,aa⟩,0,aa,[(0,28672),(1,36864),(2,57344),(3,0)],rfl,by rw[show 0+(m+1)=m+1 by omega];rfl,rfl,dY (bH rfl rfl aa (fun j hj=>bX rfl ?_) (bH rfl rfl rfl (fun j hj=>.inr ⟨rfl,dD ?_ aa⟩) (bH rfl rfl rfl (fun j hj=>.inr ⟨rfl,dD ?_ aa⟩) trivial)))⟩
  ·show AV.rat (p j) ah=AV.rat (kD m p t 0 j) ah
   unfold kD;rw[Nat.zero_min];rfl
  ·show 0=oB m p t 0 j
   unfold oB;rw[if_neg aa]
  ·show 0=pW p t 0 j
   unfold pW;rw[if_neg aa]
 ·simp only[af.all,aA,bK,bO]
  exact⟨fun h=>⟨aa,[(0,0),(1,1),(2,2),(3,3)],rfl,rfl,rfl,dY (bH rfl rfl rfl (fun j hj=>bX rfl rfl) (bH rfl rfl rfl (fun j hj=>bX rfl rfl) (bH rfl rfl rfl (fun j hj=>bX rfl rfl) trivial)))⟩,fun h=>⟨rfl,k,aa,[(0,0),(1,1),(2,2),(3,3)],rfl,rfl,rfl,dY (bH rfl rfl rfl (fun j hj=>bX rfl rfl) (bH rfl rfl rfl (fun j hj=>bX rfl rfl) (bH rfl rfl rfl (fun j hj=>bX rfl rfl) trivial)))⟩⟩
 ·have e1:(((m+1:Nat):Int)-1-(k:Int)).toNat=m-k:=aa
  have e0:(0:Int).toNat=0:=rfl
  simp only[af.all,aA,e1,e0,bE,Nat.add_zero]
  refine⟨⟨aa,aa,aa,aa,aa,aa,aa,aa,aa,aa,aa,aa⟩,0,aa,[(0,0),(1,1),(2,2),(3,3)],rfl,rfl,rfl,dY (bH rfl rfl rfl (fun j hj=>bX rfl ?_) (bH rfl rfl rfl (fun j hj=>?_) (bH rfl rfl rfl (fun j hj=>?_) trivial)))⟩
  ·show AV.rat (kD m p t k j) ah=AV.rat (ke m p t k 0 j) ah
   unfold ke;rw[if_neg (Nat.not_lt_zero j)]
  ·refine mN (x:=oB m p t k) (y:=oB m p t (k+1)) (dD ?_ aS) fun hne=>dD ?_ aS
   ·show kD m p t k (m-k)=oB m p t (k+1) (m-k)
    unfold kD oB
    rw[if_pos aa,show min k (m-(m-k))=m-(m-k) by omega]
   ·unfold oB
    by_cases h:m<j+k
    ·rw[if_pos h,if_pos aa]
    ·rw[if_neg h,if_neg aa]
  ·refine mN (x:=pW p t k) (y:=pW p t (k+1)) (dD ?_ aS) fun hne=>dD (zh hne).symm aS
   show kD m p t k 0=pW p t (k+1) k
   unfold kD pW
   rw[if_pos (Nat.lt_succ_self k),show min k (m-0)=k by omega]
 ·have e1:((i:Int)+1).toNat=i+1:=aa
  simp only[af.all,aA,bK,bO,e1,bE,Nat.add_zero]
  refine⟨⟨aa,aa⟩,fun h=>⟨⟨aa,aa,aa,aa,aa,aa,aa,aa,aa,aa,aa⟩,aa,i+1,aa,by dsimp only;omega,[(0,0),(1,1),(2,2),(3,3)],rfl,by rw[show(i:Int)+1=((i+1:Nat):Int) by omega];rfl,rfl,dY (bH rfl rfl rfl (fun j hj=>?_) (bH rfl rfl rfl (fun j hj=>bX rfl rfl) (bH rfl rfl rfl (fun j hj=>bX rfl rfl) trivial)))⟩,fun h=>⟨rfl,i,aa,[(0,0),(1,1),(2,2),(3,3)],rfl,rfl,rfl,dY (bH rfl rfl rfl (fun j hj=>bX rfl rfl) (bH rfl rfl rfl (fun j hj=>bX rfl rfl) (bH rfl rfl rfl (fun j hj=>bX rfl rfl) trivial)))⟩⟩
  have v1:ke m p t k i i=fM p t k i:=by unfold ke kD;rw[if_neg (Nat.lt_irrefl i),show min k (m-i)=k by omega]
  have v2:ke m p t k i (i+1)=fM p t k (i+1):=by unfold ke kD;rw[if_neg aa,show min k (m-(i+1))=k by omega]
  have v3:ke m p t k (i+1) i=fM p t (k+1) i:=by unfold ke;rw[if_pos (Nat.lt_succ_self i)]
  refine mN (x:=ke m p t k i) (y:=ke m p t k (i+1)) (fj ?_ (by rw[v3];exact hz _ _ aa)) fun hne=>dD ?_ aS
  ·rw[v1,v2,v3];rfl
  ·unfold ke;exact(zh hne).symm
 ·subst hi
  simp only[af.all,aA]
  exact⟨aa,k+1,aa,by dsimp only;omega,[(0,0),(1,1),(2,2),(3,3)],rfl,by rw[show(k:Int)+1=((k+1:Nat):Int) by omega];rfl,rfl,dY (bH rfl rfl rfl (fun j hj=>bX rfl (by show AV.rat (ke m p t k (m-k) j) ah=AV.rat (kD m p t (k+1) j) ah;rw[adm])) (bH rfl rfl rfl (fun j hj=>bX rfl rfl) (bH rfl rfl rfl (fun j hj=>bX rfl rfl) trivial)))⟩
 ·subst hk
  refine au.m7 ((aF.fin hT Jm hm 60 Sh ag ?_).mono fun _ _ h=>.inl h)
  exact⟨iz fun j hj=>dD (if_pos hj) aS,iz fun j hj=>dD (if_pos aa) aS,trivial⟩
theorem acR:bA P KH 83:=fF fun⟨⟨n,p⟩,t,_⟩ K hn=>by
 obtain⟨h1,h2,h3⟩:=hn
 have h1:1<=n:=h1
 have h2:n<=41:=h2
 obtain⟨m,rfl⟩:∃x,n=x+1:=⟨n-1,aa⟩
 exact ado aa h3 K
def ME:Spec:=fu (kC (kL ah) (kC (gE ah) kN)) (fun a=>.rat (er a.1 a.2.1) ah) fun a=>[1<=a.1.1,a.1.1<=41,yE (a.1.1-1) a.1.2 a.2.1]
theorem SV:bA P ME 25:=fF fun⟨⟨n,p⟩,t,_⟩ K hn=>by
 obtain⟨h1,h2,h3⟩:=hn
 have h1:1<=n:=h1
 have h2:n<=41:=h2
 obtain⟨m,rfl⟩:∃x,n=x+1:=⟨n-1,aa⟩
 have e:er (m+1,p) t=fM p t m 0:=by
  rw[EL]
  show cs (m+1-1) p t=_
  rw[Nat.add_sub_cancel,show(fun j=>p (0+j))=p from funext fun j=>by rw[Nat.zero_add]]
 show aQ P 25 K [bD p (m+1) ah,.rat t ah] [] (aM (.rat (er (m+1,p) t) ah) [])
 rw[e]
 refine cA hT (jM (aN acR ct)) hm SR rfl bp rfl 60 aaU (fun _=>?_) K []
 have e1:(((m+1:Nat):Int)-1).toNat=m:=aa
 simp only[af.all,aA,e1]
 exact⟨⟨aa,mE (a:=(m+1,p)),aa,aa,aa,h3⟩,⟨aa,aa,aa⟩,aa,.refl _⟩
def j9 (x y:Rat):List (Rat×Rat)->Prop
 |[]=>x<=y
 |s::l=>x<=s.1/\s.1<=s.2/\j9 s.2 y l
theorem j9.app {m y:Rat} {l2:List (Rat×Rat)} (h2:j9 m y l2):∀{l1:List (Rat×Rat)} {x:Rat},j9 x m l1->j9 x y (l1++l2)
 |[],x,h=>by
  have h:x<=m:=h
  show j9 x y l2
  cases l2 with
  |nil=>have h2:m<=y:=h2;show x<=y;grind
  |cons s l=>exact⟨by have:=h2.1;grind,h2.2⟩
 |s::l1,x,h=>⟨h.1,h.2.1,j9.app h2 h.2.2⟩
theorem j9.next {y:Rat}:∀{l:List (Rat×Rat)} {x:Rat},j9 x y l->∀i,i+1<l.length->(aU l i).2<=(aU l (i+1)).1
 |[],_,_,i,hi=>absurd hi (Nat.not_lt_zero _)
 |[s],_,_,i,hi=>by have hi:i+1<1:=hi;omega
 |s::u::l,x,h,i,hi=>by
  cases i with
  |zero=>exact h.2.2.1
  |succ i=>exact j9.next (l:=u::l) h.2.2 i (by have hi:i+1+1<(u::l).length+1:=hi;omega)
theorem AJ {c:PP}:∀e {x y:Rat},x<y->j9 x y (dh (bU c) (bN c) e x y)
 |0,_,_,h=>Rat.le_of_lt h
 |e+1,x,y,h=>by
  obtain⟨m1,m2,_⟩:=tY h
  unfold dh
  split
  ·exact Rat.le_of_lt h
  ·split
   ·rw[show iD x y=x from if_neg (by grind),show iF x y=y from if_pos h]
    exact⟨Rat.le_refl,Rat.le_of_lt h,Rat.le_refl⟩
   ·refine j9.app (m:=cK x y) ?_ (AJ e m1)
    split
    ·exact⟨Rat.le_refl,Rat.le_refl,AJ e m2⟩
    ·exact AJ e m2
theorem QG {c:PP}:j9 0 1 (gT aP (bU c) (bN c)):=by
 unfold gT
 refine j9.app (m:=1) ?_ (j9.app (m:=0) (AJ aP (by decide)) ?_)
 ·split
  ·exact⟨Rat.le_refl,Rat.le_refl,Rat.le_refl⟩
  ·exact Rat.le_refl
 ·split
  ·exact⟨Rat.le_refl,Rat.le_refl,Rat.le_refl⟩
  ·exact Rat.le_refl
theorem xN {c:PP}:∀e {x y:Rat},x<y->∀s,s∈dh (bU c) (bN c) e x y->(s.1=s.2->x<s.1/\s.1<y)/\(s.1≠s.2->s.1<s.2/\iM (bU c) (bN c) s.1 s.2=1)
 |0,_,_,_=>fun s hs=>by cases hs
 |e+1,x,y,h=>fun s hs=>by
  obtain⟨m1,m2,_⟩:=tY h
  unfold dh at hs
  split at hs
  ·cases hs
  ·split at hs
   ·rename_i h1
    rw[List.mem_singleton,show iD x y=x from if_neg (by grind),show iF x y=y from if_pos h]at hs
    subst hs
    exact⟨fun he=>by dsimp only at he;grind,fun _=>⟨h,h1⟩⟩
   ·rcases List.mem_append.1 hs with hs|hs
    ·obtain⟨a,b⟩:=xN e m1 s hs
     exact⟨fun he=>by have:=a he;exact⟨this.1,by grind⟩,b⟩
    ·split at hs
     ·rcases List.mem_cons.1 hs with hs|hs
      ·subst hs;exact⟨fun _=>⟨m1,m2⟩,fun hn=>absurd rfl hn⟩
      ·obtain⟨a,b⟩:=xN e m2 s hs
       exact⟨fun he=>by have:=a he;exact⟨by grind,this.2⟩,b⟩
     ·obtain⟨a,b⟩:=xN e m2 s hs
      exact⟨fun he=>by have:=a he;exact⟨by grind,this.2⟩,b⟩
theorem T0 {c:PP} {s:Rat×Rat} (hs:s∈gT aP (bU c) (bN c)) (hn:s.1≠s.2):s.1<s.2/\iM (bU c) (bN c) s.1 s.2=1:=by
 unfold gT at hs
 rcases List.mem_append.1 hs with hs|hs
 ·rcases List.mem_append.1 hs with hs|hs
  ·split at hs
   ·rw[List.mem_singleton]at hs;subst hs;exact absurd rfl hn
   ·cases hs
  ·exact(xN aP (by decide) s hs).2 hn
 ·split at hs
  ·rw[List.mem_singleton]at hs;subst hs;exact absurd rfl hn
  ·cases hs
def iV (F:Rat×Rat->Nat) (l:List (Rat×Rat)):Nat:=(l.map F).sum
theorem yI {F:Rat×Rat->Nat} {l l':List (Rat×Rat)}:iV F (l++l')=iV F l+iV F l':=by
 unfold iV;rw[List.map_append,List.sum_append]
theorem pO {F:Rat×Rat->Nat} {s:Rat×Rat} {l:List (Rat×Rat)}:iV F (s::l)=F s+iV F l:=by
 unfold iV;rw[List.map_cons,List.sum_cons]
theorem Gs {F G:Rat×Rat->Nat}:∀{l:List (Rat×Rat)},(∀s,s∈l->F s=G s)->iV F l=iV G l
 |[],_=>rfl
 |s::l,h=>by rw[pO,pO,h s (List.mem_cons_self ..),Gs fun u hu=>h u (List.mem_cons_of_mem _ hu)]
def sN (f:Nat->Nat):Nat->Nat
 |0=>0
 |n+1=>sN f n+f n
theorem Oo {f:Nat->Nat}:∀n,sN f (n+1)=f 0+sN (fun i=>f (i+1)) n
 |0=>by show 0+f 0=f 0+0;omega
 |n+1=>by rw[sN,Oo n,sN];omega
theorem BR {F:Rat×Rat->Nat}:∀{l:List (Rat×Rat)},sN (fun i=>F (aU l i)) l.length=iV F l
 |[]=>rfl
 |s::l=>by rw[List.length_cons,Oo,pO,<-BR (l:=l)];rfl
def hN (G:PP) (s:Rat×Rat):Nat:=if lC G s.1 s.2=true then 1 else 0
theorem Ev {G:PP} (hG:dL G) (z:Rat):(hN G (z,z):Int)=if aC (aZ G) z=0 then 1 else 0:=by
 unfold hN lC
 rw[if_pos rfl]
 have:dm G z=0↔aC (aZ G) z=0:=by
  rw[<-wz hG,show dm (bN G 0) z=aC (aZ G) z from oL]
 by_cases h:dm G z=0
 ·rw[if_pos (decide_eq_true h),if_pos (this.1 h)];rfl
 ·rw[if_neg (by rw[decide_eq_false h];decide),if_neg fun h2=>h (this.2 h2)];rfl
theorem Er {c G:PP} (hc:dL c) (hG:dL G):∀e {x y:Rat},x<y->(iV (hN G) (dh (bU c) (bN c) e x y):Int)<=bt G x y
 |0,x,y,_=>hG.nU.vu x y
 |e+1,x,y,h=>by
  obtain⟨m1,m2,_⟩:=tY h
  have n0:=hG.nU.vu x y
  have i1:=Er hc hG e m1
  have i2:=Er hc hG e m2
  unfold dh
  split
  ·exact n0
  ·split
   ·rw[show iD x y=x from if_neg (by grind),show iF x y=y from if_pos h,pO]
    show((hN G (x,y)+0:Nat):Int)<=_
    unfold hN lC
    rw[if_neg (show x≠y by grind),uO]
    by_cases h1:bt G x y=0
    ·rw[if_neg (by rw[decide_eq_false fun h2=>h2 h1];decide)];omega
    ·rw[if_pos (decide_eq_true h1)];omega
   ·rw[yI,BV m1 m2,<-Ev hG (cK x y)]
    split
    ·rw[pO];omega
    ·omega
theorem L7 (a:Nat->Rat):∀k,vr a (k+1)<=k
 |0=>by unfold vr;rw[jz];simp[cC]
 |k+1=>by
  have:=L7 a k
  unfold vr at*
  rw[jz]
  dsimp only
  split<;>omega
theorem Gg (a:Nat->Rat) (h:a 0=0):∀k,vr a (k+2)<=k
 |0=>by
  unfold vr
  rw[jz,jz]
  simp[cC,l8 h]
 |k+1=>by
  have:=Gg a h k
  unfold vr at*
  rw[jz]
  dsimp only
  split<;>omega
theorem ab7 {G:PP} (hG:dL G) (x:Rat):(iN G x:Int)+(if aC (aZ G) x=0 then 1 else 0)<=(aZ G).1-1:=by
 have hs:=(nE (s:=dO G) l5.1 l5.2).1
 have h2:(dO G).2.1<=(aZ G).1-1:=fP
 have h3:cB G=gD (dO G):=rfl
 have hf:=tX hG.tr hG.p0
 have h0:iN G x<=cB G:=L7 _ _
 by_cases hx:aC (aZ G) x=0
 ·rw[if_pos hx]
  rcases Nat.eq_zero_or_pos (cB G)with hk|hk
  ·exfalso
   have hl:=Gn hG.tr hG.p0
   rw[hk]at hl
   have hl:(aZ G).1=1:=hl
   have e:aC (aZ G) x=(aZ G).2 0:=by
    show ev (aZ G).1 (aZ G).2 x=_
    rw[hl]
    show 0+(aZ G).2 0*x^0=_
    rw[Rat.pow_zero];grind
   rw[e]at hx
   rcases l9 (a:=G)with h|h
   ·omega
   ·rw[hl]at h;exact h hx
  ·have:=Gg (fun j=>aC (cO G j) x) hx (cB G-1)
   rw[show cB G-1+2=cB G+1 by omega]at this
   have:iN G x<=cB G-1:=this
   omega
 ·rw[if_neg hx];omega
theorem ML {c G:PP} (hc:dL c) (hG:dL G):iV (hN G) (gT aP (bU c) (bN c))<=(aZ G).1-1:=by
 have h01:(0:Rat)<1:=by decide
 have h1:=Er hc hG aP h01
 rw[sZ h01]at h1
 have p0:=Ev hG 0
 have p1:=Ev hG 1
 have v0:=ab7 hG 0
 have hf:=tX hG.tr hG.p0
 unfold gT
 rw[yI,yI]
 have a:iV (hN G) (if dm (bN c 0) 0=0 then [((0:Rat),(0:Rat))]else [])<=hN G (0,0):=by
  split
  ·rw[pO];exact Nat.le_refl _
  ·exact Nat.zero_le _
 have b:iV (hN G) (if dm (bN c 0) 1=0 then [((1:Rat),(1:Rat))]else [])<=hN G (1,1):=by
  split
  ·rw[pO];exact Nat.le_refl _
  ·exact Nat.zero_le _
 generalize iV (hN G) (dh (bU c) (bN c) aP 0 1)=X at*
 omega
theorem J0 {c:PP} (hc:dL c):(aZ c).1-1+(bW c (bL c)).1=c.1:=by
 have hg:=m8 (b:=bL c) hc.p0
 have tg:=jS hc.tr (dR (a:=c))
 have hr:(fl c (bW c (bL c))).1=0:=by
  have h4:=nH (a:=c) hg tg
  have h5:=(vj hc.tr (dR (a:=c))).1.rem hg (Dv.refl _)
  rcases Nat.eq_zero_or_pos (fl c (bW c (bL c))).1 with h6|h6
  ·exact h6
  ·have:=h5.len h6 qZ tg;omega
 have e:∀t,aC c t=aC (gk c (bW c (bL c))) t*aC (bW c (bL c)) t:=fun t=>by
  rw[rm (a:=c) hg t,iO hr,Rat.add_zero]
 obtain⟨a,b,d⟩:=oI e hc.p0 hc.tr vP tg
 have hf:(aZ c).1=(gk c (bW c (bL c))).1:=by unfold aZ;rw[if_neg (by have:=hc.p0;omega)];rfl
 omega
theorem Yn {c:PP} (hc:dL c):sN (fun i=>hH c (gT aP (bU c) (bN c)) (l7 c c.1 0) i) (gT aP (bU c) (bN c)).length+1<=c.1:=by
 obtain⟨l,hl⟩:∃l,l=gT aP (bU c) (bN c):=⟨_,rfl⟩
 rw[<-hl]
 have key:∀N,sN (fun i=>hH c l N i) l.length+(eE c N).1<=c.1:=by
  intro N
  induction N with
  |zero=>
   have e:sN (fun i=>hH c l 0 i) l.length=iV (hN c) l:=by
    rw[<-BR]
    have:∀n,n<=l.length->sN (fun i=>hH c l 0 i) n=sN (fun i=>hN c (aU l i)) n:=by
     intro n
     induction n with
     |zero=>exact fun _=>rfl
     |succ n ih=>
      intro hn
      rw[sN,sN,ih aa]
      have hm:=B7 (l:=l) (i:=n) aa
      rw[hl]at hm
      have:=(Mc hc hm).2
      rw[<-hl]at this
      show _+1=_+hN c (aU l n)
      unfold hN
      rw[if_pos this]
    exact this _ aS
   have h1:=ML hc hc
   rw[<-hl]at h1
   have h2:=J0 hc
   rw[e]
   show _+(bW c (bL c)).1<=_
   omega
  |succ N ih=>
   have hG:=Bx hc N
   have e:∀n,sN (fun i=>hH c l (N+1) i) n=sN (fun i=>hH c l N i) n+sN (fun i=>hN (eE c N) (aU l i)) n:=by
    intro n
    induction n with
    |zero=>rfl
    |succ n ihn=>
     rw[sN,sN,sN,ihn]
     have:hH c l (N+1) n=hH c l N n+hN (eE c N) (aU l n):=by
      show(if o9 (bU (eE c N)) (bN (eE c N)) (aU l n).1 (aU l n).2=true then _ else _)=_
      rw[acw hG]
      unfold hN
      split<;>rfl
     rw[this];omega
   have h1:=ML hc hG
   rw[<-hl]at h1
   have h2:=J0 hG
   rw[e,BR]
   show _+(bW (eE c N) (bL (eE c N))).1<=_
   omega
 have h1:=key (l7 c c.1 0)
 have h2:=(Bx hc (l7 c c.1 0)).p0
 omega
def eN (s:Rat×Rat):Nat:=if s.1=s.2/\(s.1=0\/s.1=1)then 1 else 0
theorem Up {c:PP} (hc:dL c):((gT aP (bU c) (bN c)).length:Int)=bt c 0 1+(iV eN (gT aP (bU c) (bN c)):Nat):=by
 have h01:(0:Rat)<1:=by decide
 have h1:=jy.len hc aP h01 (x5 hc aP 0 0 1 (Nat.zero_add _) (by have:=oR;omega) ju.zero)
 have h2:iV eN (dh (bU c) (bN c) aP 0 1)=0:=by
  rw[Gs (G:=fun _=>0) fun s hs=>?_]
  ·generalize dh (bU c) (bN c) aP 0 1=l
   induction l with
   |nil=>rfl
   |cons s l ih=>rw[pO,ih]
  ·unfold eN
   refine if_neg fun⟨a,b⟩=>?_
   obtain⟨u,v⟩:=(xN aP h01 s hs).1 a
   rcases b with b|b<;>grind
 unfold gT
 rw[yI,yI,h2,List.length_append,List.length_append]
 have a:iV eN (if dm (bN c 0) 0=0 then [((0:Rat),(0:Rat))]else [])=(if dm (bN c 0) 0=0 then [((0:Rat),(0:Rat))]else []).length:=by
  split
  ·rfl
  ·rfl
 have b:iV eN (if dm (bN c 0) 1=0 then [((1:Rat),(1:Rat))]else [])=(if dm (bN c 0) 1=0 then [((1:Rat),(1:Rat))]else []).length:=by
  split
  ·rfl
  ·rfl
 rw[a,b]
 omega
end Go.Am.B
