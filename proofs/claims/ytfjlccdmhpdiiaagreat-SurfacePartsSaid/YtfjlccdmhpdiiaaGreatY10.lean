/- Spline.Over, Spline.Insert, curve.back. -/
import Derived.Test.YtfjlccdmhpdiiaaGreatY9
import Derived.Test.YtfjlccdmhpdiiaaGreatY8
import Derived.Test.YtfjlccdmhpdiiaaGreatY7
import Derived.Test.YtfjlccdmhpdiiaaGreatZ2
set_option linter.unusedVariables false
noncomputable section
namespace Go.Am.B
open Go Go.Am.N AV ag aq IntKind Proofs.Tryz
theorem acj:aW 137 f137:=aT func137
def jF (c:Cu) (n:Nat) (k:Nat->Rat) (j:Nat):Pl:=rF c (jO c.n c.k (k (iO k n j))) c.p.toNat (fun q=>k (q+(j+1)))
def mG (c:Cu) (n:Nat) (k:Nat->Rat):Cu:=⟨c.p,n,k,n-c.p.toNat-1,jF c n k⟩
def AR:aX:=nG::(152,zG)::(194,PR)::(195,Gb)::(196,Kx)::gW
abbrev xg:List Nat:=[1,2,4,5,17,18]
abbrev E6 (n m:Nat) (k:Nat->Rat) (j:Nat):List AV:=[ls k n,.ptr 0 0 3 0 [],.ptr 1 0 3 0 [],.ptr 2 0 3 0 [],.int .i64 m,.int .i64 j]
abbrev EU (c:Cu) (n:Nat) (k:Nat->Rat) (h:Nat->Pl) (j:Nat):aC:=[(3,⟨true,true,12,j,fun i=>bV (h i) sB⟩),(2,⟨false,true,3,1,fun _=>.agg [.int .i64 c.p,ls k n,.own 3 12 0 j]⟩),(1,⟨false,true,3,1,fun _=>.agg [.int .i64 0,.nil,.nil]⟩),(0,qT c sK)]
abbrev wv:Code:=aF f137
theorem BS {f:Nat->Pl} {m s s':Nat} (h:s<=s'):l9 (fun i=>bV (f i) s) m s':=fun _ _=>pT rfl h
def Pn:Spec:=cA (kC (uO sK sK) (kC (kL sK) kN)) (fun a=>dD (mG a.1 a.2.1.1 a.2.1.2) sK sB) fun a=>[Kn a.1.n a.1.p.toNat a.1.k,1<=a.1.p,a.1.p<=6,a.1.n<2^40,a.1.m<2^40,a.2.1.1<2^29,a.1.p+1<=a.2.1.1]
theorem Uz {c:Cu} {n:Nat} {k:Nat->Rat}:aH T AR [] 60 xg (before wv [1,1,0,1]) ⟨aQ 0 [dD c sK sK,ls k n],[],0⟩=
  let c3:Nat:=(bp (dD c sK sK)).size;let c2:Prop:=0<1;let c1:AV:=agg [int i64 0,nil,nil];some (aj [c2,c2] (aj [c2,bn (fun i=>rat (k i) sK) n sK,n<2^40,-(2:Int)^40<c.p,c.p<2^40] (leaf normal ([ak 3 n fun i=>rat (k i) 4096,ptr 0 0 c3 0 [],ptr 4096 0 3 0 [],ptr 24576 0 3 0 [],int i64 ((↑n:Int)-c.p-1),int i64 0],[((24576:Nat),bP fun j=>if(j==0)=true then bp (agg ((c1.kids.set 0 (bp (int i64 c.p))).set 1 (bp (ls k n))))else c1),((4096:Nat),bP fun x=>c1),(0,au.mk false true c3 1 fun x=>agg [int i64 c.p,ak 3 c.n fun i=>rat (c.k i) 4096,ak 12 c.m fun i=>bV (c.f i) 4096])])))):=ah
theorem aaW {c:Cu} {n m j:Nat} {k:Nat->Rat} {h:Nat->Pl}:aH T AR [19] 60 xg [part wv [1,1,0,1,0,0]] ⟨aA xg (E6 n m k j),EU c n k h j,4⟩=
  let c20:Int:=(↑m:Int);let c18:Prop:=bn (fun i=>rat (c.k i) sK) c.n sK;let c17:AV:=ptr 2 0 3 0 [];let c16:AV:=ptr 1 0 3 0 [];let c15:AV:=ptr 0 0 3 0 [];let c14:Nat:=2^40;let c13:AV:=rat 0 1;let c12:Int:=(↑j:Int);let c10:AV:=own 3 12 0 j;let c9:AV:=ak 3 n fun i=>rat (k i) 4096;let c8:Prop:=0<1;let c6:Int:=(2:Int)^63;let c5:Cu:=Cu.mk c.p c.n (fun i=>aE (rat (c.k i) sK)) c.m fun i=>r7 (bV (c.f i) sK);let c2:List (Nat×au):=[((1:Nat),bP fun x=>agg [int i64 0,nil,nil]),((0:Nat),bP fun x=>agg [int i64 c.p,ak 3 c.n fun i=>rat (c.k i) 4096,ak 12 c.m fun i=>bV (c.f i) 4096])];let c19:AV:=agg [int i64 c.p,ls k n,c10];let c7:Int:=(↑(iO (fun i=>aE (rat (k i) sK)) n c12.toNat):Int);let c4:Int:=c12+c.p+1;let c3:Int:=c12+1;let c11:Nat:=c4.toNat-c3.toNat;let c1:Int:=(↑(jO c.n (fun i=>aE (rat (c.k i) sK)) (k c7.toNat)):Int);some (fork (decide (c12<c20)) (aj [bn (fun i=>rat (k i) sK) n sK,(0:Int)<=c12,c12<=(↑n:Int),n<c14] (aj [c8,c8,(0:Int)<=c7/\c7.toNat<n,c18,sK<=sK,Kn c.n c.p.toNat fun i=>aE (rat (c.k i) sK),(0:Int)<=c.p,c.n<c14] (aj [c8,c8,-c6<=c3/\c3<c6,c8,-c6<=c12+c.p/\c12+c.p<c6,-c6<=c4/\c4<c6,(0:Int)<=c3/\c3<=c4/\c4<=c4/\c4<=(↑n:Int),c18,l9 (fun i=>bV (c.f i) sK) c.m sK,bn (fun i=>rat (k (i+c3.toNat)) sK) c11 sK,(1:Int)<=c.p,c.p<=6,c.n<c14,c.m<c14,-(2:Int)^40<c1,c1<2^40,(1:Nat)*12<=2^24,(j+1)*((224:Nat)+1)*2<=2^47,c8] (aj [-c6<=c3/\c3<c6] (leaf normal ([c9,c15,c16,c17,int i64 c20,int i64 c3],(147460,au.mk true true 12 (j+1) fun i=>if i<j then bV (h i) sB else nth [agg [rat (jo c5 c1 c11 (fun i=>aE (rat (k (i+c3.toNat)) sK)) 0) sB,rat (jo c5 c1 c11 (fun i=>aE (rat (k (i+c3.toNat)) sK)) 1) sB,rat (jo c5 c1 c11 (fun i=>aE (rat (k (i+c3.toNat)) sK)) 2) sB,rat (jo c5 c1 c11 (fun i=>aE (rat (k (i+c3.toNat)) sK)) 3) sB]] (agg [c13,c13,c13,c13]) (i-j+0))::((2:Nat),bP fun j_1=>if(j_1==0)=true then agg (c19.kids.set 2 (bp (own (nat_lit 147459+1) 12 0 (j+1))))else c19)::c2)))))) (leaf (exit 0) ([c9,c15,c16,c17,int i64 c20,int i64 c12],(3,au.mk true true 12 j fun i=>bV (h i) 536870912)::((2:Nat),bP fun x=>agg [int i64 c.p,c9,c10])::c2))):=ah
theorem RS {c:Cu} {n m j:Nat} {k:Nat->Rat} {h:Nat->Pl}:cy T AR [] 60 f137 [part wv [1,1,1]] ⟨aA xg (E6 n m k j),EU c n k h j,4⟩=
  let c1:Prop:=0<1;some (aj [c1,c1] (aj [c1] (leaf ret [agg [int i64 c.p,ak 3 n fun i=>rat (k i) 4096,ak 12 j fun i=>bV (h (i+0)) 536870912]]))):=ah
theorem Pe {k:Nat->Rat} {n:Nat}:∀{f i:Nat},i<n->sU k n f i<n
 |0,_,h=>h
 |f+1,i,h=>by
  unfold sU
  split
  ·exact Pe aa
  ·exact h
theorem aiw {k:Nat->Rat} {n i:Nat} (h:i<n):iO k n i<n:=Pe h
theorem ai6 {n p:Nat} {k:Nat->Rat} (h:Kn n p k) {t:Rat}:jO n k t<n:=by
 have hl:=h.len
 unfold jO
 split
 ·omega
 ·have:=h.qZ ‹_›
  omega
theorem ahz:bq P AR:=cz (aI z6 (aI Wx (aI ND (aI Tg iN))))
theorem QT {c:Cu} {n:Nat} {k:Nat->Rat} (hk:Kn c.n c.p.toNat c.k) (hp1:1<=c.p) (hp6:c.p<=6) (hn:c.n<2^40) (hm2:c.m<2^40) (hn2:n<2^29) (hpn:c.p+1<=n) (K:Nat):aS P 137 K [dD c sK sK,ls k n] [] (aJ (dD (mG c n k) sK sB) []):=by
 obtain⟨q,hq⟩:∃q,q=c.p.toNat:=⟨_,rfl⟩
 have hqp:c.p=(q:Int):=aa
 refine iB (r:=aJ (dD (mG c n k) sK sB) []) hT ahz hm acj rfl aV rfl [1,1,0,1] (i:=0) (y:=part wv [1,1,0,1,0,0]) (z:=part wv [1,1,1]) ah ah ah (f1:=[]) (f2:=[19]) (f3:=[]) 60 xg 4
  (fun j:Nat=>E6 n (n-c.p.toNat-1) k j) (fun j=>EU c n k (jF c n k) j) (fun j=>j<=n-c.p.toNat-1) (fun j=>j=n-c.p.toNat-1) (fun j=>n-c.p.toNat-1-j) (fun _=>⟨⟨_,Uz,?_⟩,fun j hj=>⟨_,aaW,?_⟩,fun j hj=>⟨_,RS,?_⟩⟩) K []
 ·have e1:(n:Int)-c.p-1=((n-c.p.toNat-1:Nat):Int):=aa
  simp only[ag.all,az,e1]
  exact⟨⟨aa,aa⟩,⟨aa,bI bz,aa,aa,aa⟩,0,Nat.zero_le _,[(0,0),(1,4096),(2,24576)],rfl,rfl,rfl,ko rfl aa aa (dh rfl rfl (nF ⟨aL,aL,⟨rfl,qc aa⟩,trivial⟩) (aM (aM trivial)))⟩
 ·have e1:((j:Int)+1).toNat=j+1:=aa
  have e2:((j:Int)+c.p+1).toNat=j+q+1:=aa
  have e3:j+q+1-(j+1)=q:=aa
  simp only[ag.all,az,bk,bt,bf,e1,e2,e3,Nat.add_zero]
  have h7:iO (fun i=>aE (rat (k i) sK)) n j=iO k n j:=rfl
  have h8:∀t,jO c.n (fun i=>aE (rat (c.k i) sK)) t=jO c.n c.k t:=fun _=>rfl
  simp only[h7,h8]
  refine⟨fun h=>?_,fun h=>⟨rfl,j,aa,[(0,0),(1,1),(2,2),(3,3)],rfl,rfl,rfl,dQ (dh rfl rfl (qp rfl rfl rfl) (aM (aM trivial)))⟩⟩
  have h1:=aiw (k:=k) (n:=n) (i:=j) aa
  have h2:=ai6 hk (t:=k (iO k n j))
  (repeat' with_reducible refine And.intro ?_ ?_)
  all_goals first|omega|exact bI bz|exact hk|exact fun _ _=>.refl _|skip
  refine⟨j+1,aa,by dsimp only;omega,[(0,0),(1,1),(2,2),(3,147460)],rfl,rfl,rfl,b7 rfl rfl rfl (fun j' hj'=>qS (g:=fun j=>bV (jF c n k j) sB) (fun _ _=>⟨rfl,rfl⟩) rfl ?_ hj') (dh rfl rfl (qp rfl rfl rfl) (aM (aM trivial)))⟩
  exact pT (h:=rF c (jO c.n c.k (k (iO k n j))) q (fun q=>k (q+(j+1)))) (by unfold jF;rw[hq]) bz
 ·subst hj
  simp only[ag.all,az]
  exact⟨⟨aa,aa⟩,aa,.refl _⟩
theorem aed:aU P Pn 137:=ct fun⟨c,⟨n,k⟩,_⟩ K hn=>QT hn.1 hn.2.1 hn.2.2.1 hn.2.2.2.1 hn.2.2.2.2.1 hn.2.2.2.2.2.1 hn.2.2.2.2.2.2 K
def kO (c:Cu) (t:Rat):Int:=if¬(c.k 0<t/\t<c.k (c.n-1))then 7 else if c.p<=(bW c.k t c.n:Int)then 5 else if 40<=c.m then 2 else 0
def Zy:Cu:=⟨0,0,fun _=>0,0,fun _=>⟨⟨0,0,0⟩,0⟩⟩
theorem ZM:aW 148 f148:=aT func148
theorem abD:aW 74 f74:=aT func74
theorem SV:aW 81 f81:=aT func81
theorem N4:aW 138 f138:=aT func138
theorem ajp:aW 154 f154:=aT func154
theorem adb:aW 72 f72:=aT func72
theorem Rc:aW 77 f77:=aT func77
def N5:Spec:=bY fun l=>match l with
 |[.mag N]=>some (aJ (.bool true) [nl N<2^40])
 |_=>none
def F4:aX:=nG::(148,N5)::(149,bY (l7 G3))::(150,bY (iU Gf))::(155,G9)::[]
def Ew:Spec:=bY fun l=>match l with
 |[.rat q n]=>some (aJ (.bool true) [n<2^44])
 |_=>none
def OH:Spec:=bY fun l=>match l with
 |[.rat q n]=>some (aJ (.int .i64 (cW q:Nat)) [n<2^44])
 |_=>none
def AZ:Spec:=bY fun l=>match l with
 |[.rat q n]=>some (aJ (.bool false) [n<=2048])
 |_=>none
def Bh:aX:=nG::(74,Ew)::(81,OH)::gW
def K8 (s:Nat):Kind Pl:=⟨fun v=>match AI v with
 |some (a,q)=>some (a.1,q++[a.2<=s])
 |none=>none,fun a=>bJ a s,fun {v a q} h hq=>by
  split at h
  ·rename_i b q' hb
   simp only[ay,Prod.mk.injEq]at h
   obtain⟨rfl,rfl⟩:=h
   obtain⟨q1,q2⟩:=fD.1 hq
   refine bh.trans (Y8.ok hb q1) ?_
   show bh (bJ b.1 b.2) (bJ b.1 s)
   exact cL ⟨cL ⟨ey q2,ey q2,ey q2,trivial⟩,ey q2,trivial⟩
  ·simp at h⟩
def OK:Spec:=cA (kC (K8 2048) kN) (fun _=>.bool false) fun a=>[0<a.1.d]
def A1:Kind FuncId:=⟨fun v=>match v with
 |.func f []=>some (f,[])
 |_=>none,fun g=>.func g [],fun {v a q} h _=>by
  split at h
  ·simp only[ay,Prod.mk.injEq]at h
   obtain⟨rfl,rfl⟩:=h
   exact .refl _
  ·simp at h⟩
abbrev lV:List Nat:=[4,0,1,7,8]
abbrev xu (n i:Nat) (k:Nat->Rat) (g:FuncId):List AV:=[.int .i64 0,bD k n 2048,.func g [],.int .i64 n,.int .i64 i]
abbrev EG (n i:Nat) (f:Nat->Pl) (g:FuncId):List AV:=[.int .i64 0,aZ f n 2048,.func g [],.int .i64 n,.int .i64 i]
abbrev qd:Code:=aF f138
abbrev wC:Code:=aF f154
theorem aaa {N:Nat}:bU T [nG] [6] 60 f148 (aF f148) ⟨aQ 0 [.mag N],[],0⟩=
  let c2:Bool:=(↑(nl N):Int)==0;let c1:Int:=(↑(nl N):Int)-1;some (fork c2 (aj [c2=true] (leaf ret [AV.bool true])) (aj [c2=false,-(2:Int)^63<=c1/\c1<2^63,(0:Int)<=c1/\c1.toNat<nl N] (leaf ret [AV.bool (bif false then true else(↑(aD N c1.toNat):Int)!=0)]))):=ah
theorem aa4 {q:Rat} {n:Nat}:bU T F4 [18,25,29,33,43] 60 f74 (aF f74) ⟨aQ 0 [.rat q n],[],0⟩=
  let c9:ag (List AV):=leaf ret [AV.bool false];let c7:Bool:=!decide (q<0);let c6:Nat:=q.num.natAbs;let c4:Nat:=2^40;let c3:Prop:=0<1;let c2:Nat:=if q.den=1 then 0 else q.den;let c5:Int:=(↑(nl c2):Int);let c10:Bool:=c5==1;let c8:Bool:=c5==0;let c1:ag (List AV):=aj [c3] (fork ((↑(nl c6):Int)==0) (fork c7 (aj [c3,c7=true,c3] (leaf ret [AV.bool (bif true then c8 else false)])) (aj [c3,c7=false] c9)) (fork c8 (aj [c3,c8=true] (leaf ret [AV.bool true])) (aj [c3,c8=false,c3,c3,nl c6<c4,nl c2<c4,nl (c6.gcd c2)<c4] (leaf ret [AV.bool (bif false then true else(↑(bN (c6.gcd c2)):Int)==1)]))));some (fork c10 (aj [c3,nl c6<c4,c3,nl c2<c4,c3,c10=true,c3,(0:Int)<=0/\Int.toNat (0:Int)<nl c2] (fork (bif bif !true then true else !true then true else bif true then(↑(aD c2 (Int.toNat (0:Int))):Int)==1 else false) c9 c1)) (aj [c3,nl c6<c4,c3,nl c2<c4,c3,c10=false] (fork false c9 c1))):=ah
theorem afm {q:Rat} {n:Nat}:bU T F4 [] 60 f81 (aF f81) ⟨aQ 0 [.rat q n],[],0⟩=
  let c2:Int:=(↑(bN q.den):Int);let c1:Int:=(↑(bN q.num.natAbs):Int);some (aj [(0:Nat)<1,nl q.num.natAbs<2^40,(0:Nat)<1,nl q.den<2^40] (leaf ret [int i64 (if c1<c2 then c2 else c1)])):=ah
theorem Zv {N:Nat} (hn:nl N<2^40) (K:Nat):aS P 148 K [.mag N] [] (aJ (.bool true) []):=by
 refine bX hT (cz bB) hm ZM rfl aV rfl 60 aaa (fun _=>?_) K []
 simp only[ag.all,az]
 refine⟨fun h=>⟨h,.refl _⟩,fun h=>?_⟩
 have h0:nl N≠0:=fun he=>by rw[he]at h;exact absurd h (by decide)
 have h1:N≠0:=fun he=>h0 (j5.2 he)
 have e1:((nl N:Int)-1).toNat=nl N-1:=aa
 have h2:=Bo h1
 rw[e1]
 refine⟨⟨h,aa,aa⟩,fF ?_⟩
 rw[cond_false]
 exact bne_iff_ne.2 aa
theorem Z7:aU P N5 148:=by
 refine cF fun K args r hk hs _=>?_
 split at hs
 ·simp only[ay]at hs
  subst hs
  exact fun need=>Zv need K trivial
 ·simp at hs
theorem Ki:bq P F4:=cz (aI Z7 (aI NI (aI Qz (aI JR bB))))
theorem RL {N:Nat} (h:nl N=1) (h1:aD N 0=1):N=1:=by
 have h2:N<2^(32*1):=dF.1 aa
 unfold aD at h1
 omega
theorem Ts {q:Rat} {n:Nat} (hn:n<2^44) (K:Nat):aS P 74 K [.rat q n] [] (aJ (.bool true) []):=by
 refine kD fun⟨hs1,_⟩=>?_
 obtain⟨a1,a2,a3⟩:=Sz.jJ hs1 hn
 refine bX hT Ki hm abD rfl aV rfl 60 aa4 (fun _=>?_) K []
 obtain⟨D,hD⟩:∃D,D=if q.den=1 then 0 else q.den:=⟨_,rfl⟩
 have hD1:D≠1:=by rw[hD];split<;>omega
 have hg:D≠0->q.num.natAbs.gcd D=1:=fun h=>by
  have:D=q.den:=by rw[hD]at h ⊢;split<;>simp_all
  rw[this];exact q.reduced
 have hz:q.num.natAbs=0->¬q<0/\D=0:=fun h=>by
  have h0:=pW.1 h
  subst h0
  exact⟨by decide,by rw[hD];rfl⟩
 rw[<-hD]at a3 ⊢
 have nneg:((nl q.num.natAbs:Int)==0)=true->(!decide (q<0))=true/\((nl D:Int)==0)=true:=fun h=>by
  obtain⟨z1,z2⟩:=hz (j5.1 (by have:=beq_iff_eq.1 h;omega))
  rw[decide_eq_false z1,z2];exact⟨rfl,rfl⟩
 have last:((nl D:Int)==0)=false->D≠0:=fun h he=>by rw[he]at h;exact absurd h (by decide)
 simp only[ag.all,az,cond_true,cond_false,Bool.not_true]
 refine⟨fun h=>⟨⟨aa,a1,aa,a3,aa,h,aa,aa,?_⟩,fun h2=>?_,fun h2=>⟨aa,fun h3=>⟨fun h4=>⟨⟨aa,h4,aa⟩,fF (nneg h3).2⟩,fun h4=>absurd (h4.symm.trans (nneg h3).1) (by decide)⟩,fun h3=>⟨fun h4=>⟨⟨aa,h4⟩,.refl _⟩,fun h4=>?_⟩⟩⟩,
  fun h=>⟨⟨aa,a1,aa,a3,aa,h⟩,fun h=>absurd h (by decide),fun _=>⟨aa,fun h3=>⟨fun h4=>⟨⟨aa,h4,aa⟩,fF (nneg h3).2⟩,fun h4=>absurd (h4.symm.trans (nneg h3).1) (by decide)⟩,fun h3=>⟨fun h4=>⟨⟨aa,h4⟩,.refl _⟩,fun h4=>?_⟩⟩⟩⟩
 ·have:=beq_iff_eq.1 h
  rw[Int.toNat_zero];omega
 ·have e1:=beq_iff_eq.1 h
  have e2:=beq_iff_eq.1 h2
  exact absurd (RL aa (by rw[Int.toNat_zero]at e2;omega)) hD1
 ·rw[hg (last h4)]
  exact⟨⟨aa,h4,aa,aa,a1,a3,by decide⟩,fF (by decide)⟩
 ·rw[hg (last h4)]
  exact⟨⟨aa,h4,aa,aa,a1,a3,by decide⟩,fF (by decide)⟩
theorem LL:aU P Ew 74:=by
 refine cF fun K args r hk hs _=>?_
 split at hs
 ·simp only[ay]at hs
  subst hs
  exact fun need=>Ts need K trivial
 ·simp at hs
theorem XT {q:Rat} {n:Nat} (hn:n<2^44) (K:Nat):aS P 81 K [.rat q n] [] (aJ (.int .i64 (cW q:Nat)) []):=by
 refine kD fun⟨hs1,_⟩=>?_
 obtain⟨a1,a2,a3⟩:=Sz.jJ hs1 hn
 refine bX hT Ki hm SV rfl aV rfl 60 afm (fun _=>?_) K []
 simp only[ag.all,az]
 refine⟨⟨aa,a1,aa,a2⟩,bS ?_⟩
 unfold cW
 split<;>omega
theorem WN:aU P OH 81:=by
 refine cF fun K args r hk hs _=>?_
 split at hs
 ·simp only[ay]at hs
  subst hs
  exact fun need=>XT need K trivial
 ·simp at hs
theorem Ec:bq P Bh:=cz (aI LL (aI WN iN))
theorem Jg:aW 86 f86:=aT func86
def oG:aX:=nG::(85,jD uf)::(51,yo)::(45,tA)::rV
abbrev mo (n:Nat) (z:Nat->Int) (a:Int):au:=j3 n (fun i=>.int .i64 (z i)) a
abbrev tO (t:Rat):au:=⟨false,true,3,1,fun _=>.rat t 64⟩
abbrev Wj (m:Nat) (k:Nat->Rat):au:=⟨true,true,3,m,fun i=>.rat (k i) 64⟩
abbrev sZ:List Nat:=[0,1,2,7,8,9]
abbrev AU (p m:Int) (v:AV) (i:Int):List AV:=[.ptr 0 0 2 0 [],.int .i64 p,.int .i64 m,.ptr 1 0 3 0 [],v,.int .i64 i]
abbrev yz:Code:=aF f86
abbrev xN:Code:=part yz [1,1,1,1]
abbrev vY:Code:=part xN [1]
abbrev wo:List Nat:=[0,1,7,8,10]
abbrev yx:List Nat:=[0,1,7,8,11]
abbrev su (p:Int) (l:Nat) (i:Int):List AV:=[.ptr 0 0 2 0 [],.int .i64 p,.ptr 1 0 3 0 [],.own 2 3 0 l,.int .i64 i]
abbrev od (n:Nat) (z:Nat->Int) (a:Int) (t:Rat) (l:Nat) (k:Nat->Rat):aC:=[(2,Wj l k),(1,tO t),(0,mo n z a)]
theorem XK {n:Nat} {z:Nat->Int} {a p m:Int}:aH T oG [] 60 sZ (before yz [1,1,1,0,1]) ⟨aQ 0 [.ptr 0 0 2 0 [],.int .i64 p,.int .i64 m],[(0,mo n z a)],1⟩=
  let c2:Int:=(2:Int)^63;let c1:Int:=cC n (fun i=>int i64 (z i)) a (4:Int)-2;some (aj [dc n (fun i=>int i64 (z i)) a,(0:Int)<4,(4:Int)<2^62,-c2<=c1/\c1<c2,-c2<=c1,c1<c2,(0:Nat)<1] (leaf normal ([ptr 0 0 2 0 [],int i64 p,int i64 m,ptr 20481 0 3 0 [],nil,int i64 0],[((20481:Nat),bP fun j=>if(j==0)=true then bp (rat (↑c1:Rat) (Max.max 1 (bN c1.natAbs)))else rat 0 1),(0,au.mk false true 2 1 fun x=>agg [ak 1 n fun i=>int i64 (z i),int i64 (aR n a)])]))):=ah
theorem abJ {n:Nat} {z:Nat->Int} {a p m:Int} {t:Rat}:aH T oG [18] 60 sZ [part yz [1,1,1,0,1,0,0]] ⟨aA sZ (AU p m .nil 0),[(1,tO t),(0,mo n z a)],3⟩=
  let c3:AV:=ptr 1 0 3 0 [];let c2:AV:=ptr 0 0 2 0 [];let c1:List (Nat×au):=[((1:Nat),bP fun x=>rat t 64),(0,au.mk false true 2 1 fun x=>agg [ak 1 n fun i=>int i64 (z i),int i64 a])];some (fork (decide ((0:Int)<=p)) (aj [(0:Nat)<1,(1:Nat)*3<=2^24,(0:Nat)<1/\1*((56:Nat)+1)*2<=2^47] (aj [-(2:Int)^63<=(0:Int)+1/\(0:Int)+1<(2:Int)^63] (leaf normal ([c2,int i64 p,int i64 m,c3,own 24579 3 0 1,int i64 1],(24579,au.mk true true 3 1 fun i=>nth [rat t 64] (rat 0 1) (i+0))::c1)))) (leaf (exit 0) ([c2,int i64 p,int i64 m,c3,nil,int i64 0],c1))):=ah
theorem Sd {n j:Nat} {z:Nat->Int} {a p m:Int} {t:Rat} {k:Nat->Rat}:aH T oG [18] 60 sZ [part yz [1,1,1,0,1,0,0]] ⟨aA sZ (AU p m (.own 2 3 0 (j+1)) ((j+1:Nat):Int)),od n z a t (j+1) k,3⟩=
  let c4:AV:=ptr 1 0 3 0 [];let c3:AV:=ptr 0 0 2 0 [];let c2:Nat:=j+1;let c1:List (Nat×au):=[((1:Nat),bP fun x=>rat t 64),(0,au.mk false true 2 1 fun x=>agg [ak 1 n fun i=>int i64 (z i),int i64 a])];let c7:Nat:=c2+1;let c6:Int:=(↑c2:Int);let c5:Int:=c6+1;some (fork (decide (c6<=p)) (aj [(0:Nat)<1,(1:Nat)*3<=2^24,c7*((56:Nat)+1)*2<=2^47] (aj [-(2:Int)^63<=c5/\c5<2^63] (leaf normal ([c3,int i64 p,int i64 m,c4,own 24579 3 0 c7,int i64 c5],(24579,au.mk true true 3 c7 fun i=>if i<c2 then rat (k i) 64 else nth [rat t 64] (rat 0 1) (i-c2+0))::c1)))) (leaf (exit 0) ([c3,int i64 p,int i64 m,c4,own 2 3 0 c2,int i64 c6],(2,au.mk true true 3 c2 fun i=>rat (k i) 64)::c1))):=ah
theorem aeY {n j:Nat} {z:Nat->Int} {a p m:Int} {t:Rat} {k:Nat->Rat}:aH T oG [] 60 wo (before xN [0,1]) ⟨aA sZ (AU p m (.own 2 3 0 (j+1)) ((j+1:Nat):Int)),od n z a t (j+1) k,3⟩=
  let c1:Int:=m+1;some (aj [-(2:Int)^63<=c1/\c1<2^63,dc n (fun i=>int i64 (z i)) a,(0:Int)<c1,c1<2^62] (leaf normal ([ptr 0 0 2 0 [],int i64 p,ptr 1 0 3 0 [],own 2 3 0 (j+1),int i64 (cC n (fun i=>int i64 (z i)) a c1)],[(2,au.mk true true 3 (j+1) fun i=>rat (k i) 64),((1:Nat),bP fun x=>rat t 64),(0,au.mk false true 2 1 fun x=>agg [ak 1 n fun i=>int i64 (z i),int i64 (aR n a)])]))):=ah
theorem acu {n l:Nat} {z:Nat->Int} {a p i:Int} {t:Rat} {k:Nat->Rat}:aH T oG [30,38,43,53] 60 wo [part xN [0,1,0,0]] ⟨aA wo (su p l i),od n z a t l k,3⟩=
  let c40:Int:=i-1;let c39:Nat:=64+64+1;let c35:AV:=rat t 64;let c34:AV:=rat 0 1;let c33:Int:=aR n a;let c31:Nat:=l+1;let c30:Prop:=(0:Int)<3;let c28:Prop:=dc n (fun i=>int i64 (z i)) a;let c27:Int:=(↑l:Int);let c25:AV:=ptr 1 0 3 0 [];let c24:AV:=ptr 0 0 2 0 [];let c23:Prop:=0<1;let c21:Int:=(2:Int)^62;let c20:AV:=ak 1 n fun i=>int i64 (z i);let c18:Int:=p+1;let c16:Prop:=64<2^41;let c7:Int:=cC n (fun i=>int i64 (z i)) a (3:Int);let c5:Int:=(2:Int)^63;let c43:Int:=aR n c33;let c41:Bool:=c27==c18;let c38:Prop:=dc n (fun i=>int i64 (z i)) c33;let c37:Prop:=(3:Int)<c21;let c32:Prop:=-c5<=c18/\c18<c5;let c29:Int:=(1:Int)+c7;let c26:Nat×au:=((1:Nat),bP fun x=>c35);let c22:Bool:=bif false then true else decide (c7>0);let c19:List Prop:=[-c5<=c40/\c40<c5];let c17:Nat:=(c27-p).toNat+0;let c15:Nat×au:=(106499,au.mk true true 3 c31 fun i=>if i<l then rat (k i) 64 else nth [c35] c34 (i-l+0));let c13:List AV:=[c24,int i64 p,c25,own 147459 3 0 c31,int i64 c40];let c12:List AV:=[c24,int i64 p,c25,own 106499 3 0 c31,int i64 c40];let c10:Int:=(1:Int)+cC n (fun i=>int i64 (z i)) c33 (2:Int);let c9:Int:=(1:Int)+cC n (fun i=>int i64 (z i)) c33 (3:Int);let c6:List Prop:=[c23,(1:Nat)*3<=2^24,c31*((56:Nat)+1)*2<=2^47];let c42:Rat:=(↑c29:Rat)/(↑c10:Rat);let c36:Bool:=bif false then true else decide (t=k c17);let c14:List (Nat×au):=[c26,(0,au.mk false true 2 1 fun x=>agg [c20,int i64 a])];let c11:List Prop:=[c23,-c5<=c27-p/\c27-p<c5,(0:Int)<=c27-p/\(c27-p).toNat<l,c17<l,c16,c16];let c8:Int:=(1:Int)+cC n (fun i=>int i64 (z i)) c43 (2:Int);let c3:ag (List AV×aC):=aj c6 (aj c19 (leaf normal (c12,[c15,c26,(0,au.mk false true 2 1 fun x=>agg [c20,int i64 c33])])));let c44:Rat:=(↑c9:Rat)/(↑c8:Rat);let c4:ag (List AV×aC):=aj c6 (aj c19 (leaf normal (c12,c15::c14)));let c2:ag (List AV×aC):=aj [c23,c28,c30,c37,-c5<=c29/\c29<c5,c38,(0:Int)<2,(2:Int)<c21,-c5<=c10/\c10<c5,-c5<=c29,c29<c5,-c5<=c10,c10<c5,c16,c16,c23] (aj c6 (aj c19 (leaf normal (c13,[(147459,au.mk true true 3 c31 fun i=>if i<l then rat (k i) 64 else nth [rat (t+c42) c39] c34 (i-l+0)),((1:Nat),bP fun j=>if(j==0)=true then bp (ng (t,(64:Nat)) (c42,(64:Nat)))else c35),(0,au.mk false true 2 1 fun x=>agg [c20,int i64 c43])]))));let c1:ag (List AV×aC):=aj [c23,c38,c30,c37,-c5<=c9/\c9<c5,dc n (fun i=>int i64 (z i)) c43,(0:Int)<2,(2:Int)<c21,-c5<=c8/\c8<c5,-c5<=c9,c9<c5,-c5<=c8,c8<c5,c16,c16,c23] (aj c6 (aj c19 (leaf normal (c13,[(147459,au.mk true true 3 c31 fun i=>if i<l then rat (k i) 64 else nth [rat (t+c44) c39] c34 (i-l+0)),((1:Nat),bP fun j=>if(j==0)=true then bp (ng (t,(64:Nat)) (c44,(64:Nat)))else c35),(0,au.mk false true 2 1 fun x=>agg [c20,int i64 (aR n c43)])]))));some (fork (decide (i>0)) (fork c41 (fork true (aj [c32,c41=true,true=true] (fork true c2 c4)) (aj (c32::(c41=true)::(true=false)::c11) (fork c36 c2 c4))) (fork c22 (aj [c32,c41=false,c28,c30,c37,c22=true] (fork true c1 c3)) (aj (c32::(c41=false)::c28::c30::c37::(c22=false)::c11) (fork c36 c1 c3)))) (leaf (exit 2) ([c24,int i64 p,c25,own 2 3 0 l,int i64 i],(2,au.mk true true 3 l fun i=>rat (k i) 64)::c14))):=ah
theorem Ux {n l:Nat} {z:Nat->Int} {a p i:Int} {t:Rat} {k:Nat->Rat}:aH T oG [] 60 yx (before vY [1,0,1]) ⟨aA wo (su p l i),od n z a t l k,3⟩=
  let c1:Nat:=Max.max 1 (bN (Int.natAbs (1:Int)));some (aj [(0:Nat)<1,-(2:Int)^63<=(1:Int),(1:Int)<2^63,(64:Nat)<2^41,c1<2^41,(0:Nat)<1] (leaf normal ([ptr 0 0 2 0 [],int i64 p,ptr 1 0 3 0 [],own 2 3 0 l,int i64 0],[(2,au.mk true true 3 l fun i=>rat (k i) 64),((1:Nat),bP fun j=>if(j==0)=true then bp (ng (t,(64:Nat)) ((↑(1:Int):Rat),c1))else rat t 64),(0,au.mk false true 2 1 fun x=>agg [ak 1 n fun i=>int i64 (z i),int i64 a])]))):=ah
theorem SX {n l:Nat} {z:Nat->Int} {a p i:Int} {t:Rat} {k:Nat->Rat}:aH T oG [72] 60 yx [part vY [1,0,1,0,0]] ⟨aA yx (su p l i),od n z a t l k,3⟩=
  let c3:AV:=ptr 1 0 3 0 [];let c2:AV:=ptr 0 0 2 0 [];let c1:List (Nat×au):=[((1:Nat),bP fun x=>rat t 64),(0,au.mk false true 2 1 fun x=>agg [ak 1 n fun i=>int i64 (z i),int i64 a])];some (fork (decide (i<=p)) (aj [(0:Nat)<1,(1:Nat)*3<=2^24,(l+1)*((56:Nat)+1)*2<=2^47] (aj [-(2:Int)^63<=i+1/\i+1<(2:Int)^63] (leaf normal ([c2,int i64 p,c3,own 24579 3 0 (l+1),int i64 (i+1)],(24579,au.mk true true 3 (l+1) fun i=>if i<l then rat (k i) 64 else nth [rat t 64] (rat 0 1) (i-l+0))::c1)))) (leaf (exit 4) ([c2,int i64 p,c3,own 2 3 0 l,int i64 i],(2,au.mk true true 3 l fun i=>rat (k i) 64)::c1))):=ah
theorem ajI {n l:Nat} {z:Nat->Int} {a p i:Int} {t:Rat} {k:Nat->Rat}:BC T oG [] 60 f86 [part vY [1,1]] ⟨aA yx (su p l i),od n z a t l k,3⟩=
  some (leaf ret ([ak 3 l fun i=>rat (k (i+0)) 64],some (au.mk false true 2 1 fun x=>agg [ak 1 n fun i=>int i64 (z i),int i64 a]))):=ah
structure vN where
 k:Nat->Rat
 t:Rat
 a:Int
def tg (n:Nat) (f:Nat->AV) (t:Rat) (a:Int):Rat:=t+((1+cC n f a 3:Int):Rat)/((1+cC n f (aR n a) 2:Int):Rat)
def tN (n:Nat) (f:Nat->AV) (p j:Nat) (s:vN):vN:=
 if j=0\/0<cC n f s.a 3\/s.t=s.k (j+1)then
  ⟨jK s.k (p+1+j) (tg n f s.t (if j=0 then s.a else aR n s.a)),tg n f s.t (if j=0 then s.a else aR n s.a),aR n (aR n (if j=0 then s.a else aR n s.a))⟩
 else⟨jK s.k (p+1+j) s.t,s.t,if j=0 then s.a else aR n s.a⟩
def qX (n:Nat) (f:Nat->AV) (p:Nat) (s0:vN):Nat->vN
 |0=>s0
 |j+1=>tN n f p j (qX n f p s0 j)
def qx (n:Nat) (f:Nat->AV) (a:Int):vN:=⟨fun _=>((cC n f a 4-2:Int):Rat),((cC n f a 4-2:Int):Rat),aR n (aR n a)⟩
def ig (n:Nat) (f:Nat->AV) (a:Int) (m:Nat):Nat:=(cC n f (aR n a) (m+1)).toNat
def A7 (n:Nat) (f:Nat->AV) (a:Int) (p m:Nat):vN:=qX n f p (qx n f a) (ig n f a m)
def j9 (n:Nat) (f:Nat->AV) (a:Int) (p m:Nat):Nat:=2*p+2+ig n f a m
def m9 (n:Nat) (f:Nat->AV) (a:Int) (p m:Nat):Nat->Rat:=nu p (ig n f a m) (A7 n f a p m).k (A7 n f a p m).t
def gk (n:Nat) (f:Nat->AV) (a:Int) (p m:Nat):Int:=(A7 n f a p m).a
theorem sR {n:Nat} {f:Nat->AV} {a:Int} {p:Nat} (hd:dc n f a) (hp:1<=p):∀j,KG p j (qX n f p (qx n f a) j).k (qX n f p (qx n f a) j).t/\dc n f (qX n f p (qx n f a) j).a
 |0=>by
  have h1:=gJ (n:=n) (f:=f) (a:=a) (m:=4) aa
  have h2:=gT (n:=n) (f:=f) (a:=a) (m:=4) aa
  exact⟨KG.start hp aa aa,hd.next.next⟩
 |j+1=>by
  obtain⟨h1,h2⟩:=sR hd hp j
  unfold qX tN tg
  generalize qX n f p (qx n f a) j=s at*
  obtain⟨k,t,b⟩:=s
  simp only at h1 h2 ⊢
  have hb:dc n f (if j=0 then b else aR n b):=by split;exact h2;exact h2.next
  generalize (if j=0 then b else aR n b)=a1 at*
  split
  ·have x1:=gJ (n:=n) (f:=f) (a:=a1) (m:=3) aa
   have x2:=gT (n:=n) (f:=f) (a:=a1) (m:=3) aa
   have y1:=gJ (n:=n) (f:=f) (a:=aR n a1) (m:=2) aa
   have y2:=gT (n:=n) (f:=f) (a:=aR n a1) (m:=2) aa
   refine⟨h1.next (.inl ?_),hb.next.next⟩
   generalize cC n f a1 3=x at*
   generalize cC n f (aR n a1) 2=y at*
   have key:∃z:Int,((1+x:Int):Rat)/((1+y:Int):Rat)=(z:Rat)/2/\1<=z/\z<=6:=by
    rcases(show y=0\/y=1 by omega)with h|h
    ·subst h
     refine⟨2*(1+x),?_,aa,aa⟩
     have:((2*(1+x):Int):Rat)=2*((1+x:Int):Rat):=by simp
     rw[this]
     generalize ((1+x:Int):Rat)=w
     simp;grind
    ·subst h
     exact⟨1+x,by simp,aa,aa⟩
   obtain⟨z,e,z1,z2⟩:=key
   rw[e]
   refine⟨?_,z,rfl,z2⟩
   have:(1:Rat)<=(z:Rat):=by exact_mod_cast z1
   grind
  ·rename_i hc
   have hc1:¬j=0:=fun h=>hc (.inl h)
   have hc2:¬t=k (j+1):=fun h=>hc (.inr (.inr h))
   exact⟨h1.next (.inr ⟨rfl,aa,hc2⟩),hb⟩
theorem KJ {z:Int} (h1:-2^63<=z) (h2:z<2^63):Sz ((z:Rat)/2) 64:=by
 have:=IG h1 h2 (y:=2) aa aa aa
 simpa using this
theorem KG.sz {p j:Nat} {k:Nat->Rat} {t:Rat} (h:KG p j k t) (hj:j<2^50):Sz t 64:=by
 obtain⟨z,e,h1,h2⟩:=h.half (p+j) bz
 rw[h.top]at e
 rw[e]
 exact KJ aa aa
theorem afJ {J j:Nat} (h:j<J):((J-j:Nat):Int)-1=((J-(j+1):Nat):Int):=aa
theorem Fo {rl:List (Nat×Nat)} {l i:Nat} {k k':Nat->Rat} {t:Rat} {s:Nat} (hk:k'=jK k l t) (ht:Sz t 64) (hi:i<l+1):ia rl (if i<l then .rat (k i) 64 else nth [.rat t s] (.rat 0 1) (i-l+0)) (.rat (k' i) 64):=by
 subst hk
 by_cases h:i<l
 ·rw[if_pos h,iY aa];exact cR rfl rfl
 ·have:i=l:=aa
  subst this
  rw[if_neg h,ou,Nat.sub_self]
  exact .inr ⟨rfl,dU rfl ht⟩
theorem Cs:bq P oG:=cz (aI BK (aI CG (aI vH vu)))
theorem SY {k n p m:Nat} {z:Nat->Int} {a:Int} {o:au} (ho:∀ρ,dK ρ o (mo n z a)) (h:dc n (fun i=>.int .i64 (z i)) a) (hp:1<=p) (hp2:p<1000) (hm2:m<1000) (K:Nat):
  aS P 86 K [.ptr k 0 2 0 [],.int .i64 p,.int .i64 m] [(k,o)] ⟨bD (m9 n (fun i=>.int .i64 (z i)) a p m) (j9 n (fun i=>.int .i64 (z i)) a p m) 64,[(k,mo n z (gk n (fun i=>.int .i64 (z i)) a p m))],[]⟩:=by
 refine Qp hT Jg rfl rfl aV ho (fun _ c hk=>?_) K
 have a1:=gJ (n:=n) (f:=fun i=>.int .i64 (z i)) (a:=a) (m:=4) aa
 have a2:=gT (n:=n) (f:=fun i=>.int .i64 (z i)) (a:=a) (m:=4) aa
 have b1:=gJ (n:=n) (f:=fun i=>.int .i64 (z i)) (a:=aR n a) (m:=m+1) aa
 have b2:=gT (n:=n) (f:=fun i=>.int .i64 (z i)) (a:=aR n a) (m:=m+1) aa
 have hS:=sR h hp
 unfold gk m9 j9 A7 at*
 obtain⟨J,hJ⟩:∃J,J=ig n (fun i=>.int .i64 (z i)) a m:=⟨_,rfl⟩
 have hJ2:cC n (fun i=>.int .i64 (z i)) (aR n a) (m+1)=(J:Int):=by rw[hJ];unfold ig;omega
 rw[<-hJ]at*
 have hJ3:J<1000:=aa
 obtain⟨S,hSd⟩:∃S,S=qX n (fun i=>.int .i64 (z i)) p (qx n (fun i=>.int .i64 (z i)) a):=⟨_,rfl⟩
 have h00:S 0=qx n (fun i=>.int .i64 (z i)) a:=by rw[hSd];rfl
 have hS1:∀j,S (j+1)=tN n (fun i=>.int .i64 (z i)) p j (S j):=fun j=>by rw[hSd];rfl
 rw[<-hSd]at hS ⊢
 clear hSd hJ
 obtain⟨t0,ht0⟩:∃t0:Rat,t0=((cC n (fun i=>.int .i64 (z i)) a 4-2:Int):Rat):=⟨_,rfl⟩
 unfold qx at h00
 rw[<-ht0]at h00
 have hs0:Sz t0 64:=by have:=(hS 0).1.sz aa;rw[h00]at this;exact this
 refine ax.lQ hT Cs hm [1,1,1,0,1] (i:=0) (y:=part yz [1,1,1,0,1,0,0]) (z:=xN) ah ah ah Jg.dst hk (f1:=[]) (f2:=[18]) 60 sZ 3
  (fun j:Nat=>AU p m (match j with
   |0=>.nil
   |_+1=>.own 2 3 0 j) j) (fun j=>match j with
   |0=>[(1,tO t0),(0,mo n z (aR n a))]
   |_+1=>od n z (aR n a) t0 j (fun _=>t0)) (fun j=>j<=p+1) (fun j=>j=p+1) (fun j=>p+1-j) (fun _=>False) ⟨_,XK,?_⟩ (fun j hj=>?_) (fun j hj=>?_) (fun _ _ h=>h.elim)
 ·simp only[ag.all,az]
  refine⟨⟨h,aa,aa,aa,aa,aa,aa⟩,0,aa,[(0,0),(1,20481)],rfl,rfl,rfl,dh rfl rfl (.inr ⟨rfl,?_⟩) (aM trivial)⟩
  rw[<-ht0]
  exact dU rfl hs0
 ·cases j with
  |zero=>
   refine⟨_,abJ,?_⟩
   simp only[ag.all,az,bk,bt]
   refine⟨fun _=>⟨aa,aa,1,aa,by dsimp only;omega,[(0,0),(1,1),(2,24579)],rfl,rfl,rfl,b7 rfl rfl rfl (fun i hi=>?_) (aM (aM trivial))⟩,fun h=>aa⟩
   have:i=0:=aa
   subst this
   exact cR rfl rfl
  |succ j=>
   refine⟨_,Sd,?_⟩
   simp only[ag.all,az,bk,bt]
   refine⟨fun _=>⟨aa,aa,j+2,aa,by dsimp only;omega,[(0,0),(1,1),(2,24579)],rfl,rfl,rfl,b7 rfl rfl rfl (fun i hi=>Fo (by funext i;unfold jK;split<;>rfl) hs0 hi) (aM (aM trivial))⟩,
    fun _=>⟨rfl,j+1,aa,[(0,0),(1,1),(2,2)],rfl,rfl,rfl,b7 rfl rfl rfl (fun i hi=>cR rfl rfl) (aM (aM trivial))⟩⟩
 subst hj
 refine ax.lQ hT Cs hm [0,1] (i:=2) (y:=part xN [0,1,0,0]) (z:=vY) ah ah ah ah hk (f1:=[]) (f2:=[30,38,43,53]) 60 wo 3
  (fun j:Nat=>su p (p+1+j) ((J-j:Nat):Int)) (fun j=>od n z (S j).a (S j).t (p+1+j) (S j).k) (fun j=>j<=J) (fun j=>j=J) (fun j=>J-j) (fun _=>False) ⟨_,aeY,?_⟩ (fun j hj=>?_) (fun j hj=>?_) (fun _ _ h=>h.elim)
 ·simp only[ag.all,az]
  rw[hJ2]
  refine⟨⟨aa,h.next,aa,aa⟩,0,aa,[(0,0),(1,1),(2,2)],rfl,rfl,rfl,?_⟩
  dsimp only
  rw[h00]
  exact b7 rfl rfl rfl (fun i hi=>cR rfl rfl) (aM (aM trivial))
 ·refine⟨_,acu,?_⟩
  have hj1:=hS1 j
  obtain⟨hg,hd⟩:=hS j
  have hs1:∀{j},j<2000->Sz (S j).t 64:=fun hj=>(hS _).1.sz aa
  have hsj:=hs1 (j:=j) aa
  have hsj1:=hs1 (j:=j+1) aa
  have e1:(((p+1+j:Nat):Int)-(p:Int)).toNat+0=j+1:=aa
  simp only[ag.all,az,bk,bt,beq_iff_eq,beq_eq_false_iff_ne,e1,cond_false]
  have v3:=fun a=>And.intro (gJ (n:=n) (f:=fun i=>.int .i64 (z i)) (a:=a) (m:=3) aa) (gT (n:=n) (f:=fun i=>.int .i64 (z i)) (a:=a) (m:=3) aa)
  have v2:=fun a=>And.intro (gJ (n:=n) (f:=fun i=>.int .i64 (z i)) (a:=a) (m:=2) aa) (gT (n:=n) (f:=fun i=>.int .i64 (z i)) (a:=a) (m:=2) aa)
  have q1:=v3 (S j).a
  have q2:=v3 (aR n (S j).a)
  have q3:=v2 (aR n (S j).a)
  have q4:=v2 (aR n (aR n (S j).a))
  refine⟨fun hi=>?_,fun hi=>⟨rfl,j,aa,[(0,0),(1,1),(2,2)],rfl,rfl,rfl,b7 rfl rfl rfl (fun i hi=>cR rfl rfl) (aM (aM trivial))⟩⟩
  have hlt:j<J:=aa
  have fin:∀(key:Nat) (t:Rat) (s s2:Nat) (b:Int) (g:Nat->AV),S (j+1)=⟨jK (S j).k (p+1+j) t,t,b⟩->g 0=.rat t s2->(jE 3 [(0,0),(1,1),(2,key)])=true->(key==1)=false->(key==0)=false->
    Round [0] (fun j=>su p (p+1+j) ((J-j:Nat):Int)) (fun j=>od n z (S j).a (S j).t (p+1+j) (S j).k) 3 (fun j=>j<=J) (fun j=>j=J) (fun j=>J-j) 2 (fun _=>False) j normal
     ([ptr 0 0 2 0 [],int i64 p,ptr 1 0 3 0 [],own key 3 0 (p+1+j+1),int i64 (((J-j:Nat):Int)-1)],[(key,⟨true,true,3,p+1+j+1,fun i=>if i<p+1+j then .rat ((S j).k i) 64 else nth [.rat t s] (.rat 0 1) (i-(p+1+j)+0)⟩),(1,⟨false,true,3,1,g⟩),(0,mo n z b)]):=by
   intro key t s s2 b g e1 e2 e3 hk1 hk0
   rw[e1]at hsj1
   refine⟨j+1,aa,by dsimp only;omega,[(0,0),(1,1),(2,key)],by rw[e3];rfl,by rw[afJ hlt];rfl,rfl,?_⟩
   dsimp only
   rw[e1]
   exact b7 rfl CA rfl (fun i hi=>Fo rfl hsj1 hi) (dh rfl ((Nl hk1).trans rfl) (.inr ⟨by rw[e2];rfl,by rw[e2];exact dU rfl hsj1⟩) (dh rfl ((Nl hk0).trans rfl) (cR rfl rfl) trivial))
  refine⟨fun hl=>?_,fun hl=>⟨fun hc=>?_,fun hc=>?_⟩⟩
  all_goals (repeat' with_reducible first|refine And.intro ?_ ?_|intro _)
  all_goals first|omega|exact hd|exact hd.next|exact hd.next.next|skip
  all_goals try exact absurd ‹true=false› (by decide)
  ·refine fin 147459 _ _ _ _ _ ?_ rfl rfl rfl rfl
   rw[hj1];unfold tN tg
   have hj0:j=0:=aa
   rw[if_pos (.inl hj0),if_pos hj0]
  ·refine fin 147459 _ _ _ _ _ ?_ rfl rfl rfl rfl
   rw[hj1];unfold tN tg
   have hj0:j≠0:=aa
   rw[if_pos (.inr (.inl hc)),if_neg hj0]
  ·refine fin 147459 _ _ _ _ _ ?_ rfl rfl rfl rfl
   rw[hj1];unfold tN tg
   have hj0:j≠0:=aa
   rename_i hk
   rw[if_pos (.inr (.inr hk)),if_neg hj0]
  ·refine fin 106499 _ _ _ _ _ ?_ rfl rfl rfl rfl
   rw[hj1];unfold tN tg
   have hj0:j≠0:=aa
   rename_i hk
   rw[if_neg (by simp only[hj0,hk,or_false,false_or];omega),if_neg hj0]
 subst hj
 have hs1:Sz ((S j).t+1) 64:=by
  obtain⟨z,e,h1,h2⟩:=(hS j).1.FT (p+1+j)
  unfold nu at e
  rw[if_neg aa]at e
  rw[e];exact KJ aa aa
 refine ax.lQ hT Cs hm [1,0,1] (i:=4) (y:=part vY [1,0,1,0,0]) (z:=part vY [1,1]) ah ah ah ah hk (f1:=[]) (f2:=[72]) 60 yx 3
  (fun i:Nat=>su p (p+1+j+i) i) (fun i=>od n z (S j).a ((S j).t+1) (p+1+j+i) (nu p j (S j).k (S j).t)) (fun i=>i<=p+1) (fun i=>i=p+1) (fun i=>p+1-i) (fun _=>False) ⟨_,Ux,?_⟩ (fun i hi=>?_) (fun i hi=>?_) (fun _ _ h=>h.elim)
 ·simp only[ag.all,az]
  refine⟨⟨aa,aa,aa,aa,by decide,aa⟩,0,aa,[(0,0),(1,1),(2,2)],rfl,rfl,rfl,b7 rfl rfl rfl (fun i hi=>?_) (dh rfl rfl (.inr ⟨rfl,dU rfl hs1⟩) (aM trivial))⟩
  refine cR rfl ?_
  unfold nu
  rw[if_pos aa]
 ·refine⟨_,SX,?_⟩
  simp only[ag.all,az,bk,bt]
  refine⟨fun _=>⟨aa,aa,i+1,aa,by dsimp only;omega,[(0,0),(1,1),(2,24579)],rfl,rfl,rfl,b7 rfl rfl rfl (fun i hi=>Fo ?_ hs1 hi) (aM (aM trivial))⟩,
   fun _=>⟨rfl,i,aa,[(0,0),(1,1),(2,2)],rfl,rfl,rfl,b7 rfl rfl rfl (fun i hi=>cR rfl rfl) (aM (aM trivial))⟩⟩
  funext x
  unfold jK nu
  split
  ·rename_i hx;rw[if_neg aa]
  ·split<;>rfl
 ·subst hi
  refine ax.gZ (aG.J7 hT Cs hm 60 ajI ah ⟨?_,_,rfl,rfl,oK rfl rfl⟩)
  exact tu aa fun _ _=>rfl
def FP (n:Nat) (f:Nat->AV) (a:Int) (l:List AV):Option (AV×Int×List Prop):=match l with
 |[.int .i64 p,.int .i64 m]=>some (bD (m9 n f a p.toNat m.toNat) (j9 n f a p.toNat m.toNat) 64,gk n f a p.toNat m.toNat,[1<=p,p<1000,0<=m,m<1000])
 |_=>none
theorem afB:aU P (jD FP) 86:=by
 refine ua fun {k n z a l v b q o} K hg ho hd hq=>?_
 unfold FP at hg
 split at hg
 ·rename_i p m
  simp only[ay,Prod.mk.injEq]at hg
  obtain⟨rfl,rfl,rfl⟩:=hg
  obtain⟨h1,h2,h3,h4⟩:=hq
  have h4:m<1000:=h4
  have:=SY (k:=k) (p:=p.toNat) (m:=m.toNat) ho hd aa aa aa K
  rw[Int.toNat_of_nonneg aa,Int.toNat_of_nonneg h3]at this
  exact this
 ·simp at hg
def vq:aX:=[sG,(189,Dh)]
def N7:Spec:=bY fun l=>match l with
 |[.mag 1]=>some (aJ (.str [49]) [])
 |[.mag 2]=>some (aJ (.str [50]) [])
 |[.mag 3]=>some (aJ (.str [51]) [])
 |[.mag 4]=>some (aJ (.str [52]) [])
 |_=>none
def Cv:aX:=[sG,(129,N7)]
theorem afK:bU T vq [] 60 f129 (aF f129) ⟨aQ 0 [.mag 1],[],0⟩=
  let c1:Int:=(↑(1:Nat):Int);some (aj [nl 1<2^40,(0:Int)<1000000000,(1000000000:Int)<2^32] (aj [(10:Int)≠(0:Int),(0:Nat)<1/\1*((1:Nat)+1)*2<=2^47] (aj [(10:Int)≠(0:Int)] (aj [(0:Int)<=c1/\c1<=c1/\c1<=2^47/\c1*c1<=2^47] (leaf ret [str [UInt8.ofNat (u8.wrap (u32.wrap ((48:Int)+(↑((1:Nat)%Int.toNat (1000000000:Int)):Int).tmod (10:Int)))).toNat]]))))):=ah
theorem aiQ:bU T vq [] 60 f129 (aF f129) ⟨aQ 0 [.mag 2],[],0⟩=
  let c1:Int:=(↑(1:Nat):Int);some (aj [nl 2<2^40,(0:Int)<1000000000,(1000000000:Int)<2^32] (aj [(10:Int)≠(0:Int),(0:Nat)<1/\1*((1:Nat)+1)*2<=2^47] (aj [(10:Int)≠(0:Int)] (aj [(0:Int)<=c1/\c1<=c1/\c1<=2^47/\c1*c1<=2^47] (leaf ret [str [UInt8.ofNat (u8.wrap (u32.wrap ((48:Int)+(↑((2:Nat)%Int.toNat (1000000000:Int)):Int).tmod (10:Int)))).toNat]]))))):=ah
theorem ab7:bU T vq [] 60 f129 (aF f129) ⟨aQ 0 [.mag 3],[],0⟩=
  let c1:Int:=(↑(1:Nat):Int);some (aj [nl 3<2^40,(0:Int)<1000000000,(1000000000:Int)<2^32] (aj [(10:Int)≠(0:Int),(0:Nat)<1/\1*((1:Nat)+1)*2<=2^47] (aj [(10:Int)≠(0:Int)] (aj [(0:Int)<=c1/\c1<=c1/\c1<=2^47/\c1*c1<=2^47] (leaf ret [str [UInt8.ofNat (u8.wrap (u32.wrap ((48:Int)+(↑((3:Nat)%Int.toNat (1000000000:Int)):Int).tmod (10:Int)))).toNat]]))))):=ah
theorem aaI:bU T vq [] 60 f129 (aF f129) ⟨aQ 0 [.mag 4],[],0⟩=
  let c1:Int:=(↑(1:Nat):Int);some (aj [nl 4<2^40,(0:Int)<1000000000,(1000000000:Int)<2^32] (aj [(10:Int)≠(0:Int),(0:Nat)<1/\1*((1:Nat)+1)*2<=2^47] (aj [(10:Int)≠(0:Int)] (aj [(0:Int)<=c1/\c1<=c1/\c1<=2^47/\c1*c1<=2^47] (leaf ret [str [UInt8.ofNat (u8.wrap (u32.wrap ((48:Int)+(↑((4:Nat)%Int.toNat (1000000000:Int)):Int).tmod (10:Int)))).toNat]]))))):=ah
theorem Xy:bU T Cv [] 60 f47 (aF f47) ⟨aQ 0 [.agg [.bool false,.mag 1,.mag 4]],[],0⟩=
  some (leaf ret [str [(49:UInt8),(47:UInt8),(52:UInt8)]]):=ah
theorem ZY:bq P vq:=kW (aI Lf bB)
theorem Yk:aU P N7 129:=by
 refine cF fun K args r hk hs _=>?_
 have fin:∀{N:Nat} {t:ag (List AV)} {l:List UInt8},bU T vq [] 60 f129 (aF f129) ⟨aQ 0 [.mag N],[],0⟩=some t->(t.all fun _ us=>fK us (.str l))->aS P 129 K [.mag N] [] (aJ (.str l) []):=fun h1 h2=>
  bX (r:=aJ _ []) hT ZY hm Up rfl aV rfl 60 h1 (fun _=>h2) K []
 split at hs<;>simp only[ay,reduceCtorEq]at hs
 all_goals subst hs
 ·exact fin afK (by simp only[ag.all,az];exact⟨by decide,by decide,by decide,by decide,.refl _⟩)
 ·exact fin aiQ (by simp only[ag.all,az];exact⟨by decide,by decide,by decide,by decide,.refl _⟩)
 ·exact fin ab7 (by simp only[ag.all,az];exact⟨by decide,by decide,by decide,by decide,.refl _⟩)
 ·exact fin aaI (by simp only[ag.all,az];exact⟨by decide,by decide,by decide,by decide,.refl _⟩)
theorem aeV:bq P Cv:=kW (aI Yk bB)
theorem Kn.congr {n p:Nat} {k k':Nat->Rat} (h:Kn n p k) (e:∀i,i<n->k i=k' i):Kn n p k':=by
 have hp:=h.p1
 have hl:=h.len
 refine⟨h.p1,h.len,fun i hi=>?_,fun i hi=>?_,fun i h1 h2=>?_,fun i h1 h2=>?_⟩
 ·rw[<-e i aa,<-e (i+1) hi];exact h.sorted i hi
 ·rw[<-e i aa,<-e 0 aa];exact h.first i hi
 ·rw[<-e i h2,<-e (n-1) aa];exact h.last i h1 h2
 ·rw[<-e i aa,<-e (i+p) aa];exact h.mult i h1 h2
theorem XP:aW 87 f87:=aT func87
def Lq:aX:=[(85,jD uf),(84,jD EA),(51,yo)]
def pB (n:Nat) (f:Nat->AV) (a:Int) (b:Bool):Pl:=⟨⟨gD n f a,gD n f (gR n f a),if b=true then 0 else gD n f (gR n f (gR n f a))⟩,((1+cC n f (jj n f a) 3:Int):Rat)⟩
def ES (n:Nat) (f:Nat->AV) (a:Int):Int:=aR n (jj n f a)
def E2 (n:Nat) (f:Nat->AV) (a:Int) (l:List AV):Option (AV×Int×List Prop):=match l with
 |[.bool b]=>some (bJ (pB n f a b) 64,ES n f a,[])
 |_=>none
theorem afh {n:Nat} {z:Nat->Int} {a:Int} {b:Bool}:vS T Lq [8] 60 f87 (aF f87) ⟨aQ 0 [.ptr 0 0 2 0 [],.bool b],[(0,mo n z a)],1⟩=
  let c9:Int:=gR n (fun i=>int i64 (z i)) a;let c8:AV:=rat (gD n (fun i=>int i64 (z i)) a) 64;let c6:Int:=jj n (fun i=>int i64 (z i)) a;let c4:Prop:=0<1;let c5:AV:=rat (gD n (fun i=>int i64 (z i)) c9) 64;let c3:Option au:=some (au.mk false true 2 1 fun x=>agg [ak 1 n fun i=>int i64 (z i),int i64 (aR n c6)]);let c1:Int:=i64.wrap ((1:Int)+(cC n (fun i=>int i64 (z i)) c6 (3:Int)).tmod (3:Int));let c7:AV:=rat (↑c1:Rat) (Max.max 1 (bN c1.natAbs));let c2:List Prop:=[c4,dc n (fun i=>int i64 (z i)) c6,(0:Int)<3,(3:Int)<2^62,(3:Int)≠(0:Int),-(2:Int)^63<=c1,c1<2^63,c4];some (aj [dc n (fun i=>int i64 (z i)) a,c4] (fork b (aj [(0:Int)<=2/\(2:Int)<(↑(3:Nat):Int),c4] (aj c2 (aj [c4] (leaf ret ([agg [agg [c8,c5,agg [AV.bool false,mag 0,mag 0]],c7]],c3))))) (aj c2 (aj [c4] (leaf ret ([agg [agg [c8,c5,rat (gD n (fun i=>int i64 (z i)) (gR n (fun i=>int i64 (z i)) c9)) 64],c7]],c3)))))):=ah
theorem Tp:bq P Lq:=aI BK (aI agO (aI CG bB))
theorem abN:aU P (jD E2) 87:=by
 refine ua fun {k n z a l v b q o} K hg ho hd hq=>?_
 unfold E2 at hg
 split at hg
 ·rename_i b
  simp only[ay,Prod.mk.injEq]at hg
  obtain⟨rfl,rfl,rfl⟩:=hg
  refine BA hT Tp hm XP rfl rfl aV ho 60 afh (fun _=>?_) K
  have a1:=gJ (n:=n) (f:=fun i=>.int .i64 (z i)) (a:=jj n (fun i=>.int .i64 (z i)) a) (m:=3) aa
  have a2:=gT (n:=n) (f:=fun i=>.int .i64 (z i)) (a:=jj n (fun i=>.int .i64 (z i)) a) (m:=3) aa
  unfold pB
  generalize cC n (fun i=>.int .i64 (z i)) (jj n (fun i=>.int .i64 (z i)) a) 3=x at*
  have e1:x.tmod 3=x:=by rw[Int.tmod_eq_of_lt a1 a2]
  have e2:i64.wrap (1+x)=1+x:=wrap_i64 aa aa
  simp only[ag.all,az,e1,e2]
  have hw:bh (.rat ((1+x:Int):Rat) (max 1 (bN (1+x).natAbs))) (.rat ((1+x:Int):Rat) 64):=dU rfl (JV (y:=0) aa aa)
  refine⟨⟨hd,aa⟩,fun hb=>⟨aa,⟨aa,hd.z9,aa,aa,aa,aa,aa,aa⟩,aa,?_,_,rfl,rfl,oK rfl rfl⟩,fun hb=>⟨⟨aa,hd.z9,aa,aa,aa,aa,aa,aa⟩,aa,?_,_,rfl,rfl,oK rfl rfl⟩⟩
  ·rw[if_pos hb]
   exact cL ⟨cL ⟨.refl _,.refl _,tI (q:=(0:Rat)) ⟨by decide,by decide⟩ rfl rfl rfl,trivial⟩,hw,trivial⟩
  ·rw[if_neg (by rw[hb];decide)]
   exact cL ⟨.refl _,hw,trivial⟩
 ·simp at hg
def j0 (n:Nat) (f:Nat->AV) (a:Int):Nat->Int
 |0=>a
 |j+1=>ES n f (j0 n f a j)
theorem dc.ye {n:Nat} {f:Nat->AV} {a:Int} (h:dc n f a):∀j,dc n f (j0 n f a j)
 |0=>h
 |j+1=>(h.ye j).z9.next
theorem dc.fT {n:Nat} {f:Nat->AV} {a:Int} {p m:Nat} (h:dc n f a) (hp:1<=p):dc n f (gk n f a p m):=(sR h hp _).2
theorem uA {n:Nat} {f:Nat->AV} {a:Int} {m:Nat}:ig n f a m<=m:=by
 have h1:=gJ (n:=n) (f:=f) (a:=aR n a) (m:=m+1) aa
 have h2:=gT (n:=n) (f:=f) (a:=aR n a) (m:=m+1) aa
 unfold ig;omega
def Kw:aX:=[(208,iZ T (sG::oX) [] 60 f208)]
def Mx:aX:=[(161,iZ T (sG::Kw) [] 60 f161)]
def LJ:aX:=[(69,iZ T (sG::oX) [] 60 f69)]
theorem adE:bq P Kw:=aI (jn hT (kW qM) hm (aT func208) _ _) bB
theorem V8:bq P Mx:=aI (jn hT (kW adE) hm (aT func161) _ _) bB
theorem WG:bq P LJ:=aI (jn hT (kW qM) hm (aT func69) _ _) bB
theorem Yu:aW 96 f96:=aT func96
theorem Mh:aW 95 f95:=aT func95
theorem Lj:aW 27 f27:=aT func27
theorem IX:aW 16 f16:=aT func16
structure ny (s:Sf):Prop where
 ku:∀i,i<s.a->Sz (s.ku i) 2000
 kv:∀i,i<s.b->Sz (s.kv i) 2000
 x:∀i j,i<s.n->j<s.m->Sz (s.f i j).n.x 2000
 y:∀i j,i<s.n->j<s.m->Sz (s.f i j).n.y 2000
 z:∀i j,i<s.n->j<s.m->Sz (s.f i j).n.z 2000
 d:∀i j,i<s.n->j<s.m->Sz (s.f i j).d 2000
theorem ny.up {s:Sf} {x y:Nat} (h:ny s):bh (bu s x y) (bu s 2000 2000):=
 cL ⟨.refl _,.refl _,fB fun i hi=>dU rfl (h.ku i hi),fB fun i hi=>dU rfl (h.kv i hi),fB fun i hi=>fB fun j hj=>cL ⟨cL ⟨dU rfl (h.x i j hi hj),dU rfl (h.y i j hi hj),dU rfl (h.z i j hi hj),trivial⟩,dU rfl (h.d i j hi hj),trivial⟩,trivial⟩
theorem ny.swap {s:Sf} (h:ny s):ny (fU s):=⟨h.kv,h.ku,fun i j a b=>h.x j i b a,fun i j a b=>h.y j i b a,fun i j a b=>h.z j i b a,fun i j a b=>h.d j i b a⟩
def Nb:aX:=sG::(Mx++oX)
def Qv:Spec:=cA (kC (K8 2000) kN) (fun a=>bJ a.1 2100) fun _=>[]
def tD:aX:=nG::(96,Qv)::(116,CN 2000 2100)::[]
abbrev qv:List Nat:=[4,5,1,23,24,25]
abbrev zI (s:Sf) (i:Nat):List AV:=[.ptr 0 0 5 0 [],.ptr 1 0 5 0 [],.func 96 [],fN s.f s.n s.m 2000,.int .i64 s.n,.int .i64 i]
abbrev xW:List Nat:=[4,5,1,23,24,25,8,29,30,31]
abbrev Di (s:Sf) (i j:Nat):List AV:=[.ptr 0 0 5 0 [],.ptr 1 0 5 0 [],.func 96 [],fN s.f s.n s.m 2000,.int .i64 s.n,.int .i64 i,.own 3 12 0 j,aZ (s.f i) s.m 2000,.int .i64 s.m,.int .i64 j]
abbrev uT (s:Sf) (i:Nat):aC:=[(2,⟨true,true,1,i,fun i=>aZ (s.f i) s.m 2100⟩),(1,⟨false,true,5,1,fun _=>.agg [.int .i64 s.u,.int .i64 s.v,bD s.ku s.a 2100,bD s.kv s.b 2100,.own 2 1 0 i]⟩),(0,⟨false,true,5,1,fun _=>.agg [.int .i64 0,.int .i64 0,.nil,.nil,.nil]⟩)]
abbrev Fa (s:Sf) (i j:Nat):aC:=(3,⟨true,true,12,j,fun j=>bJ (s.f i j) 2100⟩)::uT s i
abbrev sn:Code:=aF f95
abbrev xL:Code:=part sn [1,1,0,1,0,0]
abbrev xk:Code:=part xL [1,1,0,0]
def KB:Spec:=cA (kC (ir 2000 2000) (kC (kF 96) kN)) (fun a=>bu a.1 2100 2100) fun a=>[a.1.a<2^28,a.1.b<2^28,a.1.n<2^28,a.1.m<2^28]
def A2:aX:=nG::(93,E8)::(95,KB)::(97,BO)::[]
def OX:Spec:=cA (kC (ir 2000 2000) kN) (fun a=>bu (fU a.1) 2000 2000) fun a=>[a.1.n=0->a.1.m=0,a.1.a<2^28,a.1.b<2^28,a.1.n<2^28,a.1.m<2^28,ny a.1]
theorem Ve {p:Pl}:bU T Nb [] 60 f96 (aF f96) ⟨aQ 0 [bJ p 2000],[],0⟩=
  let c1:Prop:=0<1;some (aj [c1,c1] (aj [c1] (leaf ret [agg [agg [rat (p.n.x+0) 2002,rat (p.n.y+0) 2002,rat (p.n.z+0) 2002],rat (p.d+0) 2002]]))):=ah
theorem afd {s:Sf}:aH T tD [] 60 qv (before sn [1,1,0,1]) ⟨aQ 0 [bu s 2000 2000,.func 96 []],[],0⟩=
  let c5:AV:=int i64 0;let c4:Prop:=2000+10<=2100;let c3:Nat:=2^40;let c2:Prop:=0<1;let c1:AV:=agg [c5,c5,nil,nil,nil];some (aj [c2,c2,c2,bn (fun i=>rat (s.ku i) 2000) s.a 2000,c4,(2100:Nat)<c3,s.a<c3,c2,bn (fun i=>rat (s.kv i) 2000) s.b 2000,c4,(2100:Nat)<c3,s.b<c3,c2] (aj [c2] (leaf normal ([ptr 4096 0 5 0 [],ptr 53248 0 5 0 [],func 96 [],ak 1 s.n fun i=>ak 12 s.m fun i_1=>bJ (s.f i i_1) 2000,int i64 (↑s.n:Int),c5],[(53248,au.mk false true 5 1 fun j=>if(j==0)=true then bp (agg ((((c1.kids.set 0 (bp (int i64 s.u))).set 1 (bp (int i64 s.v))).set 2 (bp (bD (fun i=>aE (rat (s.ku i) 2000)) s.a 2100))).set 3 (bp (bD (fun i=>aE (rat (s.kv i) 2000)) s.b 2100))))else c1),(4096,au.mk false true 5 1 fun x=>c1)])))):=ah
theorem adR {s:Sf} {i:Nat}:aH T tD [26] 60 qv (before xL [1,1,0]) ⟨aA qv (zI s i),uT s i,3⟩=
  let c1:List AV×aC:=([ptr 0 0 5 0 [],ptr 1 0 5 0 [],func 96 [],ak 1 s.n fun i=>ak 12 s.m fun i_1=>bJ (s.f i i_1) 2000,int i64 (↑s.n:Int),int i64 (↑i:Int)],[(2,au.mk true true 1 i fun i=>ak 12 s.m fun i_1=>bJ (s.f i i_1) 2100),(1,au.mk false true 5 1 fun x=>agg [int i64 s.u,int i64 s.v,ak 3 s.a fun i=>rat (s.ku i) 2100,ak 3 s.b fun i=>rat (s.kv i) 2100,own 2 1 0 i]),(0,au.mk false true 5 1 fun x=>agg [int i64 0,int i64 0,nil,nil,nil])]);some (fork (decide ((↑i:Int)<(↑s.n:Int))) (leaf normal c1) (leaf (exit 0) c1)):=ah
theorem UN {s:Sf} {i:Nat}:aH T tD [] 60 xW (before xk [1,1,0,1]) ⟨aA qv (zI s i),uT s i,3⟩=
  let c2:AV:=int i64 0;let c1:Nat:=(↑i:Int).toNat;some (aj [(0:Int)<=(↑i:Int)/\c1<s.n] (leaf normal ([ptr 0 0 5 0 [],ptr 1 0 5 0 [],func 96 [],ak 1 s.n fun i=>ak 12 s.m fun i_1=>bJ (s.f i i_1) 2000,int i64 (↑s.n:Int),int i64 (↑i:Int),nil,ak 12 s.m fun i=>bJ (s.f c1 i) 2000,int i64 (↑s.m:Int),c2],[(2,au.mk true true 1 i fun i=>ak 12 s.m fun i_1=>bJ (s.f i i_1) 2100),(1,au.mk false true 5 1 fun x=>agg [int i64 s.u,int i64 s.v,ak 3 s.a fun i=>rat (s.ku i) 2100,ak 3 s.b fun i=>rat (s.kv i) 2100,own 2 1 0 i]),(0,au.mk false true 5 1 fun x=>agg [c2,c2,nil,nil,nil])]))):=ah
theorem Rh {s:Sf} {i j:Nat}:aH T tD [32] 60 xW [part xk [1,1,0,1,0,0]] ⟨aA xW (Di s i j),Fa s i j,4⟩=
  let c11:Prop:=2000<=2000;let c10:Int:=(↑s.m:Int);let c8:AV:=ptr 1 0 5 0 [];let c7:AV:=ptr 0 0 5 0 [];let c6:AV:=rat 0 1;let c5:Int:=(↑j:Int);let c4:AV:=ak 12 s.m fun i_1=>bJ (s.f i i_1) 2000;let c3:AV:=ak 1 s.n fun i=>ak 12 s.m fun i_1=>bJ (s.f i i_1) 2000;let c2:Nat×au:=(2,au.mk true true 1 i fun i=>ak 12 s.m fun i_1=>bJ (s.f i i_1) 2100);let c1:List (Nat×au):=[(1,au.mk false true 5 1 fun x=>agg [int i64 s.u,int i64 s.v,ak 3 s.a fun i=>rat (s.ku i) 2100,ak 3 s.b fun i=>rat (s.kv i) 2100,own 2 1 0 i]),(0,au.mk false true 5 1 fun x=>agg [int i64 0,int i64 0,nil,nil,nil])];let c12:Int:=c5+1;let c9:Pl:=s.f i c5.toNat;some (fork (decide (c5<c10)) (aj [(0:Int)<=c5/\c5.toNat<s.m,(0:Nat)<1] (aj [(0:Nat)<1,c11,c11,Max.max 2000 2000<=2000,(1:Nat)*12<=2^24,(j+1)*((224:Nat)+1)*2<=2^47] (aj [-(2:Int)^63<=c12/\c12<2^63] (leaf normal ([c7,c8,func 96 [],c3,int i64 (↑s.n:Int),int i64 (↑i:Int),own 40964 12 0 (j+1),c4,int i64 c10,int i64 c12],c2::(40964,au.mk true true 12 (j+1) fun i_1=>if i_1<j then bJ (s.f i i_1) 2100 else nth [bJ c9 2100] (agg [agg [c6,c6,c6],c6]) (i_1-j+0))::c1))))) (leaf (exit 2) ([c7,c8,func 96 [],c3,int i64 (↑s.n:Int),int i64 (↑i:Int),own 3 12 0 j,c4,int i64 c10,int i64 c5],c2::(3,au.mk true true 12 j fun j=>bJ (s.f i j) 2100)::c1))):=ah
theorem ahd {s:Sf} {i j:Nat}:aH T tD [] 60 qv (behind xk [1,1,0,1]++[part xL [1,1,1]]) ⟨aA xW (Di s i j),Fa s i j,4⟩=
  let c2:Int:=(↑i:Int)+1;let c1:AV:=agg [int i64 s.u,int i64 s.v,bD s.ku s.a 2100,bD s.kv s.b 2100,own 2 1 0 i];some (aj [(0:Nat)<1,(1:Nat)*1<=2^24,(i+1)*((24:Nat)+1)*2<=2^47,(0:Nat)<1] (aj [-(2:Int)^63<=c2/\c2<2^63] (leaf normal ([ptr 0 0 5 0 [],ptr 1 0 5 0 [],func 96 [],ak 1 s.n fun i=>ak 12 s.m fun i_1=>bJ (s.f i i_1) 2000,int i64 (↑s.n:Int),int i64 c2],[(16388,au.mk true true 1 (i+1) fun i_1=>if i_1<i then aZ (s.f i_1) s.m 2100 else nth [ak 12 j fun i_2=>bJ (s.f i (i_2+0)) 2100] nil (i_1-i+0)),(1,au.mk false true 5 1 fun j=>if(j==0)=true then agg (c1.kids.set 4 (bp (own (nat_lit 16387+1) 1 0 (i+1))))else c1),(0,au.mk false true 5 1 fun x=>agg [int i64 0,int i64 0,nil,nil,nil])])))):=ah
theorem ab3 {s:Sf} {i:Nat}:cy T tD [] 60 f95 [part sn [1,1,1]] ⟨aA qv (zI s i),uT s i,3⟩=
  let c1:Prop:=0<1;some (aj [c1,c1] (aj [c1] (leaf ret [agg [int i64 s.u,int i64 s.v,ak 3 s.a fun i=>rat (s.ku i) 2100,ak 3 s.b fun i=>rat (s.kv i) 2100,ak 1 i fun i=>ak 12 s.m fun i_1=>bJ (s.f (i+0) i_1) 2100]]))):=ah
theorem Sm {s:Sf}:aH T A2 [] 60 [1,2] (before (aF f27) [1]) ⟨aQ 0 [bu s 2000 2000],[],0⟩=
  let c1:Nat:=(bp (bu s 2000 2000)).size;some (leaf normal ([ptr 0 0 c1 0 [],ptr 4096 0 5 0 []],[(4096,au.mk false true 5 1 fun x=>agg [int i64 0,int i64 0,nil,nil,nil]),(0,au.mk false true c1 1 fun x=>bu s 2000 2000)])):=ah
theorem ahD {s:Sf}:cy T A2 [100008] 60 f27 [part (aF f27) [1]] ⟨aA [1,2] [.bg (bu s 2000 2000),.ptr 1 0 5 0 []],[(1,⟨false,true,5,1,fun _=>.agg [.int .i64 0,.int .i64 0,.nil,.nil,.nil]⟩),(0,⟨false,false,5,1,fun _=>bu s 2000 2000⟩)],2⟩=
  let c5:Prop:=dG (fun i=>aZ (s.f i) s.m 2000) s.n sJ;let c3:Prop:=0<1;let c2:Nat:=2^28;let c1:Nat:=dn (aZ (s.f 0) s.m 2000);let c4:Nat:=dn (aZ (fq (fun i=>aZ (s.f i) s.m 2000) 0) c1 2100);some (aj [decide ((↑s.n:Int)>0)=true,c5,bn (fun i=>rat (s.ku i) 2000) s.a sJ,bn (fun i=>rat (s.kv i) 2000) s.b sJ,c5,s.n<2^40,v5 c1 94 (Sf.mk s.u s.v s.a (fun i=>aE (rat (s.ku i) 2000)) s.b (fun i=>aE (rat (s.kv i) 2000)) s.n c1 (fq fun i=>aZ (s.f i) s.m 2000))] (aj [bn (fun i=>rat (s.ku i) 2000) s.a 2000,bn (fun i=>rat (s.kv i) 2000) s.b 2000,dG (fun i=>aZ (s.f i) s.m 2000) s.n 2000,s.a<c2,s.b<c2,s.n<c2,c1<c2,c3] (aj [c3,c3,c3,dG (fun i=>aZ (fq (fun i=>aZ (s.f i) s.m 2000) i) c1 2100) s.n 2100,s.n=0->c4=0,s.n<c2,c4<c2,c3] (aj [c3] (leaf ret [agg [int i64 s.v,int i64 s.u,ak 3 s.b fun i=>rat (aE (rat (s.kv i) 2000)) 2100,ak 3 s.a fun i=>rat (aE (rat (s.ku i) 2000)) 2100,ak 1 c4 fun i=>ak 12 s.n fun i_1=>agg [agg [rat (aE (rat (aE (rat (s.f i_1 i).n.x 2000)) 2100)) 2100,rat (aE (rat (aE (rat (s.f i_1 i).n.y 2000)) 2100)) 2100,rat (aE (rat (aE (rat (s.f i_1 i).n.z 2000)) 2100)) 2100],rat (aE (rat (aE (rat (s.f i_1 i).d 2000)) 2100)) 2100]]]))))):=ah
theorem WW {s:Sf}:cy T A2 [200008] 60 f27 [part (aF f27) [1]] ⟨aA [1,2] [.bg (bu s 2000 2000),.ptr 1 0 5 0 []],[(1,⟨false,true,5,1,fun _=>.agg [.int .i64 0,.int .i64 0,.nil,.nil,.nil]⟩),(0,⟨false,false,5,1,fun _=>bu s 2000 2000⟩)],2⟩=
  let c4:Nat:=dn (aZ (s.f 0) s.m 2000);let c3:Prop:=0<1;let c2:Nat:=2^28;let c1:Nat:=dn (aZ (fq (fun i=>aZ (s.f i) s.m 2000) 0) c4 2100);some (aj [decide ((↑s.n:Int)>0)=false] (aj [bn (fun i=>rat (s.ku i) 2000) s.a 2000,bn (fun i=>rat (s.kv i) 2000) s.b 2000,dG (fun i=>aZ (s.f i) s.m 2000) s.n 2000,s.a<c2,s.b<c2,s.n<c2,c4<c2,c3] (aj [c3,c3,c3,dG (fun i=>aZ (fq (fun i=>aZ (s.f i) s.m 2000) i) c4 2100) s.n 2100,s.n=0->c1=0,s.n<c2,c1<c2,c3] (aj [c3] (leaf ret [agg [int i64 s.v,int i64 s.u,ak 3 s.b fun i=>rat (aE (rat (s.kv i) 2000)) 2100,ak 3 s.a fun i=>rat (aE (rat (s.ku i) 2000)) 2100,ak 1 c1 fun i=>ak 12 s.n fun i_1=>agg [agg [rat (aE (rat (aE (rat (s.f i_1 i).n.x 2000)) 2100)) 2100,rat (aE (rat (aE (rat (s.f i_1 i).n.y 2000)) 2100)) 2100,rat (aE (rat (aE (rat (s.f i_1 i).n.z 2000)) 2100)) 2100],rat (aE (rat (aE (rat (s.f i_1 i).d 2000)) 2100)) 2100]]]))))):=ah
theorem S7:bq P Nb:=kW (zM V8 qM)
theorem aaP:aU P Qv 96:=ct fun⟨p,_⟩ K _=>by
 refine bX (r:=aJ (bJ p 2100) []) hT S7 hm Yu rfl aV rfl 60 (Ve (p:=p)) (fun _=>?_) K []
 simp only[ag.all,az]
 exact⟨⟨aa,aa⟩,aa,cL ⟨cL ⟨cB (Rat.add_zero _) (by decide),cB (Rat.add_zero _) (by decide),cB (Rat.add_zero _) (by decide),trivial⟩,cB (Rat.add_zero _) (by decide),trivial⟩⟩
theorem Qb:bq P tD:=cz (aI aaP (aI (He _ _) bB))
theorem Ud {s:Sf} {c:Ctx} {Q:aq->aK->Prop} (h1:s.a<2^28) (h2:s.b<2^28) (h3:s.n<2^28) (h4:s.m<2^28) (hk:Kept [] c) (hQ:ax P c f95.ntmps (part sn [1,1,1]) ⟨aA qv (zI s s.n),uT s s.n,3⟩ Q):
  ax P c f95.ntmps sn ⟨aQ 0 [bu s 2000 2000,.func 96 []],[],0⟩ Q:=by
 have hv:∀{rl:List (Nat×Nat)} {a l:Nat} {u:AV},u.isTuple=false->gz (bC rl) u (.own 2 1 0 l)->ia rl (.agg [.int .i64 s.u,.int .i64 s.v,bD s.ku s.a 2100,bD s.kv s.b 2100,u]) (.agg [.int .i64 s.u,.int .i64 s.v,bD s.ku s.a 2100,bD s.kv s.b 2100,.own 2 1 0 l]):=
  fun h5 h6=>nF ⟨aL,aL,aL,aL,⟨h5,h6⟩,trivial⟩
 refine ax.r6 hT Qb hm (x:=sn) [1,1,0,1] (i:=0) (y:=xL) (z:=part sn [1,1,1]) ah ah ah Mh.dst [1,1,0] (j:=1) (x1:=xk) (zb:=part xL [1,1,1]) ah ah ah [1,1,0,1] (i2:=2) (y2:=part xk [1,1,0,1,0,0]) ah ah rfl
  hk (f1:=[]) (f2:=[26]) (f3:=[]) (f4:=[32]) (f5:=[]) 60 qv xW 3 4 (fun i:Nat=>zI s i) (fun i=>uT s i) (fun i=>i<=s.n) (fun i=>i=s.n) (fun i=>s.n-i) (fun i=>i<s.n) (fun _=>False) (fun _=>False)
  (fun i (j:Nat)=>Di s i j) (fun i j=>Fa s i j) (fun _ j=>j<=s.m) (fun _ j=>j=s.m) (fun _ j=>s.m-j) ⟨_,afd,?_⟩ (fun i hi=>⟨_,adR,?_⟩) (fun i hi hg=>⟨_,UN,?_⟩) (fun i hi hg j hj=>⟨_,Rh,?_⟩) (fun i hi hg j hj=>⟨_,ahd,?_⟩) (fun i hi=>?_) (fun _ _ h=>h.elim) (fun _ _ h=>h.elim)
 all_goals try simp only[ag.all,az,bk,bt,bf,Nat.add_zero]
 ·exact⟨⟨aa,aa,aa,bI bz,aa,aa,aa,aa,bI bz,aa,aa,aa,aa⟩,aa,0,Nat.zero_le _,[(0,4096),(1,53248)],rfl,rfl,rfl,ko rfl aa aa (dh rfl rfl (hv (a:=0) rfl (qc aa)) (aM trivial))⟩
 ·exact⟨fun h=>⟨aa,[(0,0),(1,1),(2,2)],rfl,rfl,rfl,dQ (dh rfl rfl (hv (a:=0) rfl (cP rfl rfl rfl)) (aM trivial))⟩,fun h=>⟨rfl,i,aa,[(0,0),(1,1),(2,2)],rfl,rfl,rfl,dQ (dh rfl rfl (hv (a:=0) rfl (cP rfl rfl rfl)) (aM trivial))⟩⟩
 ·exact⟨aa,0,Nat.zero_le _,[(0,0),(1,1),(2,2)],rfl,rfl,rfl,ko rfl aa aa (dQ (dh rfl rfl (hv (a:=0) rfl (cP rfl rfl rfl)) (aM trivial)))⟩
 ·refine⟨fun h=>⟨⟨aa,aa⟩,⟨aa,aa,aa,by decide,aa,aa⟩,aa,j+1,aa,by dsimp only;omega,[(0,0),(1,1),(2,2),(3,40964)],rfl,rfl,rfl,b7 rfl rfl rfl (fun k hk=>OW (y:=fun j=>s.f i j) (fun _ _=>rfl) (.refl _) rfl bz bz hk) (dQ (dh rfl rfl (hv (a:=0) rfl (cP rfl rfl rfl)) (aM trivial)))⟩,
   fun h=>⟨rfl,j,aa,[(0,0),(1,1),(2,2),(3,3)],rfl,rfl,rfl,dQ (dQ (dh rfl rfl (hv (a:=0) rfl (cP rfl rfl rfl)) (aM trivial)))⟩⟩
 ·subst hj
  exact⟨⟨aa,aa,aa,aa⟩,aa,i+1,aa,by dsimp only;omega,[(0,0),(1,1),(2,16388)],rfl,rfl,rfl,b7 rfl rfl rfl (fun k hk=>rowAt (g:=fun i=>aZ (s.f i) s.m 2100) hk rfl rfl) (dh rfl rfl (hv (a:=0) rfl (cP rfl rfl rfl)) (aM trivial))⟩
 ·subst hi
  exact hQ
theorem QN {s:Sf} (h1:s.a<2^28) (h2:s.b<2^28) (h3:s.n<2^28) (h4:s.m<2^28) (K:Nat):aS P 95 K [bu s 2000 2000,.func 96 []] [] (aJ (bu s 2100 2100) []):=by
 refine fX (r:=aJ (bu s 2100 2100) []) hT Mh rfl aV rfl (fun _ cx h00=>Ud h1 h2 h3 h4 (jk h00) ?_) K []
 refine ax.gZ ((aG.fin hT Qb hm 60 ab3 ah ?_).mono fun _ _ h=>.inl h)
 simp only[ag.all,az]
 exact⟨⟨aa,aa⟩,aa,.refl _⟩
theorem acC:aU P KB 95:=ct fun⟨s,_,_⟩ K hn=>QN hn.1 hn.2.1 hn.2.2.1 hn.2.2.2 K
theorem E4:bq P A2:=cz (aI Lh (aI acC (aI Fz bB)))
theorem abr:aU P OX 27:=ct fun⟨s,_⟩ K hn=>by
 obtain⟨n1,n2,n3,n4,n5,n6⟩:(s.n=0->s.m=0)/\s.a<2^28/\s.b<2^28/\s.n<2^28/\s.m<2^28/\ny s:=hn
 refine fX (r:=aJ (bu (fU s) 2000 2000) []) hT Lj rfl aV rfl (fun _ cx h00=>?_) K []
 have hk:=jk h00
 refine ax.hole [1] ah (aG.bE hT E4 hm 60 [1,2] Sm (jM Lj.dst) ?_)
 intro s' hs'
 show ax _ _ _ (part (aF f27) [1]) s' _
 rw[show behind (aF f27) [1]=[]from by kernel_rfl]
 refine ax.ja (s2:=⟨aA [1,2] [.ptr 0 0 5 0 [],.ptr 1 0 5 0 []],[(1,⟨false,true,5,1,fun _=>.agg [.int .i64 0,.int .i64 0,.nil,.nil,.nil]⟩),(0,⟨false,true,5,1,fun _=>bu s 2000 2000⟩)],2⟩) (dN.le ⟨[(0,0),(1,4096)],rfl,rfl,rfl,aM (aM trivial)⟩ hs' hk) ((?_:ax P cx f27.ntmps (part (aF f27) [1]) _ (dH cx (Fin T f27 (bu (fU s) 2000 2000)))).mono fun e s' h=>by cases e<;>exact h)
 refine ax.tE (t:=1) (k:=0) rfl rfl rfl rfl rfl ?_
 have lv:dn (aZ (s.f 0) s.m 2000)=s.m:=rfl
 have lv2:dn (aZ (fq (fun i=>aZ (s.f i) s.m 2000) 0) s.m 2100)=s.m:=rfl
 rcases Nat.eq_zero_or_pos s.n with h0|h0
 ·refine ax.gZ ((aG.fin hT E4 hm 60 WW ah ?_).mono fun _ _ h=>.inl h)
  simp only[ag.all,az,lv,lv2]
  (repeat' with_reducible refine And.intro ?_ ?_)
  all_goals first|omega|exact decide_eq_false aa|exact bI (by decide)|exact fc (by decide)|skip
  exact n6.swap.up (x:=2100) (y:=2100)
 refine ax.gZ ((aG.fin hT E4 hm 60 ahD ah ?_).mono fun _ _ h=>.inl h)
 simp only[ag.all,az,lv,lv2]
 (repeat' with_reducible refine And.intro ?_ ?_)
 all_goals first|omega|exact decide_eq_true aa|exact bI (by decide)|exact fc (by decide)|exact .inr ⟨rfl,rfl,h0⟩|skip
 exact n6.swap.up (x:=2100) (y:=2100)
theorem de.swap {s:Sf} (h:de s):de (fU s):=⟨h.kv,h.ku,h.v0,h.v6,h.u0,h.u6,h.b,h.a,h.m,h.n,fun i j hi hj=>h.w j i hj hi⟩
theorem Ko {n:Nat} {k:Nat->Rat} {i m:Nat} (h:At n k i) {t:Rat} (hk:∀x,i+1<=x->x<=i+m->k x=t):∀{d:Nat},d<=i->d<=m->∀j,vB k i t d j=if j=d then 1 else 0
 |0,_,_,j=>by unfold vB;rfl
 |d+1,hd,hm,j=>by
  have ih:=Ko h hk (d:=d) (by omega) (by omega)
  have e1:fr (k i) t t=1:=MA (by have:=h.wide;have:=hk (i+1) (by omega) (by omega);grind)
  cases j with
  |zero=>
   rw[vI,ih]
   by_cases h0:d=0
   ·subst h0
    rw[if_pos rfl,if_neg (by omega),show i-0=i by omega,show i+(0+1)=i+1 by omega,hk (i+1) (by omega) (by omega),e1];grind
   ·rw[if_neg (by omega),if_neg (by omega)];grind
  |succ j=>
   rw[pR,ih j,ih (j+1)]
   by_cases hj:j=d
   ·have q1:(if j=d then(1:Rat)else 0)=1:=if_pos hj
    have q2:(if j+1=d then(1:Rat)else 0)=0:=if_neg (by omega)
    have q3:(if j+1=d+1 then(1:Rat)else 0)=1:=if_pos (by omega)
    rw[q1,q2,q3,show i-d+j=i by omega,hk (i+(d+1)) (by omega) (by omega),e1];grind
   ·have q1:(if j=d then(1:Rat)else 0)=0:=if_neg hj
    have q3:(if j+1=d+1 then(1:Rat)else 0)=0:=if_neg (by omega)
    rw[q1,q3]
    by_cases hj2:j+1=d
    ·rw[if_pos hj2,show i-d+(j+1)=i by omega,hk (i+(d+1)) (by omega) (by omega),e1];grind
    ·rw[if_neg hj2];grind
theorem NB {k:Nat->Rat} {i m:Nat} {t:Rat} (hm:m<=i+1) (hk:∀x,x<=i->i<x+m->k x=t):∀{d:Nat},d<=m->∀j,vB k i t d j=if j=0 then 1 else 0
 |0,_,j=>by unfold vB;rfl
 |d+1,hd,j=>by
  have ih:=NB hm hk (d:=d) (by omega)
  cases j with
  |zero=>
   rw[vI,ih 0,if_pos rfl,hk (i-d) (by omega) (by omega),GI];grind
  |succ j=>
   have q2:(if j+1=0 then(1:Rat)else 0)=0:=if_neg (by omega)
   rw[pR,ih j,ih (j+1),q2]
   by_cases hj:j=0
   ·subst hj
    rw[Nat.add_zero,hk (i-d) (by omega) (by omega),GI];grind
   ·have q1:(if j=0 then(1:Rat)else 0)=0:=if_neg hj
    rw[q1];grind
theorem Ql {n:Nat} {k:Nat->Rat} {i m:Nat} (h:At n k i) {t:Rat} (hm:1<=m) (hk:∀x,i+1<=x->x<=i+m->k x=t):∀e,m+e<=i->(∀j,j<m->vB k i t (m+e) j=0)/\∀j,vB k i t (m+e) (j+m)=vB k (i+m) t (m+e) j
 |0,he=>by
  have r:=Ko h hk (d:=m) (by omega) (Nat.le_refl _)
  have l:=NB (k:=k) (i:=i+m) (m:=m) (t:=t) (by omega) (fun x h1 h2=>hk x (by omega) h1) (d:=m) (Nat.le_refl _)
  refine⟨fun j hj=>?_,fun j=>?_⟩
  ·rw[Nat.add_zero,r,if_neg (by omega)]
  ·rw[Nat.add_zero,r,l]
   by_cases hj:j=0
   ·subst hj;rw[if_pos (by omega),if_pos rfl]
   ·rw[if_neg (by omega),if_neg hj]
 |e+1,he=>by
  obtain⟨z,s⟩:=Ql h hm hk e (by omega)
  have z2:∀j,j<m->vB k i t (m+(e+1)) j=0:=fun j hj=>by
   rw[show m+(e+1)=m+e+1 by omega]
   cases j with
   |zero=>rw[vI,z 0 (by omega)];grind
   |succ j=>rw[pR,z j (by omega),z (j+1) hj];grind
  refine⟨z2,fun j=>?_⟩
  rw[show m+(e+1)=m+e+1 by omega]
  cases j with
  |zero=>
   rw[vI,Nat.zero_add]
   obtain⟨q,rfl⟩:∃q,m=q+1:=⟨m-1,by omega⟩
   rw[pR,z q (by omega)]
   have s0:=s 0
   rw[Nat.zero_add]at s0
   rw[s0,show i-(q+1+e)+(q+1)=i+(q+1)-(q+1+e) by omega];grind
  |succ j=>
   rw[show j+1+m=j+m+1 by omega,pR,pR,s j]
   have s1:=s (j+1)
   rw[show j+1+m=j+m+1 by omega]at s1
   rw[s1,show i-(m+e)+(j+m)=i+m-(m+e)+j by omega,show i-(m+e)+(j+m+1)=i+m-(m+e)+(j+1) by omega]
theorem GU {f:Nat->Rat} {a:Nat}:∀{b:Nat},cj (a+b) f=cj a f+cj b fun j=>f (a+j)
 |0=>by simp only[Nat.add_zero,cj];grind
 |b+1=>by rw[show a+(b+1)=a+b+1 by omega,cj,GU,cj];grind
theorem ZI {n p:Nat} {k:Nat->Rat} (h:Kn n p k) {t:Rat} {P:Nat} (hP:p<=P) (hP2:P+p+1<n) (hw:k P<k (P+1)) (h0:k P<=t) (h1:t<=k (P+1)) {i:Nat} (hi:Bv n k t i) (hip:p<=i) (hip2:i+p+1<n) {c:Nat->Rat}:
  cj (p+1) (fun j=>c (P-p+j)*vB k P t p j)=cj (p+1) fun j=>c (i-p+j)*vB k i t p j:=by
 have hp:=h.p1
 have hiw:=hi.at_.wide
 have hge:P<=i:=by
  rcases Nat.lt_or_ge i P with hlt|hge
  ·exfalso
   have a1:=h.mono (show i+1<=P by omega) (show P<n by omega)
   have a2:=hi.hi
   have a3:=h.mono (show P+1<=n-1 by omega) (show n-1<n by omega)
   rcases hi.Fg with e|e<;>grind
  ·exact hge
 rcases Nat.lt_or_ge P i with hlt|hle
 ·obtain⟨m,rfl⟩:∃m,i=P+m:=⟨i-P,by omega⟩
  have hlo:=hi.lo
  have heq:∀x,P+1<=x->x<=P+m->k x=t:=fun x g1 g2=>by
   have a1:=h.mono g1 (show x<n by omega)
   have a2:=h.mono g2 (show P+m<n by omega)
   grind
  have hmp:m<=p:=by
   rcases Nat.lt_or_ge p m with hh|hh
   ·exfalso
    have a1:=h.mult (P+1) (by omega) (by omega)
    have a2:=heq (P+1) (by omega) (by omega)
    have a3:=heq (P+1+p) (by omega) (by omega)
    grind
   ·exact hh
  obtain⟨e,rfl⟩:∃e,p=m+e:=⟨p-m,by omega⟩
  obtain⟨z,s⟩:=Ql ⟨by omega,h.sorted,hw⟩ (m:=m) (by omega) heq e (by omega)
  rw[show m+e+1=m+(e+1) by omega,GU,DK (n:=m) fun j hj=>by rw[z j hj];grind]
  rw[show m+(e+1)=(e+1)+m by omega,GU (a:=e+1) (b:=m),DK (n:=m) (f:=fun j=>c (P+m-(m+e)+(e+1+j))*vB k (P+m) t (m+e) (e+1+j))]
  ·have:∀j,j<e+1->c (P-(m+e)+(m+j))*vB k P t (m+e) (m+j)=c (P+m-(m+e)+j)*vB k (P+m) t (m+e) j:=fun j hj=>by
    rw[show m+j=j+m by omega,s j,show P-(m+e)+(j+m)=P+m-(m+e)+j by omega]
   rw[rB this];grind
  ·intro j hj
   have:=s (e+1+j)
   rw[vZ (d:=m+e) (by omega)]at this
   rw[<-this];grind
 ·have:i=P:=by omega
  subst this
  rfl
def eZ (k:Nat->Rat) (j:Nat):Nat->Int
 |0=>-1
 |l+1=>if k (j+l)=k (j+l+1)then eZ k j l else(j+l:Nat)
theorem Me {k:Nat->Rat} {j:Nat}:∀{l:Nat},k j≠k (j+l)->∃P:Nat,eZ k j l=(P:Int)/\j<=P/\P<j+l/\k P≠k (P+1)
 |0,h=>absurd rfl h
 |l+1,h=>by
  unfold eZ
  by_cases he:k (j+l)=k (j+l+1)
  ·rw[if_pos he]
   obtain⟨P,h1,h2,h3,h4⟩:=Me (k:=k) (j:=j) (l:=l) (by rw[he];exact h)
   exact⟨P,h1,h2,by omega,h4⟩
  ·rw[if_neg he]
   exact⟨j+l,rfl,by omega,by omega,he⟩
theorem Kn.piece {n p:Nat} {k:Nat->Rat} (h:Kn n p k) {j:Nat} (hj:j+p+1<n):∃P:Nat,eZ k j (p+1)=(P:Int)/\j<=P/\P<=j+p/\k P<k (P+1)/\p<=P/\P+p+1<n:=by
 have hp:=h.p1
 have hne:k j≠k (j+(p+1)):=by
  have hlt:k j<k (j+(p+1)):=by
   by_cases h0:j=0
   ·subst h0
    have hl:=h.len
    have a1:=h.mult 1 (by omega) (by omega)
    rw[h.first 1 (by omega),show 1+p=0+(p+1) by omega]at a1
    exact a1
   ·have a1:=h.mult j (by omega) (by omega)
    have a2:=h.mono (show j+p<=j+(p+1) by omega) (by omega)
    grind
  grind
 obtain⟨P,h1,h2,h3,h4⟩:=Me hne
 have hs:=h.sorted P (by omega)
 refine⟨P,h1,h2,by omega,by grind,?_,?_⟩
 ·rcases Nat.lt_or_ge P p with hh|hh
  ·exact absurd (by rw[h.first P (by omega),h.first (P+1) (by omega)]) h4
  ·exact hh
 ·rcases Nat.lt_or_ge (P+p+1) n with hh|hh
  ·exact hh
  ·exact absurd (by rw[h.last P (by omega) (by omega),h.last (P+1) (by omega) (by omega)]) h4
theorem Ll {k:Nat->Rat} {c:Nat}:∀{l a:Nat},bZ (fun i=>k (c+i)) a l=bZ k (c+a) l
 |0,_=>rfl
 |l+1,a=>by rw[bZ,bZ,Ll];rfl
theorem um {f g:Nat->Rat}:∀{l a:Nat},(∀i,a<=i->i<a+l->f i=g i)->bZ f a l=bZ g a l
 |0,_,_=>rfl
 |l+1,a,h=>by rw[bZ,bZ,h a (by omega) (by omega),um fun i h1 h2=>h i (by omega) (by omega)]
variable {k:Nat->Rat} {b p:Nat}
theorem U3 {a c u v f:Rat}:fr a c (u+f*(v-u))=fr a c u+f*(fr a c v-fr a c u):=by
 unfold fr
 rw[Rat.div_def,Rat.div_def (u-a),Rat.div_def (v-a)]
 generalize (c-a)⁻¹=q
 grind
theorem GO {f:Rat}:∀{l:List Rat} {r:Nat} {x y:Nat->Rat} {j:Nat},bl k b p r (fun j=>x j+f*(y j-x j)) l j=bl k b p r x l j+f*(bl k b p r y l j-bl k b p r x l j)
 |[],_,_,_,_=>rfl
 |t::l,r,x,y,j=>by
  rw[bl,bl,bl,<-GO (l:=l)]
  congr 1
  funext j
  unfold gm
  split<;>grind
theorem Og {u v f:Rat} {l:List Rat} {x:Nat->Rat} (hl:l.length+1=p):bl k b p 0 x ((u+f*(v-u))::l) p=bl k b p 0 x (u::l) p+f*(bl k b p 0 x (v::l) p-bl k b p 0 x (u::l) p):=by
 rw[bl,bl,bl,<-GO]
 refine Cb (by omega) fun j h1 _=>?_
 simp only[gm]
 rw[if_pos (by omega),if_pos (by omega),if_pos (by omega),U3];grind
theorem C0 {a c t:Rat} (h:a<c):a+fr a c t*(c-a)=t:=by rw[nK h];grind
def dg (k:Nat->Rat) (t:Rat) (q j:Nat):Rat:=if j<q then k j else if j=q then t else k (j-1)
theorem gv {t:Rat} {q j:Nat} (h:j<q):dg k t q j=k j:=if_pos h
theorem k7 {t:Rat} {q:Nat}:dg k t q q=t:=by unfold dg;rw[if_neg (by omega),if_pos rfl]
theorem hH {t:Rat} {q j:Nat} (h:q<j):dg k t q j=k (j-1):=by unfold dg;rw[if_neg (by omega),if_neg (by omega)]
theorem Hq {f g:Nat->Rat}:∀{l a:Nat},(∀i,a+1<=i->i<a+1+l->f i=g (i-1))->bZ f (a+1) l=bZ g a l
 |0,_,_=>rfl
 |l+1,a,h=>by
  rw[bZ,bZ,h (a+1) (Nat.le_refl _) (by omega),Hq (l:=l) (a:=a+1) fun i h1 h2=>h i (by omega) (by omega)];rfl
theorem tv {n:Nat} {P J:Nat} {x:Nat->Rat} (h:At n k P) (hP:p<=P) (hP2:P+p<n) (h1:P<=J+p) (h2:J<=P):bl k (P-p) p 0 (fun q=>x (P-p+q)) (bZ k (J+1) p) p=x J:=by
 have:=acV (k:=k) (b:=P-p) (p:=p) (n:=n) (by rwa [show P-p+p=P by omega]) (by omega) (J:=J-(P-p)) (by omega) (x:=fun q=>x (P-p+q))
 rw[show P-p+(J-(P-p))=J by omega]at this
 exact this
theorem agA {n:Nat} {x:Nat->Rat} {t:Rat} {a j P:Nat} (hs:∀i,i+1<n->k i<=k (i+1)) (hp:1<=p) (hlo:k a<=t) (hhi:t<k (a+1)) (ha:p<=a) (h:At n k P) (hP:p<=P) (hP2:P+p<n)
  (h1:j+p<=a->j<=P/\P<=j+p) (h2:a<j->j<=P+1/\P+1<=j+p) (h3:a<j+p->j<=a->j<=P/\P+1<=j+p):
  bl k (P-p) p 0 (fun q=>x (P-p+q)) (bZ (dg k t (a+1)) (j+1) p) p=if j+p<=a then x j else if a<j then x (j-1)else x (j-1)+fr (k j) (k (j+p)) t*(x j-x (j-1)):=by
 by_cases c1:j+p<=a
 ·obtain⟨g1,g2⟩:=h1 c1
  rw[if_pos c1,um (g:=k) fun i _ hi=>gv (by omega)]
  exact tv h hP hP2 g2 g1
 ·rw[if_neg c1]
  by_cases c2:a<j
  ·obtain⟨g1,g2⟩:=h2 c2
   rw[if_pos c2,Hq (g:=k) fun i hi _=>hH (by omega)]
   have:=tv (x:=x) (J:=j-1) h hP hP2 (by omega) (by omega)
   rwa [show j-1+1=j by omega]at this
  ·obtain⟨g1,g2⟩:=h3 (by omega) (by omega)
   rw[if_neg c2]
   have hA:At n k (P-p+p):=by rwa [show P-p+p=P by omega]
   have e1:bZ (dg k t (a+1)) (j+1) p=bZ k (j+1) (a-j)++t::bZ k (a+1) (j+p-a-1):=by
    have:=zW (t:=dg k t (a+1)) (l:=a-j) (a:=j+1) (m:=(j+p-a-1)+1)
    rw[show a-j+(j+p-a-1+1)=p by omega,show j+1+(a-j)=a+1 by omega]at this
    rw[this,um (g:=k) (fun i _ hi=>gv (by omega)),bZ,k7,Hq (g:=k) fun i hi _=>hH (by omega)]
   have e2:bZ k (j+1) (p-1)=bZ k (j+1) (a-j)++bZ k (a+1) (j+p-a-1):=by
    have:=zW (t:=k) (l:=a-j) (a:=j+1) (m:=j+p-a-1)
    rw[show a-j+(j+p-a-1)=p-1 by omega,show j+1+(a-j)=a+1 by omega]at this
    exact this
   have hw:k j<k (j+p):=by
    have m1:=gM hs (show j<=a by omega) (show a<n by omega)
    have m2:=gM hs (show a+1<=j+p by omega) (show j+p<n by omega)
    grind
   have q1:(bZ (dg k t (a+1)) (j+1) p).Perm (t::bZ k (j+1) (p-1)):=by rw[e1,e2];exact List.perm_middle
   rw[Ck hA (by omega) q1 (by rw[jC];omega),<-C0 (t:=t) hw,Og (by rw[jC];omega)]
   have d1:=tv (x:=x) (J:=j-1) h hP hP2 (by omega) (by omega)
   rw[show j-1+1=j by omega,show p=p-1+1 by omega,bZ]at d1
   have d2:=tv (x:=x) (J:=j) h hP hP2 (by omega) (by omega)
   have q2:(bZ k (j+1) p).Perm (k (j+p)::bZ k (j+1) (p-1)):=by
    have:=Bw (t:=k) (l:=p-1) (a:=j+1)
    rw[show p-1+1=p by omega,show j+1+(p-1)=j+p by omega]at this
    rw[this];exact List.perm_append_singleton _ _
   rw[Ck hA (by omega) q2 (by rw[jC];omega)]at d2
   rw[show p-1+1=p by omega]at d1
   rw[d1,d2,C0 hw]
theorem Jz {n:Nat} {G:List Rat->Rat} (hsym:∀{l m:List Rat},l.Perm m->l.length=p->G l=G m) (haff:∀{u v f:Rat} {l:List Rat},l.length+1=p->G ((u+f*(v-u))::l)=G (u::l)+f*(G (v::l)-G (u::l)))
  (h:At n k (b+p)) (hn:b+p+p<n):∀{l d:List Rat} {r:Nat} {y:Nat->Rat},d.length=r->r+l.length=p->(∀j,r<=j->j<=p->y j=G (d++bZ k (b+j+1) (p-r)))->bl k b p r y l p=G (d++l)
 |[],d,r,y,hd,hl,hy=>by
  have:=hy p (by simp at hl;omega) (Nat.le_refl _)
  rw[show p-r=0 by simp at hl;omega]at this
  exact this
 |t::l,d,r,y,hd,hl,hy=>by
  simp only[List.length_cons]at hl
  have hdt:(d++[t]).length=r+1:=by simp[hd]
  have:=Jz hsym haff h hn (l:=l) (d:=d++[t]) (r:=r+1) (y:=gm k b p r t y) hdt (by omega) fun j h1 h2=>by
   unfold gm
   rw[if_pos (by omega),hy j (by omega) h2,hy (j-1) (by omega) (by omega)]
   have hw:=h.around (a:=b+j) (b:=b+j+(p-r)) (by omega) (by omega) (by omega)
   have e1:(d++bZ k (b+(j-1)+1) (p-r)).Perm (k (b+j)::(d++bZ k (b+j+1) (p-(r+1)))):=by
    rw[show b+(j-1)+1=b+j by omega,show p-r=p-(r+1)+1 by omega,bZ];exact List.perm_middle
   have e2:(d++bZ k (b+j+1) (p-r)).Perm (k (b+j+(p-r))::(d++bZ k (b+j+1) (p-(r+1)))):=by
    rw[show p-r=p-(r+1)+1 by omega,Bw,show b+j+1+(p-(r+1))=b+j+(p-(r+1)+1) by omega,<-List.append_assoc];exact List.perm_append_singleton _ _
   have e3:(d++[t]++bZ k (b+j+1) (p-(r+1))).Perm (t::(d++bZ k (b+j+1) (p-(r+1)))):=by
    rw[List.append_assoc];exact List.perm_middle
   have hlen:(d++bZ k (b+j+1) (p-(r+1))).length+1=p:=by rw[List.length_append,jC,hd];omega
   rw[hsym e1 (by rw[List.length_append,jC,hd];omega),hsym e2 (by rw[List.length_append,jC,hd];omega),hsym e3 (by rw[List.length_append,jC,hdt];omega),<-haff hlen,C0 hw]
  rw[bl,this,List.append_assoc];rfl
def eI (k:Nat->Rat) (p:Nat) (x:Nat->Rat) (P:Nat) (l:List Rat):Rat:=bl k (P-p) p 0 (fun q=>x (P-p+q)) l p
theorem Xk {n N:Nat} {K X x:Nat->Rat} {P Q:Nat} (h:At n k P) (hP:p<=P) (hP2:P+p<n) (H:At N K Q) (hQ:p<=Q) (hQ2:Q+p<N) (hx:∀J,J<=Q->Q<=J+p->X J=eI k p x P (bZ K (J+1) p)) {l:List Rat} (hl:l.length=p):eI K p X Q l=eI k p x P l:=by
 have hA:At n k (P-p+p):=by rwa [show P-p+p=P by omega]
 have:=Jz (k:=K) (b:=Q-p) (p:=p) (n:=N) (G:=eI k p x P) (fun {l m} hm hl=>Ck hA (by omega) hm (by omega)) (fun {u v f l} hl=>Og hl) (by rwa [show Q-p+p=Q by omega]) (by omega) (l:=l) (d:=[]) (r:=0) (y:=fun q=>X (Q-p+q)) rfl (by omega) fun j _ h2=>by
  rw[hx (Q-p+j) (by omega) (by omega)];rfl
 exact this
def mL (k:Nat->Rat) (p:Nat) (x:Nat->Rat) (t:Rat) (a j:Nat):Rat:=if j+p<=a then x j else if a<j then x (j-1)else x (j-1)+fr (k j) (k (j+p)) t*(x j-x (j-1))
def j7 (a Q:Nat):Nat:=if Q<=a then Q else Q-1
theorem ZR {n:Nat} {x:Nat->Rat} {t:Rat} {a j Q:Nat} (hs:∀i,i+1<n->k i<=k (i+1)) (hp:1<=p) (hlo:k a<=t) (hhi:t<k (a+1)) (ha:p<=a) (h:At n k (j7 a Q)) (hP:p<=j7 a Q) (hP2:j7 a Q+p<n) (h1:j<=Q) (h2:Q<=j+p):
  eI k p x (j7 a Q) (bZ (dg k t (a+1)) (j+1) p)=mL k p x t a j:=by
 refine agA hs hp hlo hhi ha h hP hP2 ?_ ?_ ?_<;>unfold j7<;>split<;>omega
theorem ady {n:Nat} {x:Nat->Rat} {t:Rat} {a Q:Nat} (hs:∀i,i+1<n->k i<=k (i+1)) (hp:1<=p) (hlo:k a<=t) (hhi:t<k (a+1)) (ha:p<=a) (h:At n k (j7 a Q)) (hP:p<=j7 a Q) (hP2:j7 a Q+p<n) (H:At (n+1) (dg k t (a+1)) Q) (hQ:p<=Q) (hQ2:Q+p<n+1) {l:List Rat} (hl:l.length=p):
  eI (dg k t (a+1)) p (mL k p x t a) Q l=eI k p x (j7 a Q) l:=
 Xk h hP hP2 H hQ hQ2 (fun J h1 h2=>(ZR hs hp hlo hhi ha h hP hP2 h1 h2).symm) hl
end Go.Am.B
namespace Go.Am.B
theorem lJ {k:Nat->Rat} {t:Rat} {n:Nat}:bW k t (n+1)=bW k t n+if k n=t then 1 else 0:=rfl
theorem G7 {k:Nat->Rat} {t:Rat} {n:Nat}:∀{m:Nat},bW k t n<=bW k t (n+m)
 |0=>Nat.le_refl _
 |m+1=>by
  have:=G7 (k:=k) (t:=t) (n:=n) (m:=m)
  rw[<-Nat.add_assoc,lJ];omega
theorem Dk {k:Nat->Rat} {t:Rat} {i:Nat}:∀{l:Nat},(∀j,i<=j->j<i+l->k j=t)->l<=bW k t (i+l)
 |0,_=>Nat.zero_le _
 |l+1,h=>by
  have:=Dk (k:=k) (t:=t) (i:=i) (l:=l) fun j h1 h2=>h j h1 (by omega)
  rw[<-Nat.add_assoc,lJ,if_pos (h (i+l) (by omega) (by omega))];omega
theorem AS {k:Nat->Rat} {t:Rat} {lo hi:Nat} (hlh:lo<=hi):∀{n:Nat},(∀j,j<n->k j=t->lo<=j/\j<hi)->bW k t n<=min n hi-lo
 |0,_=>by simp[bW]
 |n+1,h=>by
  have:=AS (k:=k) (t:=t) hlh (n:=n) fun j hj=>h j (by omega)
  rw[lJ]
  by_cases hn:k n=t
  ·rw[if_pos hn]
   have:=h n (by omega) hn
   omega
  ·rw[if_neg hn];omega
theorem PB {n a i:Nat} {k:Nat->Rat} {t:Rat} (hs:∀i,i+1<n->k i<=k (i+1)) (hhi:t<k (a+1)) (ha:a+1<n) (hlo:k a<=t) (hi:i<=a) (h:a<i+bW k t n):k i=t:=by
 by_cases he:k i=t
 ·exact he
 ·have h1:=gM hs hi (by omega)
  have hlt:k i<t:=by grind
  have:=AS (k:=k) (t:=t) (lo:=i+1) (hi:=a+1) (by omega) (n:=n) fun j hj hjt=>by
   constructor
   ·by_cases c:j<=i
    ·have:=gM hs c (by omega)
     grind
    ·omega
   ·by_cases c:a+1<=j
    ·have:=gM hs c hj
     grind
    ·omega
  omega
theorem Kn.qW {n p a:Nat} {k:Nat->Rat} {t:Rat} (h:Kn n p k) (h0:k 0<t) (h1:t<k (n-1)) (hlo:k a<=t) (hhi:t<k (a+1)) (ha:a+1<n):p<=a/\a+p+1<n:=by
 have hl:=h.len
 constructor
 ·by_cases c:p<=a
  ·exact c
  ·have:=h.first (a+1) (by omega)
   grind
 ·by_cases c:a+p+1<n
  ·exact c
  ·have:=h.last a (by omega) (by omega)
   grind
theorem Kn.dg {n p a:Nat} {k:Nat->Rat} {t:Rat} (h:Kn n p k) (h0:k 0<t) (h1:t<k (n-1)) (hlo:k a<=t) (hhi:t<k (a+1)) (ha:a+1<n) (ht:bW k t n<p):Kn (n+1) p (dg k t (a+1)):=by
 obtain⟨g1,g2⟩:=h.qW h0 h1 hlo hhi ha
 have hp:=h.p1
 have hl:=h.len
 refine⟨hp,by omega,fun i hi=>?_,fun i hi=>?_,fun i h2 h3=>?_,fun i h2 h3=>?_⟩
 ·by_cases c1:i<a
  ·rw[gv (by omega),gv (by omega)];exact h.sorted i (by omega)
  ·by_cases c2:i=a
   ·subst c2;rw[gv (by omega),k7];exact hlo
   ·by_cases c3:i=a+1
    ·subst c3;rw[k7,hH (by omega)];exact Rat.le_of_lt hhi
    ·rw[hH (by omega),hH (by omega)]
     have:=h.sorted (i-1) (by omega)
     rwa [show i-1+1=i+1-1 by omega]at this
 ·rw[gv (by omega),gv (by omega)];exact h.first i hi
 ·rw[hH (by omega),hH (by omega),h.last (i-1) (by omega) (by omega),show n+1-1-1=n-1 by omega]
 ·by_cases c1:i+p<a+1
  ·rw[gv (by omega),gv (by omega)];exact h.mult i h2 (by omega)
  ·by_cases c2:i+p=a+1
   ·rw[c2,k7,gv (by omega)]
    have m:=h.mono (show i<=a by omega) (by omega)
    by_cases e:k i=t
    ·exfalso
     have hb:∀j,i<=j->j<i+p->k j=t:=fun j hj1 hj2=>by
      have a1:=h.mono hj1 (by omega)
      have a2:=h.mono (show j<=a by omega) (by omega)
      grind
     have b1:=Dk hb
     have b2:=G7 (k:=k) (t:=t) (n:=i+p) (m:=n-(i+p))
     rw[show i+p+(n-(i+p))=n by omega]at b2
     omega
    ·grind
   ·by_cases c3:i<=a
    ·rw[gv (by omega),hH (by omega)]
     have m1:=h.mono c3 (by omega)
     have m2:=h.mono (show a+1<=i+p-1 by omega) (by omega)
     grind
    ·by_cases c4:i=a+1
     ·subst c4;rw[k7,hH (by omega)]
      have m2:=h.mono (show a+1<=a+1+p-1 by omega) (by omega)
      grind
     ·rw[hH (by omega),hH (by omega)]
      have:=h.mult (i-1) (by omega) (by omega)
      rwa [show i-1+p=i+p-1 by omega]at this
theorem Z0 {k x:Nat->Rat} {p a j:Nat} {t:Rat} {n:Nat} (hs:∀i,i+1<n->k i<=k (i+1)) (hlo:k a<=t) (hhi:t<k (a+1)) (hn:a+p<n) (hx:∀j,0<x j):0<mL k p x t a j:=by
 unfold mL
 split
 ·exact hx _
 ·split
  ·exact hx _
  ·have m1:=gM hs (show j<=a by omega) (by omega)
   have m2:=gM hs (show a+1<=j+p by omega) (by omega)
   have hw:k j<k (j+p):=by grind
   have f0:=Il (t:=t) hw (by grind)
   have f1:=Oy (t:=t) hw (by grind)
   generalize fr (k j) (k (j+p)) t=f at*
   have x0:=hx (j-1)
   have x1:=hx j
   by_cases e:f=1
   ·subst e;grind
   ·have:=Rat.mul_pos (a:=1-f) (b:=x (j-1)) (by grind) x0
    have:=Rat.mul_nonneg (a:=f) (b:=x j) f0 (by grind)
    grind
theorem KX {n:Nat} {k:Nat->Rat} {pc:Nat->Nat->Nat} (h0:∀i,pc 0 i=i) (h1:∀f i,pc (f+1) i=if i+1<n/\k (i+1)<=k i then pc f (i+1)else i):∀{f i l:Nat},k i<k (i+l)->i+l<n->l<=f->i<=pc f i/\pc f i<i+l/\k (pc f i)<k (pc f i+1)
 |0,i,l,hk,hn,hl=>by
  have:l=0:=by omega
  subst this;exact absurd hk (by rw[Nat.add_zero];exact Rat.lt_irrefl)
 |f+1,i,l,hk,hn,hl=>by
  have hl0:l≠0:=fun e=>by subst e;rw[Nat.add_zero]at hk;exact absurd hk Rat.lt_irrefl
  rw[h1]
  by_cases c:i+1<n/\k (i+1)<=k i
  ·rw[if_pos c]
   have:=KX h0 h1 (f:=f) (i:=i+1) (l:=l-1) (by rw[show i+1+(l-1)=i+l by omega];have:=c.2;grind) (by omega) (by omega)
   obtain⟨a1,a2,a3⟩:=this
   exact⟨by omega,by omega,a3⟩
  ·rw[if_neg c]
   exact⟨Nat.le_refl _,by omega,Rat.not_le.1 fun e=>c ⟨by omega,e⟩⟩
theorem IM {n i:Nat} {k:Nat->Rat} (h:At n k i):bL n k (k i)=i:=o5 ⟨h,Rat.le_refl,Rat.le_of_lt h.wide,.inl h.wide⟩
theorem ajG {n a q:Nat} {k:Nat->Rat} {t:Rat} (hs:∀i,i+1<n->k i<=k (i+1)) (hlo:k a<=t) (hhi:t<k (a+1)) (ha:a+1<n) (hq:q+1<n+1) (hw:dg k t (a+1) q<dg k t (a+1) (q+1)):
  At n k (j7 a q)/\bL n k (dg k t (a+1) q)=j7 a q/\k 0<=dg k t (a+1) q/\dg k t (a+1) q<=k (n-1):=by
 have key:∀i,At n k i->k 0<=k i/\k i<=k (n-1):=fun i h=>⟨gM hs (Nat.zero_le _) (by have:=h.lt;omega),gM hs (by have:=h.lt;omega) (by omega)⟩
 by_cases c1:q<=a
 ·have e:j7 a q=q:=if_pos c1
  rw[e,gv (by omega)]at*
  have hA:At n k q:=⟨by omega,hs,by
   by_cases c2:q=a
   ·subst c2;grind
   ·rwa [gv (by omega)]at hw⟩
  exact⟨hA,IM hA,key q hA⟩
 ·have e:j7 a q=q-1:=if_neg c1
  rw[e]
  by_cases c2:q=a+1
  ·subst c2
   rw[k7]
   have hA:At n k a:=⟨ha,hs,by grind⟩
   have:=key a hA
   have m:=gM hs (show a+1<=n-1 by omega) (by omega)
   exact⟨hA,o5 ⟨hA,hlo,Rat.le_of_lt hhi,.inl hhi⟩,by grind,by grind⟩
  ·rw[hH (by omega)]at hw ⊢
   rw[hH (by omega)]at hw
   have hA:At n k (q-1):=⟨by omega,hs,by rwa [show q-1+1=q+1-1 by omega]⟩
   exact⟨hA,IM hA,key _ hA⟩
open Go Go.Am.N AV ag aq IntKind Proofs.Tryz
theorem HO {k:Nat->Rat} {t:Rat}:∀{i:Nat},(∀j,j<i->k j<=t)->gY k t i=i
 |0,_=>rfl
 |i+1,h=>Ob (HO fun j hj=>h j aa) (h i aa)
theorem afi {n a:Nat} {k:Nat->Rat} {t:Rat} (hs:∀i,i+1<n->k i<=k (i+1)) (hlo:k a<=t) (hhi:t<k (a+1)) (ha:a+1<n):gY k t n=a+1:=
 CV (HO fun j hj=>Rat.le_trans (gM hs (show j<=a by omega) aa) hlo) hhi aa
def oq (c:Cu) (t:Rat) (a j:Nat):Pl:=
 ⟨⟨mL c.k c.p.toNat (fun q=>(bM (c.f q)).n.x) t a j,mL c.k c.p.toNat (fun q=>(bM (c.f q)).n.y) t a j,mL c.k c.p.toNat (fun q=>(bM (c.f q)).n.z) t a j⟩,mL c.k c.p.toNat (fun q=>(bM (c.f q)).d) t a j⟩
theorem Kn.Yv {n p j:Nat} {k:Nat->Rat} (h:Kn n p k) (hj:j+p+1<n):k j<k (j+(p+1)):=by
 have hp:=h.p1
 have hl:=h.len
 by_cases c:j=0
 ·subst c
  have m:=h.mult 1 aa aa
  rw[h.first 1 aa]at m
  rwa [show 0+(p+1)=1+p by omega]
 ·have m:=h.mult j aa hj
  have:=h.mono (show j+p<=j+(p+1) by omega) aa
  grind
theorem Kn.wide {n p P:Nat} {k:Nat->Rat} (h:Kn n p k) (hA:At n k P):p<=P/\P+p+1<n:=by
 have hw:=hA.wide
 have hlt:=hA.lt
 have hl:=h.len
 constructor
 ·by_cases c:p<=P
  ·exact c
  ·rw[h.first P aa,h.first (P+1) aa]at hw
   exact absurd hw Rat.lt_irrefl
 ·by_cases c:P+p+1<n
  ·exact c
  ·rw[h.last P aa aa,h.last (P+1) aa aa]at hw
   exact absurd hw Rat.lt_irrefl
theorem uz {p:Pl} (h:p.d≠0):dJ (bM p)=p:=by
 obtain⟨⟨x,y,z⟩,d⟩:=p
 have key:∀x:Rat,d*x/d=x:=fun x=>by rw[Rat.div_def,Rat.mul_comm d x,Rat.mul_assoc,Rat.mul_inv_cancel _ h,Rat.mul_one]
 unfold dJ bM
 dsimp only
 rw[key,key,key]
def vj (c:Cu) (t:Rat) (a:Nat):Cu:=⟨c.p,c.n+1,dg c.k t (a+1),c.m+1,fun j=>dJ (oq c t a j)⟩
def kS (c:Cu) (t:Rat):Cu:=if kO c t=0 then vj c t (bL c.n c.k t)else Zy
theorem qF {n p:Nat} {k:Nat->Rat} {t:Rat} (h:Kn n p k) (h0:k 0<t) (h1:t<k (n-1)):k (bL n k t)<=t/\t<k (bL n k t+1)/\bL n k t+1<n:=by
 obtain⟨g1,g2,g3⟩:=h.CP (Rat.le_of_lt h0) (Rat.le_of_lt h1)
 refine⟨g1.lo,?_,aa⟩
 rcases g1.Fg with e|e
 ·exact e
 ·rw[e];exact h1
theorem Be {c:Cu} {t:Rat} (h:kO c t=0):c.k 0<t/\t<c.k (c.n-1)/\bW c.k t c.n<c.p.toNat/\c.m<40:=by
 unfold kO at h
 split at h
 ·omega
 ·rename_i g1
  split at h
  ·omega
  ·split at h
   ·omega
   ·have g1:=Classical.not_not.1 g1
    exact⟨g1.1,g1.2,aa,aa⟩
open Go
theorem ke {x:Int} {n:Nat} (h:x.natAbs<2^n) (hn:1<=n):Sz (x:Rat) n:=
 ⟨by rw[Rat.num_intCast];exact h,by rw[Rat.den_intCast];exact Nat.lt_of_lt_of_le (show 1<2^1 by decide) (Nat.pow_le_pow_right (by decide) hn)⟩
def fC (x:Rat):Prop:=∃z:Int,(z:Rat)=x*55440/\-110880<=z/\z<=776160
theorem fC.sz {x:Rat} (h:fC x):Sz x 40:=by
 obtain⟨z,e,h1,h2⟩:=h
 have:x=(z:Rat)/((55440:Int):Rat):=by
  rw[e,Rat.div_def,Rat.mul_assoc,show(55440:Rat)=((55440:Int):Rat)from rfl,Rat.mul_inv_cancel _ (by decide+kernel),Rat.mul_one]
 rw[this]
 exact(ke (n:=20) aa (by decide)).div (ke (n:=20) (by decide) (by decide))
theorem fC.order {x y:Rat} {z w:Int} (h:(z:Rat)=x*55440) (h':(w:Rat)=y*55440) (hxy:x<=y):z<=w:=by
 have:(z:Rat)<=(w:Rat):=by rw[h,h'];exact Rat.mul_le_mul_of_nonneg_right hxy (by decide+kernel)
 exact Rat.intCast_le_intCast.1 this
theorem R6 {x y f:Rat} {u v:Int} {s:Nat} (hf:f*(v:Rat)=(u:Rat)) (h0:0<=u) (h1:u<=v) (h2:0<v) (h3:v<2^20) (hx:Sz x s) (hy:Sz y s):Sz (x+f*(y-x)) (2*s+61):=by
 have hv:(v:Rat)≠0:=by
  intro e
  have:v=0:=by
   have e2:(v:Rat)=((0:Int):Rat):=e
   exact Rat.intCast_inj.1 e2
  omega
 have key:x+f*(y-x)=(((v-u:Int):Rat)*x+(u:Rat)*y)/(v:Rat):=by
  have e1:((v-u:Int):Rat)=(v:Rat)-(u:Rat):=by rw[Rat.intCast_sub]
  rw[e1,Rat.div_def,<-hf]
  have e2:((v:Rat)-f*(v:Rat))*x+f*(v:Rat)*y=(x+f*(y-x))*(v:Rat):=by grind
  rw[e2,Rat.mul_assoc,Rat.mul_inv_cancel _ hv,Rat.mul_one]
 rw[key]
 have a1:=(ke (x:=v-u) (n:=20) aa (by decide)).mul hx
 have a2:=(ke (x:=u) (n:=20) aa (by decide)).mul hy
 have a3:=(a1.add a2).div (ke (x:=v) (n:=20) aa (by decide))
 exact a3.more aa
theorem BR {k x:Nat->Rat} {p a j n s:Nat} {t:Rat} (hs:∀i,i+1<n->k i<=k (i+1)) (hlo:k a<=t) (hhi:t<k (a+1)) (hn:a+p<n) (hk:∀i,fC (k i)) (ht:fC t) (hx:∀i,Sz (x i) s):Sz (mL k p x t a j) (2*s+61):=by
 unfold mL
 split
 ·exact(hx _).more aa
 ·split
  ·exact(hx _).more aa
  ·have m1:=gM hs (show j<=a by omega) aa
   have m2:=gM hs (show a+1<=j+p by omega) aa
   have hw:k j<k (j+p):=by grind
   obtain⟨z1,e1,b1,c1⟩:=hk j
   obtain⟨z2,e2,b2,c2⟩:=hk (j+p)
   obtain⟨z3,e3,b3,c3⟩:=ht
   have o1:=fC.order e1 e3 (by grind)
   have o2:=fC.order e3 e2 (by grind)
   have o3:z1<z2:=by
    have:(z1:Rat)<(z2:Rat):=by rw[e1,e2];exact Rat.mul_lt_mul_of_pos_right hw (by decide+kernel)
    exact Rat.intCast_lt_intCast.1 this
   refine R6 (u:=z3-z1) (v:=z2-z1) ?_ aa aa aa aa (hx _) (hx _)
   have hf:=nK (t:=t) hw
   rw[Rat.intCast_sub,Rat.intCast_sub,e1,e2,e3]
   have:fr (k j) (k (j+p)) t*(k (j+p)*55440-k j*55440)=fr (k j) (k (j+p)) t*(k (j+p)-k j)*55440:=by grind
   rw[this,hf];grind
theorem ZP {k:Nat->Rat} {t:Rat} {q:Nat} (hk:∀i,fC (k i)) (ht:fC t) (i:Nat):fC (dg k t q i):=by
 unfold dg
 split
 ·exact hk _
 ·split
  ·exact ht
  ·exact hk _
def jY (p n:Nat) (k:Nat->Rat) (x:Nat->Nat->Rat) (N:Nat) (K:Nat->Rat) (X:Nat->Nat->Rat):Prop:=
 ∀Q,At N K Q->∃P,At n k P/\k P<=K Q/\K (Q+1)<=k (P+1)/\∀e l,l.length=p->eI K p (X e) Q l=eI k p (x e) P l
theorem jY.refl {p n:Nat} {k:Nat->Rat} {x:Nat->Nat->Rat}:jY p n k x n k x:=fun Q h=>⟨Q,h,Rat.le_refl,Rat.le_refl,fun _ _ _=>rfl⟩
theorem Kn.nk {n p P:Nat} {k:Nat->Rat} (h:Kn n p k) (hA:At n k P):p<=P/\P+p+1<n:=by
 have hw:=hA.wide
 have hlt:=hA.lt
 have hl:=h.len
 constructor
 ·by_cases c:p<=P
  ·exact c
  ·rw[h.first P (by omega),h.first (P+1) (by omega)]at hw
   exact absurd hw Rat.lt_irrefl
 ·by_cases c:P+p+1<n
  ·exact c
  ·rw[h.last P (by omega) (by omega),h.last (P+1) (by omega) (by omega)]at hw
   exact absurd hw Rat.lt_irrefl
theorem jY.ins {p n N a:Nat} {k K:Nat->Rat} {x X:Nat->Nat->Rat} {t:Rat} (h:jY p n k x N K X) (hK:Kn N p K) (h0:K 0<t) (h1:t<K (N-1)) (hlo:K a<=t) (hhi:t<K (a+1)) (ha:a+1<N) (ht:bW K t N<p):
  jY p n k x (N+1) (dg K t (a+1)) fun e=>mL K p (X e) t a:=by
 intro Q hQ
 have hK':=hK.dg h0 h1 hlo hhi ha ht
 obtain⟨g1,g2⟩:=hK.qW h0 h1 hlo hhi ha
 obtain⟨hA,_,_,_⟩:=ajG hK.sorted hlo hhi ha (by have:=hQ.lt;omega) hQ.wide
 obtain⟨w1,w2⟩:=hK.nk hA
 obtain⟨v1,v2⟩:=hK'.nk hQ
 obtain⟨P,p1,p2,p3,p4⟩:=h _ hA
 refine⟨P,p1,?_,?_,fun e l hl=>?_⟩
 ·refine Rat.le_trans p2 ?_
  unfold j7
  by_cases c1:Q<=a
  ·rw[if_pos c1,gv (by omega)];exact Rat.le_refl
  ·rw[if_neg c1]
   by_cases c2:Q=a+1
   ·subst c2;rw[k7];exact hlo
   ·rw[hH (by omega)];exact Rat.le_refl
 ·refine Rat.le_trans ?_ p3
  unfold j7
  by_cases c1:Q<=a
  ·rw[if_pos c1]
   by_cases c2:Q=a
   ·subst c2;rw[k7];exact Rat.le_of_lt hhi
   ·rw[gv (by omega)];exact Rat.le_refl
  ·rw[if_neg c1,hH (by omega),show Q+1-1=Q-1+1 by omega];exact Rat.le_refl
 ·rw[<-p4 e l hl]
  exact ady (n:=N) hK.sorted hK.p1 hlo hhi g1 hA w1 (by omega) hQ v1 (by omega) hl
theorem jY.B4 {p n N j Q:Nat} {k K:Nat->Rat} {x X:Nat->Nat->Rat} (h:jY p n k x N K X) (hK:Kn N p K) (hQ:At N K Q) (h1:j<=Q) (h2:Q<=j+p):
  ∃P,At n k P/\bL n k (K Q)=P/\∀e,eI k p (x e) P (bZ K (j+1) p)=X e j:=by
 obtain⟨w1,w2⟩:=hK.nk hQ
 obtain⟨P,p1,p2,p3,p4⟩:=h Q hQ
 have hw:=hQ.wide
 refine⟨P,p1,o5 ⟨p1,p2,by grind,.inl (by grind)⟩,fun e=>?_⟩
 rw[<-p4 e _ jC]
 exact tv hQ w1 (by omega) h2 h1
open Go Go.Am.N AV ag aq IntKind Proofs.Tryz
structure mF (c:Cu) (s:Nat):Prop where
 kn:nD c
 pos:∀i,0<(c.f i).d
 kd:∀i,fC (c.k i)
 sx:∀i,Sz (bM (c.f i)).n.x s
 sy:∀i,Sz (bM (c.f i)).n.y s
 sz:∀i,Sz (bM (c.f i)).n.z s
 sd:∀i,Sz (c.f i).d s
theorem Li {h:Pl} (hd:h.d≠0):bM (dJ h)=h:=by
 obtain⟨⟨x,y,z⟩,d⟩:=h
 have key:∀x:Rat,d*(x/d)=x:=fun x=>by rw[Rat.div_def,Rat.mul_comm d,Rat.mul_assoc,Rat.inv_mul_cancel _ hd,Rat.mul_one]
 unfold dJ bM
 dsimp only
 rw[key,key,key]
theorem Nf {c:Cu} {t:Rat} {a i:Nat} (hc:nD c) (hp:∀i,0<(c.f i).d) (h0:c.k 0<t) (h1:t<c.k (c.n-1)) (hlo:c.k a<=t) (hhi:t<c.k (a+1)) (ha:a+1<c.n):0<(oq c t a i).d:=by
 obtain⟨g1,g2⟩:=hc.1.qW h0 h1 hlo hhi ha
 exact Z0 (n:=c.n) hc.1.sorted hlo hhi aa fun i=>hp i
theorem pM {x:Rat} (h:0<x):x≠0:=fun e=>by rw[e]at h;exact absurd h Rat.lt_irrefl
theorem mF.ins {c:Cu} {s:Nat} {t:Rat} (h:mF c s) (ht:fC t) (he:kO c t=0):mF (kS c t) (2*s+61):=by
 obtain⟨e1,e2,e3,e4⟩:=Be he
 obtain⟨k1,k2,k3,k4,k5⟩:=id h.kn
 obtain⟨a1,a2,a3⟩:=qF k1 e1 e2
 obtain⟨g1,g2⟩:=k1.qW e1 e2 a1 a2 a3
 rw[show kS c t=vj c t (bL c.n c.k t)from if_pos he]
 have hpos:∀i,0<(oq c t (bL c.n c.k t) i).d:=fun i=>Nf h.kn h.pos e1 e2 a1 a2 a3
 have hl:∀i,bM (dJ (oq c t (bL c.n c.k t) i))=oq c t (bL c.n c.k t) i:=fun i=>Li (pM (hpos i))
 refine⟨⟨k1.dg e1 e2 a1 a2 a3 e3,k2,k3,show c.n+1<=c.p.toNat+41 by omega,show((c.m+1:Nat):Int)=((c.n+1:Nat):Int)-c.p-1 by omega⟩,hpos,ZP h.kd ht,fun i=>?_,fun i=>?_,fun i=>?_,fun i=>?_⟩
 ·show Sz (bM (dJ (oq c t (bL c.n c.k t) i))).n.x _
  rw[hl];exact BR (n:=c.n) k1.sorted a1 a2 aa h.kd ht h.sx
 ·show Sz (bM (dJ (oq c t (bL c.n c.k t) i))).n.y _
  rw[hl];exact BR (n:=c.n) k1.sorted a1 a2 aa h.kd ht h.sy
 ·show Sz (bM (dJ (oq c t (bL c.n c.k t) i))).n.z _
  rw[hl];exact BR (n:=c.n) k1.sorted a1 a2 aa h.kd ht h.sz
 ·exact BR (n:=c.n) k1.sorted a1 a2 aa h.kd ht h.sd
theorem mF.x {c:Cu} {s:Nat} (h:mF c s) (i:Nat):Sz (c.f i).n.x (s+s)/\Sz (c.f i).n.y (s+s)/\Sz (c.f i).n.z (s+s):=by
 have e:=uz (pM (h.pos i))
 have d:(bM (c.f i)).d=(c.f i).d:=rfl
 refine⟨?_,?_,?_⟩
 ·rw[<-e];exact(h.sx i).div (d▸h.sd i)
 ·rw[<-e];exact(h.sy i).div (d▸h.sd i)
 ·rw[<-e];exact(h.sz i).div (d▸h.sd i)
def vR (c:Cu) (t:Nat->Rat):Nat->Cu
 |0=>c
 |r+1=>kS (vR c t r) (t r)
def nP (c:Cu) (t:Nat->Rat):Nat->Int
 |0=>0
 |r+1=>if nP c t r=0 then kO (vR c t r) (t r)else nP c t r
def HG:Nat->Nat
 |0=>5
 |r+1=>2*HG r+61
theorem U9 {c:Cu} {t:Nat->Rat} {r:Nat} (h:nP c t (r+1)=0):nP c t r=0/\kO (vR c t r) (t r)=0:=by
 unfold nP at h
 split at h
 ·rename_i g;exact⟨g,h⟩
 ·rename_i g;exact absurd h g
theorem Mg {c:Cu} {t:Nat->Rat} (hc:mF c 5) (ht:∀i,fC (t i)):∀{r:Nat},nP c t r=0->mF (vR c t r) (HG r)
 |0,_=>hc
 |r+1,h=>by
  obtain⟨h1,h2⟩:=U9 h
  exact(Mg hc ht h1).ins (ht r) h2
theorem Kz {c:Cu} {t:Nat->Rat} {r:Nat} (h:nP c t r=0) (he:kO (vR c t r) (t r)=0):nP c t (r+1)=0:=(if_pos h:nP c t (r+1)=_).trans he
def e9 (g:Nat->Bool):Nat->Nat
 |0=>0
 |n+1=>if e9 g n<n then e9 g n else if g n then n else n+1
theorem BX {g:Nat->Bool}:∀{n:Nat},(∀j,j<n->g j=false)->e9 g n=n
 |0,_=>rfl
 |n+1,h=>by
  rw[e9,BX fun j hj=>h j (by omega),if_neg (by omega),h n (by omega)];rfl
theorem xG {g:Nat->Bool} {i:Nat} (hi:g i=true) (hb:∀j,j<i->g j=false):∀{n:Nat},i<n->e9 g n=i
 |0,h=>by omega
 |n+1,h=>by
  by_cases c:i=n
  ·subst c
   rw[e9,BX hb,if_neg (by omega),if_pos hi]
  ·rw[e9,xG hi hb (n:=n) (by omega),if_pos (by omega)]
theorem Kn.split {N p a:Nat} {K:Nat->Rat} {t:Rat} (h:Kn N p K) (h0:K 0<t) (h1:t<K (N-1)) (hlo:K a<=t) (hhi:t<K (a+1)) (ha:a+1<N) (ht:bW K t N=p):
  (∀i,i<=a->a<i+p->K i=t)/\(∀i,i+p<=a->K i<t)/\p+p<=a:=by
 obtain⟨g1,g2⟩:=h.qW h0 h1 hlo hhi ha
 have hp:=h.p1
 have run:∀i,i<=a->a<i+p->K i=t:=fun i hi h2=>PB h.sorted hhi ha hlo hi (by rw[ht];exact h2)
 refine⟨run,fun i hi=>?_,?_⟩
 ·have m:=h.mono (show i<=a by omega) (by omega)
  by_cases e:K i=t
  ·exfalso
   have hb:∀j,i<=j->j<i+(p+1)->K j=t:=fun j hj1 hj2=>by
    have a1:=h.mono hj1 (by omega)
    have a2:=h.mono (show j<=a by omega) (by omega)
    grind
   have b1:=Dk hb
   have b2:=G7 (k:=K) (t:=t) (n:=i+(p+1)) (m:=N-(i+(p+1)))
   rw[show i+(p+1)+(N-(i+(p+1)))=N by omega]at b2
   omega
  ·grind
 ·by_cases c:p+p<=a
  ·exact c
  ·have e:=run p g1 (by omega)
   rw[h.first p (Nat.le_refl _)]at e
   rw[e]at h0
   exact absurd h0 Rat.lt_irrefl
theorem DX {k:Nat->Rat} {t:Rat} {q:Nat}:∀{m:Nat},bW (dg k t q) t (q+1+m)=bW k t (q+m)+1
 |0=>by
  have pre:∀i,i<=q->bW (dg k t q) t i=bW k t i:=fun i=>by
   induction i with
   |zero=>intro _;rfl
   |succ i ih=>intro h;rw[lJ,lJ,ih aa,gv aa]
  show bW (dg k t q) t (q+1)=bW k t q+1
  rw[lJ,pre q bz,k7,if_pos rfl]
 |m+1=>by
  rw[<-Nat.add_assoc,lJ,DX (m:=m),hH aa,<-Nat.add_assoc,lJ,show q+1+m-1=q+m by omega];omega
theorem Kn.WV {n p:Nat} {k:Nat->Rat} {t:Rat} (h:Kn n p k) (h0:k 0<t) (h1:t<k (n-1)):bW k t n<=p:=by
 obtain⟨a1,a2,a3⟩:=qF h h0 h1
 obtain⟨g1,g2⟩:=h.qW h0 h1 a1 a2 a3
 have hp:=h.p1
 generalize bL n k t=a at*
 have:=AS (k:=k) (t:=t) (lo:=a+1-p) (hi:=a+1) aa (n:=n) fun j hj hjt=>by
  constructor
  ·by_cases c:a+1-p<=j
   ·exact c
   ·exfalso
    have hj0:1<=j:=by
     by_cases c2:1<=j
     ·exact c2
     ·rw[show j=0 by omega]at hjt;rw[hjt]at h0;exact absurd h0 Rat.lt_irrefl
    have m:=h.mult j hj0 aa
    have m2:=h.mono (show j+p<=a by omega) aa
    grind
  ·by_cases c:j<a+1
   ·exact c
   ·have:=h.mono (show a+1<=j by omega) hj
    grind
 omega
abbrev dM (c:Cu) (t:Rat):Nat->Cu:=vR c fun _=>t
structure tR (c:Cu) (t:Rat) (r:Nat):Prop where
 e:nP c (fun _=>t) r=0
 p:(dM c t r).p=c.p
 n:(dM c t r).n=c.n+r
 m:(dM c t r).m=c.m+r
 s:bW (dM c t r).k t (dM c t r).n=bW c.k t c.n+r
 k0:(dM c t r).k 0=c.k 0
 k1:(dM c t r).k ((dM c t r).n-1)=c.k (c.n-1)
theorem FF {c:Cu} {t:Rat} (h0:c.k 0<t) (h1:t<c.k (c.n-1)) (h2:(bW c.k t c.n:Int)<c.p) (h3:c.m<40):kO c t=0:=by
 unfold kO;rw[if_neg (fun g=>g ⟨h0,h1⟩),if_neg aa,if_neg aa]
theorem OE {d:Cu} {t:Rat} (hd:nD d) (hE:kO d t=0):(kS d t).p=d.p/\(kS d t).n=d.n+1/\(kS d t).m=d.m+1/\bW (kS d t).k t (kS d t).n=bW d.k t d.n+1/\(kS d t).k 0=d.k 0/\(kS d t).k ((kS d t).n-1)=d.k (d.n-1):=by
 obtain⟨b1,b2,b3,b4⟩:=Be hE
 obtain⟨i1,i2,i3⟩:=qF hd.1 b1 b2
 rw[show kS d t=vj d t (bL d.n d.k t)from if_pos hE]
 generalize bL d.n d.k t=a at*
 have:=DX (k:=d.k) (t:=t) (q:=a+1) (m:=d.n-(a+1))
 rw[show a+1+1+(d.n-(a+1))=d.n+1 by omega,show a+1+(d.n-(a+1))=d.n by omega]at this
 refine⟨rfl,rfl,rfl,this,(show dg d.k t (a+1) 0=_ from gv aa),?_⟩
 show dg d.k t (a+1) (d.n+1-1)=_
 rw[hH aa];rfl
theorem tR.go {c:Cu} {t:Rat} {r:Nat} (h:tR c t r) (hc:mF c 5) (ht:fC t) (h0:c.k 0<t) (h1:t<c.k (c.n-1)) (h2:((bW c.k t c.n+r:Nat):Int)<c.p) (h3:c.m+r<40):kO (dM c t r) t=0/\tR c t (r+1):=by
 obtain⟨a1,a2,a3,a4,a5,a6,a7⟩:=h
 have hE:kO (dM c t r) t=0:=FF (by rw[a6];exact h0) (by rw[a7];exact h1) (by rw[a5,a2];exact h2) (by rw[a4];exact h3)
 have hd:=Mg hc (fun _=>ht) a1
 obtain⟨b1,b2,b3,b4,b5,b6⟩:=OE hd.kn hE
 exact⟨hE,Kz a1 hE,b1.trans a2,by rw[show(dM c t (r+1)).n=(dM c t r).n+1 from b2,a3];rfl,by rw[show(dM c t (r+1)).m=(dM c t r).m+1 from b3,a4];rfl,b4.trans (by rw[a5];rfl),b5.trans a6,b6.trans a7⟩
theorem tR.all {c:Cu} {t:Rat} (hc:mF c 5) (ht:fC t) (h0:c.k 0<t) (h1:t<c.k (c.n-1)) (kM:c.m+c.p.toNat<=40):∀{r:Nat},((bW c.k t c.n+r:Nat):Int)<=c.p->tR c t r
 |0,_=>⟨rfl,rfl,rfl,rfl,rfl,rfl,rfl⟩
 |r+1,h=>((tR.all hc ht h0 h1 kM (r:=r) aa).go hc ht h0 h1 aa aa).2
def oT (d:Cu) (t:Rat) (a:Nat):Cu:=⟨d.p,a+1+1,fun i=>if i<a+1 then d.k i else t,a+1-d.p.toNat,d.f⟩
def mh (d:Cu) (t:Rat) (a:Nat):Cu:=⟨d.p,1+(d.n-(a+1-d.p.toNat)),fun i=>if i<1 then t else d.k (a+1-d.p.toNat+(i-1)),d.m-(a-d.p.toNat),fun i=>d.f (a-d.p.toNat+i)⟩
theorem afY:aW 139 f139:=aT func139
theorem S8:aW 140 f140:=aT func140
theorem JK:aW 138 f138:=aT func138
theorem Ja {u v:AV} (h:bh u v):bh (.bg u) (.bg v):=by
 refine⟨rfl,fun M w cs hc=>?_⟩
 cases hc with
 |bg h1 h2 h3=>cases h3;exact .bg (h.2 _ _ _ h1) h2 .nil
theorem ZX {f:FuncId} {us vs:List AV} (h:fR us vs) (hv:(vs.all fun v=>!v.isAgg&&!v.isTuple)=true):bh (.func f us) (.func f vs):=by
 refine⟨rfl,fun M w cs hc=>?_⟩
 cases hc with
 |func h1 h2 h3=>cases h3;exact .func (B5 h h1) hv .nil
def PM {α:Type} (k:Kind α):Kind α:=⟨fun v=>match v with
 |.bg v=>k.read v
 |_=>none,fun a=>.bg (k.make a),fun {v a q} h hq=>by
  split at h
  ·exact Ja (k.ok h hq)
  ·simp at h⟩
def M4 {α:Type} (g:FuncId) (k:Kind α):Kind α:=⟨fun v=>match v with
 |.func f [.bg v]=>match Nat.beq f g with
  |true=>k.read v
  |false=>none
 |_=>none,fun a=>.func g [.bg (k.make a)],fun {v a q} h hq=>by
  split at h
  ·split at h
   ·rename_i hc
    have hc:=Nat.eq_of_beq_eq_true hc
    subst hc
    exact ZX ⟨Ja (k.ok h hq),trivial⟩ rfl
   ·simp at h
  ·simp at h⟩
def Ov:Spec:=cA (kC (gp 2000) (kC (PM (gp 2000)) kN)) (fun a=>.bool (decide (a.2.1<a.1))) fun _=>[]
def J6:Spec:=cA (kC (gp 2000) (kC (PM (gp 2000)) kN)) (fun a=>.bool (decide (a.2.1<=a.1))) fun _=>[]
def xY:aX:=nG::(139,Ov)::(140,J6)::[]
abbrev qk:List Nat:=[4,0,1,7,8]
abbrev zN (n i:Nat) (k:Nat->Rat) (g:FuncId) (x:Rat):List AV:=[.int .i64 0,bD k n 2000,.func g [.bg (.rat x 2000)],.int .i64 n,.int .i64 i]
abbrev rj:Code:=aF f138
def iX (x:Rat) (k:Nat->Rat) (i:Nat):Bool:=decide (x<k i)
def jf (x:Rat) (k:Nat->Rat) (i:Nat):Bool:=decide (x<=k i)
def M6:Spec:=cA (kC (kL 2000) (kC (M4 139 (gp 2000)) kN)) (fun a=>.int .i64 (e9 (iX a.2.1 a.1.2) a.1.1:Nat)) fun a=>[a.1.1<2^40,e9 (iX a.2.1 a.1.2) a.1.1<a.1.1]
def JP:Spec:=cA (kC (kL 2000) (kC (M4 140 (gp 2000)) kN)) (fun a=>.int .i64 (e9 (jf a.2.1 a.1.2) a.1.1:Nat)) fun a=>[a.1.1<2^40,e9 (jf a.2.1 a.1.2) a.1.1<a.1.1]
def Gq:Spec:=fun K args pre=>match M6 K args pre with
 |some r=>some r
 |none=>JP K args pre
theorem aep {x y:Rat}:bU T (nG::gW) [] 60 f139 (aF f139) ⟨aQ 0 [.rat x 2000,.bg (.rat y 2000)],[],0⟩=
  let c1:Prop:=2000<2^42;some (aj [(0:Nat)<1,c1,c1] (leaf ret [AV.bool (decide (ep x y>0))])):=ah
theorem WC {x y:Rat}:bU T (nG::gW) [] 60 f140 (aF f140) ⟨aQ 0 [.rat x 2000,.bg (.rat y 2000)],[],0⟩=
  let c1:Prop:=2000<2^42;some (aj [(0:Nat)<1,c1,c1] (leaf ret [AV.bool (decide (ep x y>=0))])):=ah
theorem Pp {n:Nat} {k:Nat->Rat} {g:FuncId} {x:Rat}:aH T xY [] 60 qk (before rj [1,0,1]) ⟨aQ 0 [bD k n 2000,.func g [.bg (.rat x 2000)]],[],0⟩=
  some (leaf normal ([int i64 0,ak 3 n fun i=>rat (k i) 2000,func g [(rat x 2000).bg],int i64 (↑n:Int),int i64 0],[])):=ah
theorem YD {n i:Nat} {k:Nat->Rat} {x:Rat}:aH T xY [9,16] 60 qk [part rj [1,0,1,0,0]] ⟨aA qk (zN n i k 139 x),[],0⟩=
  let c7:Int:=(↑n:Int);let c5:Prop:=2000<=2000;let c4:AV:=func 139 [(rat x 2000).bg];let c3:AV:=ak 3 n fun i=>rat (k i) 2000;let c2:Int:=(↑i:Int);let c6:Int:=c2+1;let c1:List AV:=[c3,c4,int i64 c7,int i64 c2];some (fork (decide (c2<c7)) (aj [(0:Int)<=c2/\c2.toNat<n,c5,c5] (fork (decide (x<k c2.toNat)) (leaf ret (int i64 c2::c1,[])) (aj [-(2:Int)^63<=c6/\c6<2^63] (leaf normal ([int i64 0,c3,c4,int i64 c7,int i64 c6],[]))))) (leaf (exit 0) (int i64 0::c1,[]))):=ah
theorem VZ {n i:Nat} {k:Nat->Rat} {x:Rat}:aH T xY [9,16] 60 qk [part rj [1,0,1,0,0]] ⟨aA qk (zN n i k 140 x),[],0⟩=
  let c7:Int:=(↑n:Int);let c5:Prop:=2000<=2000;let c4:AV:=func 140 [(rat x 2000).bg];let c3:AV:=ak 3 n fun i=>rat (k i) 2000;let c2:Int:=(↑i:Int);let c6:Int:=c2+1;let c1:List AV:=[c3,c4,int i64 c7,int i64 c2];some (fork (decide (c2<c7)) (aj [(0:Int)<=c2/\c2.toNat<n,c5,c5] (fork (decide (x<=k c2.toNat)) (leaf ret (int i64 c2::c1,[])) (aj [-(2:Int)^63<=c6/\c6<2^63] (leaf normal ([int i64 0,c3,c4,int i64 c7,int i64 c6],[]))))) (leaf (exit 0) (int i64 0::c1,[]))):=ah
theorem JN {n i:Nat} {k:Nat->Rat} {g:FuncId} {x:Rat}:cy T xY [] 60 f138 [part rj [1,1]] ⟨aA qk (zN n i k g x),[],0⟩=
  some (leaf ret [int i64 (-1:Int)]):=ah
theorem ahu:aU P Ov 139:=ct fun⟨x,y,_⟩ K _=>by
 refine bX (r:=aJ (.bool (decide (y<x))) []) hT (cz iN) hm afY rfl aV rfl 60 aep (fun _=>?_) K []
 simp only[ag.all,az]
 exact⟨⟨aa,aa,aa⟩,fF (decide_eq_decide.2 uk)⟩
theorem adm:aU P J6 140:=ct fun⟨x,y,_⟩ K _=>by
 refine bX (r:=aJ (.bool (decide (y<=x))) []) hT (cz iN) hm S8 rfl aV rfl 60 WC (fun _=>?_) K []
 simp only[ag.all,az]
 exact⟨⟨aa,aa,aa⟩,fF (decide_eq_decide.2 z7)⟩
theorem IS:bq P xY:=cz (aI ahu (aI adm bB))
theorem acO:aU P M6 138:=ct fun⟨⟨n,k⟩,x,_⟩ K hn=>by
 have n1:n<2^40:=hn.1
 have n2:e9 (iX x k) n<n:=hn.2
 refine iB (r:=aJ (.int .i64 (e9 (iX x k) n:Nat)) []) hT IS hm JK rfl aV rfl [1,0,1] (i:=0) (y:=part rj [1,0,1,0,0]) (z:=part rj [1,1]) ah ah ah (f1:=[]) (f2:=[9,16]) (f3:=[]) 60 qk 0
  (fun i:Nat=>zN n i k 139 x) (fun _=>[]) (fun i=>i<=n/\∀j,j<i->iX x k j=false) (fun i=>i=n/\∀j,j<i->iX x k j=false) (fun i=>n-i) (fun _=>⟨⟨_,Pp,?_⟩,fun i ⟨h1,h2⟩=>⟨_,YD,?_⟩,fun i ⟨h1,h2⟩=>⟨_,JN,?_⟩⟩) K []
 ·exact⟨0,⟨Nat.zero_le _,fun j hj=>aa⟩,.vals rfl⟩
 ·simp only[ag.all,az,bk,bt,bf]
  refine⟨fun h=>⟨aa,fun hb=>⟨[.int .i64 i],ah,?_⟩,fun hb=>⟨aa,i+1,⟨aa,fun j hj=>?_⟩,by dsimp only;omega,.vals rfl⟩⟩,fun h=>⟨rfl,i,⟨aa,h2⟩,.vals rfl⟩⟩
  ·exact bS (by rw[xG (g:=iX x k) (i:=i) (decide_eq_true hb) h2 (n:=n) aa])
  ·by_cases hji:j=i
   ·subst hji;exact decide_eq_false hb
   ·exact h2 j aa
 ·subst h1
  rw[BX h2]at n2
  omega
theorem X4:aU P JP 138:=ct fun⟨⟨n,k⟩,x,_⟩ K hn=>by
 have n1:n<2^40:=hn.1
 have n2:e9 (jf x k) n<n:=hn.2
 refine iB (r:=aJ (.int .i64 (e9 (jf x k) n:Nat)) []) hT IS hm JK rfl aV rfl [1,0,1] (i:=0) (y:=part rj [1,0,1,0,0]) (z:=part rj [1,1]) ah ah ah (f1:=[]) (f2:=[9,16]) (f3:=[]) 60 qk 0
  (fun i:Nat=>zN n i k 140 x) (fun _=>[]) (fun i=>i<=n/\∀j,j<i->jf x k j=false) (fun i=>i=n/\∀j,j<i->jf x k j=false) (fun i=>n-i) (fun _=>⟨⟨_,Pp,?_⟩,fun i ⟨h1,h2⟩=>⟨_,VZ,?_⟩,fun i ⟨h1,h2⟩=>⟨_,JN,?_⟩⟩) K []
 ·exact⟨0,⟨Nat.zero_le _,fun j hj=>aa⟩,.vals rfl⟩
 ·simp only[ag.all,az,bk,bt,bf]
  refine⟨fun h=>⟨aa,fun hb=>⟨[.int .i64 i],ah,?_⟩,fun hb=>⟨aa,i+1,⟨aa,fun j hj=>?_⟩,by dsimp only;omega,.vals rfl⟩⟩,fun h=>⟨rfl,i,⟨aa,h2⟩,.vals rfl⟩⟩
  ·exact bS (by rw[xG (g:=jf x k) (i:=i) (decide_eq_true hb) h2 (n:=n) aa])
  ·by_cases hji:j=i
   ·subst hji;exact decide_eq_false hb
   ·exact h2 j aa
 ·subst h1
  rw[BX h2]at n2
  omega
theorem Sr:aU P Gq 138:=by
 intro K args pre r h
 unfold Gq at h
 split at h
 ·rename_i g
  simp only[ay]at h
  subst h
  exact acO _ _ _ _ g
 ·exact X4 _ _ _ _ h
end Go.Am.B
