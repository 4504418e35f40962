/- brepkernelmade: Rat, Within; lists of numbers as arguments. -/
import Derived.Test.YtfjlccdmhpdiiaaGreatY7
import Derived.Test.YtfjlccdmhpdiiaaGreatZ2
set_option linter.unusedVariables false
noncomputable section
namespace Go.Am.B
open Go Go.Am.N AV Proofs.Tryz
theorem aek:aW 11 f11:=aT func11
def F8:aX:=[(11,iZ T (sG::(59,K2)::rR) [] 60 f11)]
theorem MO:bq P F8:=aI (jn hT (kW (aI Ug uE)) hm aek _ _) bB
def kL (s:Nat):Kind (Nat×(Nat->Rat)):=⟨fun v=>match BM v with
 |some (n,f)=>some ((n,fun i=>aE (f i)),[bn f n s])
 |none=>none,fun a=>bD a.2 a.1 s,fun {v a q} h hq=>by
  split at h
  ·rename_i h1
   simp only[ay,Prod.mk.injEq]at h
   obtain⟨rfl,rfl⟩:=h
   exact Uj h1 hq
  ·simp at h⟩
def gp (s:Nat):Kind Rat:=⟨fun v=>match jL v with
 |some (q,n)=>some (q,[n<=s])
 |none=>none,fun a=>.rat a s,fun {v a q} h hq=>by
  split at h
  ·rename_i h1
   simp only[ay,Prod.mk.injEq]at h
   obtain⟨rfl,rfl⟩:=h
   exact(kZ h1).trans (ey hq)
  ·simp at h⟩
structure sA (α:Type) where
 read:List AV->Option (α×List Prop)
 make:α->List AV
 ok:∀{l:List AV} {a:α} {q:List Prop},read l=some (a,q)->az q->fR l (make a)
def kN:sA Unit:=⟨fun l=>match l with
 |[]=>some ((),[])
 |_=>none,fun _=>[],fun {l a q} h _=>by
  split at h
  ·trivial
  ·simp at h⟩
def kC {α β:Type} (k:Kind α) (kl:sA β):sA (α×β):=⟨fun l=>match l with
 |v::l=>match k.read v,kl.read l with
  |some (a,p),some (b,q)=>some ((a,b),p++q)
  |_,_=>none
 |[]=>none,fun a=>k.make a.1::kl.make a.2,fun {l a q} h hq=>by
  split at h
  ·split at h
   ·rename_i h1 h2
    simp only[ay,Prod.mk.injEq]at h
    obtain⟨rfl,rfl⟩:=h
    obtain⟨q1,q2⟩:=fD.1 hq
    exact⟨k.ok h1 q1,kl.ok h2 q2⟩
   ·simp at h
  ·simp at h⟩
def cA {α:Type} (k:sA α) (g:α->AV) (need:α->List Prop):Spec:=bY fun l=>match k.read l with
 |some (a,p)=>some (aJ (g a) (p++need a))
 |none=>none
theorem ct {α:Type} {f:FuncId} {k:sA α} {g:α->AV} {need:α->List Prop} (h:∀a K,az (need a)->aS P f K (k.make a) [] (aJ (g a) [])):aU P (cA k g need) f:=by
 refine cF fun K args r hk hs _=>?_
 split at hs
 ·rename_i h1
  simp only[ay]at hs
  subst hs
  intro hn
  obtain⟨n1,hn⟩:=fD.1 hn
  exact iD (h _ K hn) hk (k.ok h1 n1) [] trivial
 ·simp at hs
open Go Go.Am.N AV ag aq IntKind Proofs.Tryz
theorem TH:aW 195 f195:=aT func195
def gP:aX:=nG::oX
def uH:aX:=nG::rR
abbrev sK:Nat:=4096
abbrev ls (k:Nat->Rat) (n:Nat):AV:=bD k n sK
abbrev tP (t:Rat) (s:Nat):au:=⟨false,true,3,1,fun _=>.rat t s⟩
abbrev xp:List Nat:=[0,5,8,9,6,7]
abbrev F6 (n:Nat) (k:Nat->Rat) (l i:Nat):List AV:=[ls k n,.ptr 0 0 3 0 [],.int .i64 l,.int .i64 i,.int .i64 0,.int .i64 0]
abbrev wR:Code:=aF f195
theorem acW {n:Nat} {k:Nat->Rat} {p:Int} {t:Rat}:aH T gP [200013,21,31] 60 xp (before wR [1,1,1,0,1]) ⟨aQ 0 [ls k n,.int .i64 p,.rat t sK],[],0⟩=
  let c11:Prop:=((↑n:Int)==0)=false;let c10:Prop:=0<1;let c9:AV:=ak 3 n fun i=>rat (k i) 4096;let c8:Nat:=Int.toNat (0:Int);let c7:AV:=ptr 0 0 (bp (rat t sK)).size 0 [];let c6:AV:=int i64 0;let c5:Nat×au:=(0,au.mk false true (bp (rat t sK)).size 1 fun x=>rat t 4096);let c4:Int:=(↑n:Int)-1;let c12:Prop:=(0:Int)<=0/\c8<n;let c3:Bool:=bif false then true else decide (ep t (k c8)<0);let c2:ag (List AV×aC):=leaf ret ([c9,c7,tuple [],tuple [],c6,int i64 7],[c5]);let c1:ag (List AV×aC):=leaf normal ([c9,c7,c6,c6,c6,c6],[c5]);some (fork c3 (aj [c11,c10,c12,c3=true] (fork true c2 c1)) (aj [c11,c10,c12,c3=false,c10,-(2:Int)^63<=c4/\c4<2^63,(0:Int)<=c4/\c4.toNat<n] (fork (bif false then true else decide (ep t (k c4.toNat)>0)) c2 c1))):=ah
theorem Ue {n l i:Nat} {k:Nat->Rat} {t:Rat}:aH T gP [36,49,58] 60 xp [part wR [1,1,1,0,1,0,0]] ⟨aA xp (F6 n k l i),[(0,tP t sK)],1⟩=
  let c7:Int:=(↑i:Int);let c6:List AV:=[int i64 0,int i64 0];let c5:AV:=ptr 0 0 3 0 [];let c4:AV:=ak 3 n fun i=>rat (k i) 4096;let c2:Nat×au:=((0:Nat),bP fun x=>rat t 4096);let c10:AV:=int i64 c7;let c1:Int:=c7+1;let c8:Int:=ep (k c7.toNat) (k c1.toNat);let c3:Prop:=-(2:Int)^63<=c1/\c1<2^63;let c9:List Prop:=[c3,(0:Int)<=c1/\c1.toNat<n];some (aj [c3] (fork (decide (c1<(↑n:Int))) (aj (((0:Int)<=c7/\c7.toNat<n)::c9) (fork (decide (c8>=0)) (aj [c3] (leaf normal (c4::c5::int i64 (↑l:Int)::int i64 c1::c6,[c2]))) (aj (((0:Nat)<1)::c9) (fork (decide (ep t (k c1.toNat)<0)) (leaf (exit 0) (c4::c5::c10::c10::c6,[c2])) (aj [c3] (leaf normal (c4::c5::c10::int i64 c1::c6,[c2]))))))) (leaf (exit 0) (c4::c5::int i64 (↑l:Int)::c10::c6,[c2])))):=ah
theorem SG {n l i:Nat} {k:Nat->Rat} {t:Rat}:cy T gP [] 60 f195 [part wR [1,1,1,1]] ⟨aA xp (F6 n k l i),[(0,tP t sK)],1⟩=
  some (leaf ret [int i64 (↑l:Int),int i64 0]):=ah
abbrev K3 (n:Nat) (k:Nat->Rat) (i:Nat):List AV:=[ls k n,.ptr 0 0 3 0 [],.int .i64 i,.int .i64 0,.int .i64 0]
theorem lY:bq P gP:=cz qM
theorem ahS:bq P uH:=cz uE
theorem ya {q:Rat} {n:Nat}:aE (.rat q n)=q:=rfl
theorem Te:max 1 (bN (Int.natAbs 1))=1:=by decide
theorem z7 {a b:Rat}:ep a b>=0↔b<=a:=by
 have:=@rH a b
 constructor
 ·intro h
  have:¬a<b:=fun h'=>by have:=rH.2 h';omega
  grind
 ·intro h
  have:¬ep a b<0:=fun h'=>by have:=rH.1 h';grind
  omega
theorem v9 {rl:List (Nat×Nat)} {l i s s' s2:Nat} {x y:Nat->Rat} {t:Rat} (hx:∀i,i<l->x i=y i) (ht:t=y l) (h1:s<=s2) (h2:s'<=s2) (hi:i<l+1):ia rl (if i<l then .rat (x i) s else nth [.rat t s'] (.rat 0 1) (i-l+0)) (.rat (y i) s2):=by
 by_cases h:i<l
 ·rw[if_pos h,hx i h];exact .inr ⟨rfl,cB rfl h1⟩
 ·have:i=l:=aa
  subst this
  rw[if_neg h,Nat.sub_self,ht]
  exact .inr ⟨rfl,cB rfl h2⟩
def bQ (n:Nat) (k:Nat->Rat) (t:Rat):Prop:=t<k 0\/k (n-1)<t
instance {n:Nat} {k:Nat->Rat} {t:Rat}:Decidable (bQ n k t):=inferInstanceAs (Decidable (t<k 0\/k (n-1)<t))
def jO (n:Nat) (k:Nat->Rat) (t:Rat):Nat:=if bQ n k t then 0 else bL n k t
def cS (n:Nat) (k:Nat->Rat) (t:Rat):Int:=if bQ n k t then 7 else 0
abbrev yW (n:Nat) (k:Nat->Rat) (t:Rat):AV:=.tuple [.int .i64 (jO n k t),.int .i64 (cS n k t)]
theorem Nu {n:Nat} {k:Nat->Rat} {t:Rat} (h:bQ n k t):fK [.int .i64 0,.int .i64 7] (yW n k t):=
 ⟨bS (by unfold jO;rw[if_pos h];rfl),bS (by unfold cS;rw[if_pos h]),trivial⟩
theorem Yq {n i:Nat} {k:Nat->Rat} {t:Rat} (h:¬bQ n k t) (hi:i=bL n k t):fK [.int .i64 i,.int .i64 0] (yW n k t):=
 ⟨bS (by unfold jO;rw[if_neg h,hi]),bS (by unfold cS;rw[if_neg h]),trivial⟩
abbrev uJ (k:Nat->Rat) (t:Rat) (i:Nat):Nat:=mC (fun i=>decide (k i<k (i+1))&&decide (k i<=t)) i
theorem JF {g:Nat->Bool} {m:Nat}:mC g (m+1)=if g m then m else mC g m:=rfl
theorem aeK {n p0:Nat} {k:Nat->Rat} {p:Int} {t:Rat} (h:Kn n p0 k) (hn:n<2^40) (K:Nat):aS P 195 K [ls k n,.int .i64 p,.rat t sK] [] (aJ (yW n k t) []):=by
 have hp:=h.p1
 have hl:=h.len
 refine iB (r:=aJ (yW n k t) []) hT lY hm TH rfl aV rfl [1,1,1,0,1] (i:=0) (y:=part wR [1,1,1,0,1,0,0]) (z:=part wR [1,1,1,1]) ah ah ah (f1:=[200013,21,31]) (f2:=[36,49,58]) (f3:=[]) 60 xp 1
  (fun a:Nat×Nat=>F6 n k a.2 a.1) (fun _=>[(0,tP t sK)]) (fun a=>a.1+1<=n/\a.2=uJ k t a.1/\k a.1<=t/\¬bQ n k t) (fun a=>a.2=bL n k t/\¬bQ n k t) (fun a=>n-a.1) (fun _=>⟨⟨_,acW,?_⟩,fun⟨i,l⟩ ⟨h1,h2,h3,h4⟩=>⟨_,Ue,?_⟩,fun⟨i,l⟩ ⟨h1,h2⟩=>⟨_,SG,Yq h2 h1⟩⟩) K []
 ·simp only[ag.all,az,bk,bt,rH,uk,cond_false,Int.toNat_zero,beq_eq_false_iff_ne,ne_eq,show((n:Int)-1).toNat=n-1 by omega]
  (repeat' with_reducible first|refine And.intro ?_ ?_|intro _)
  all_goals first|omega|assumption|skip
  ·exact⟨_,ah,Nu (.inl ‹_›)⟩
  ·exact absurd ‹true=false› (by decide)
  ·exact⟨_,ah,Nu (.inr ‹_›)⟩
  ·rename_i a b
   have hin:¬bQ n k t:=fun h=>h.elim (fun h=>a h) fun h=>b h
   exact⟨(0,0),⟨aa,rfl,by show k 0<=t;grind,hin⟩,[(0,0)],rfl,rfl,rfl,aM trivial⟩
 ·have hs:∀i,i+1<n->k i<=k (i+1):=h.sorted
  simp only at h1 h2 h3
  simp only[ag.all,az,bk,bt,rH,z7,bf,show((i:Int)+1).toNat=i+1 by omega]
  (repeat' with_reducible first|refine And.intro ?_ ?_|intro _)
  all_goals first|omega|assumption|skip
  ·rename_i hi hge
   have:=hs i aa
   have e:uJ k t (i+1)=uJ k t i:=by
    have:¬k i<k (i+1):=by grind
    rw[uJ,JF,if_neg (by simp[this])]
   exact⟨(i+1,l),⟨aa,h2.trans e.symm,by show k (i+1)<=t;grind,h4⟩,by dsimp only;omega,[(0,0)],rfl,rfl,rfl,aM trivial⟩
  ·rename_i hi hlt hb
   have:k i<k (i+1):=by grind
   have hiv:bL n k t=i:=o5 ⟨⟨aa,hs,this⟩,h3,by grind,.inl hb⟩
   exact⟨rfl,(i,i),⟨hiv.symm,h4⟩,[(0,0)],rfl,rfl,rfl,aM trivial⟩
  ·rename_i hi hlt hb
   have:k i<k (i+1):=by grind
   have e:uJ k t (i+1)=i:=by
    rw[uJ,JF,if_pos (by simp[this,h3])]
   exact⟨(i+1,i),⟨aa,e.symm,by show k (i+1)<=t;grind,h4⟩,by dsimp only;omega,[(0,0)],rfl,rfl,rfl,aM trivial⟩
  ·have hin:i=n-1:=aa
   subst hin
   exact⟨rfl,(n-1,l),⟨h2,h4⟩,[(0,0)],rfl,rfl,rfl,aM trivial⟩
abbrev Jm:sA ((Nat×(Nat->Rat))×Int×Rat×Unit):=kC (kL sK) (kC kI (kC (gp sK) kN))
def Gb:Spec:=cA Jm (fun a=>yW a.1.1 a.1.2 a.2.2.1) fun a=>[Kn a.1.1 a.2.1.toNat a.1.2,0<=a.2.1,a.1.1<2^40]
theorem ND:aU P Gb 195:=ct fun _ K hn=>aeK hn.1 hn.2.2 K
theorem ack:aW 222 f222:=aT func222
theorem HI:aW 172 f172:=aT func172
def Po:aX:=(174,lg kR kR F9 sW)::gW
theorem aad {a b t:Rat} {n:Nat}:bU T Po [] 60 f222 (aF f222) ⟨aQ 0 [.rat a n,.rat b n,.rat t n],[],0⟩=
  let c3:Nat:=n+n+1;let c2:Nat:=2^42;let c1:Prop:=0<1;some (aj [c1,c1,n<c2,n<c2,c1,c1,n<c2,n<c2,c3<c2,c3<c2,c1] (aj [c1,c1] (aj [c1] (leaf ret [rat ((t-a)/(b-a)) (c3+c3)])))):=ah
abbrev sF:Nat:=16386
def Hp:Spec:=cA (kC (gp sK) (kC (gp sK) (kC (gp sK) kN))) (fun a=>.rat (fr a.1 a.2.1 a.2.2.1) sF) fun _=>[]
theorem YO:bq P Po:=aI (mN fun _ _ K hn=>DD hn.1 hn.2 K) iN
theorem LA:aU P Hp 222:=ct fun⟨a,b,t,_⟩ K _=>by
 refine bX (r:=aJ (.rat (fr a b t) sF) []) hT YO hm ack rfl aV rfl 60 aad (fun _=>?_) K []
 simp only[ag.all,az]
 have h1:sK=4096:=rfl
 (repeat' with_reducible refine And.intro ?_ ?_)
 all_goals first|omega|exact(cB rfl (show sK+sK+1+(sK+sK+1)<=sF by decide))
def sO:aX:=nG::(195,Gb)::(222,Hp)::(221,AA)::gW
def SB (d:Nat):Nat:=65536*4^d
abbrev HB (d:Nat):Nat:=1+(sF+SB d)+1
abbrev oz:List Nat:=[0,1,5,9,11,12,6,7,8]
abbrev tZ (n:Nat) (k:Nat->Rat) (p i d:Nat):List AV:=[ls k n,.int .i64 p,.ptr 0 0 3 0 [],.int .i64 i,.own 2 3 0 (d+1),.int .i64 ((d+1:Nat):Int),.int .i64 0,.nil,.int .i64 0]
abbrev lR (m:Nat) (x:Nat->Rat) (s:Nat->Nat):au:=⟨true,true,3,m,fun i=>.rat (x i) (s i)⟩
abbrev Aj:Code:=aF f172
abbrev vh:Code:=part Aj [1,1,1,1,1,0,1,0,0]
abbrev tS:Code:=part vh [1,0,0]
abbrev y9:List Nat:=[0,1,5,9,12,13,54,55,56,6,7,8]
abbrev FK (n:Nat) (k:Nat->Rat) (p i d j:Nat):List AV:=[ls k n,.int .i64 p,.ptr 0 0 3 0 [],.int .i64 i,.int .i64 ((d+1:Nat):Int),.own 3 3 0 (d+2),.own 2 3 0 (d+1),.int .i64 ((d+1:Nat):Int),.int .i64 j,.int .i64 0,.nil,.int .i64 0]
theorem abo {n p:Nat} {k:Nat->Rat} {t:Rat}:aH T sO [26,30,36,43] 60 oz (before Aj [1,1,1,1,1,0,1]) ⟨aQ 0 [ls k n,.int .i64 p,.rat t sK],[],0⟩=
  let c13:Int:=cS n (fun i=>aE (rat (k i) sK)) t;let c12:AV:=int i64 0;let c9:AV:=ak 3 n fun i=>rat (k i) 4096;let c7:AV:=ptr 0 0 (bp (rat t sK)).size 0 [];let c6:Int:=(2:Int)^63;let c5:Nat×au:=(0,au.mk false true (bp (rat t sK)).size 1 fun x=>rat t 4096);let c4:Int:=(↑p:Int);let c3:Int:=(↑(jO n (fun i=>aE (rat (k i) sK)) t):Int);let c15:Prop:=-c6<=c3-c4/\c3-c4<c6;let c14:Prop:=-c6<=c3+c4/\c3+c4<c6;let c11:Bool:=bif false then true else decide (c3+c4>=(↑n:Int));let c10:Bool:=decide (c4<0);let c8:Bool:=bif false then true else decide (c3-c4<0);let c2:ag (List AV×aC):=leaf ret ([c9,int i64 c4,c7,int i64 c3,tuple [],tuple [],c12,nil,int i64 7],[c5]);let c1:ag (List AV×aC):=aj [(1:Nat)*3<=2^24] (leaf normal ([c9,int i64 c4,c7,int i64 c3,own 131072 3 0 1,int i64 1,c12,nil,c12],[(131072,au.mk true true 3 1 fun i=>nth [rat (↑(1:Int):Rat) (Max.max 1 (bN (Int.natAbs (1:Int))))] (rat 0 1) i),c5]));some (aj [(0:Nat)<1,bn (fun i=>rat (k i) sK) n sK,sK<=sK,Kn n c4.toNat fun i=>aE (rat (k i) sK),(0:Int)<=c4,n<2^40] (fork (c13 !=(0:Int)) (leaf ret ([c9,int i64 c4,c7,int i64 c3,tuple [],tuple [],c12,nil,int i64 c13],[c5])) (fork false (fork true (aj [c10=true,true=true] (fork true c2 c1)) (aj [c10=true,true=false,c14] (fork c11 c2 c1))) (fork c8 (aj [c10=false,c15,c8=true] (fork true c2 c1)) (aj [c10=false,c15,c8=false,c14] (fork c11 c2 c1)))))):=ah
theorem Ut {n p i d:Nat} {k x:Nat->Rat} {t:Rat}:aH T sO [48] 60 oz (before vh [1,0]) ⟨aA oz (tZ n k p i d),[(2,lR (d+1) x fun _=>SB d),(0,tP t sK)],3⟩=
  let c2:Int:=(↑(d+1):Int);let c1:List AV×aC:=([ak 3 n fun i=>rat (k i) 4096,int i64 (↑p:Int),ptr 0 0 3 0 [],int i64 (↑i:Int),own 2 3 0 (d+1),int i64 c2,int i64 0,nil,int i64 0],[(2,au.mk true true 3 (d+1) fun i=>rat (x i) (SB d)),((0:Nat),bP fun x=>rat t 4096)]);some (fork (decide (c2<=(↑p:Int))) (leaf normal c1) (leaf (exit 0) c1)):=ah
theorem af9 {n p i d:Nat} {k x:Nat->Rat} {t:Rat}:aH T sO [] 60 y9 (before tS [1,0,1]) ⟨aA oz (tZ n k p i d),[(2,lR (d+1) x fun _=>SB d),(0,tP t sK)],3⟩=
  let c3:AV:=int i64 0;let c2:Int:=(↑(d+1):Int);let c1:Int:=c2+1;some (aj [-(2:Int)^63<=c1/\c1<2^63,(0:Int)<=c1/\c1<=c1/\c1<=2^47/\c1*(↑(56:Nat):Int)<=2^47] (leaf normal ([ak 3 n fun i=>rat (k i) 4096,int i64 (↑p:Int),ptr 0 0 3 0 [],int i64 (↑i:Int),int i64 c2,own 8195 3 0 c1.toNat,own 2 3 0 (d+1),int i64 c2,c3,c3,nil,c3],[(2,au.mk true true 3 (d+1) fun i=>rat (x i) (SB d)),(8195,au.mk true true 3 c1.toNat fun x=>rat 0 1),((0:Nat),bP fun x=>rat t 4096)]))):=ah
theorem agY {n p i d j:Nat} {k x y:Nat->Rat} {s:Nat->Nat} {t:Rat}:aH T sO [57] 60 y9 [part tS [1,0,1,0,0]] ⟨aA y9 (FK n k p i d j),[(3,lR (d+2) y s),(2,lR (d+1) x fun _=>SB d),(0,tP t sK)],4⟩=
  let c20:AV:=int i64 0;let c19:AV:=ptr 0 0 3 0 [];let c18:AV:=ak 3 n fun i=>rat (k i) 4096;let c16:Nat:=d+1;let c13:Nat×au:=((0:Nat),bP fun x=>rat t 4096);let c11:Int:=(↑j:Int);let c10:Prop:=0<1;let c9:Nat:=d+2;let c8:Nat:=Max.max 1 (bN (Int.natAbs (1:Int)));let c7:Nat:=2^42;let c5:Int:=(2:Int)^63;let c25:Prop:=(0:Int)<=c11/\c11.toNat<c9;let c23:Nat:=c8+sF+1;let c22:AV:=own 3 3 0 c9;let c21:AV:=own 2 3 0 c16;let c12:Nat×au:=(2,au.mk true true 3 c16 fun i=>rat (x i) (SB d));let c6:Int:=c11+1;let c4:Nat:=c11.toNat+0;let c3:Int:=(↑c16:Int);let c29:AV:=int i64 c3;let c27:Prop:=(0:Int)<=c6/\c6.toNat<c9;let c24:Prop:=-c5<=c6/\c6<c5;let c17:Int:=(↑i:Int)-c3;let c2:Nat:=c6.toNat+0;let c28:Int:=c17+1;let c26:Nat:=s c2+(sF+SB d)+1;let c15:Nat:=bif c4==c2 then c26 else s c4;let c1:Int:=c28+c11;let c14:Rat:=fr (k c1.toNat) (k (c1+c3).toNat) t;some (fork (decide (c11<c3)) (aj [(0:Int)<=c11/\c11.toNat<c16,c4<c16,c10] (aj [-c5<=c17/\c17<c5,-c5<=c28/\c28<c5,-c5<=c1/\c1<c5] (aj [(0:Int)<=c1/\c1.toNat<n,-c5<=c1+c3/\c1+c3<c5,(0:Int)<=c1+c3/\(c1+c3).toNat<n,c10,sK<=sK,sK<=sK,sK<=sK,c10] (aj [c24,c24,c27,c2<c9,c10,c10,sF<c7,SB d<c7,s c2<c7,sF+SB d<c7,c27,c2<c9] (aj [c25,c4<c9,c10,c8<c7,sF<c7,c10,c23<c7,SB d<c7,c15<c7,c23+SB d<c7,c25,c4<c9] (aj [c24] (leaf normal ([c18,int i64 (↑p:Int),c19,int i64 (↑i:Int),c29,c22,c21,c29,int i64 c6,c20,nil,c20],[c12,(3,au.mk true true 3 c9 fun j=>rat (bif j==c4 then(bif c4==c2 then y c2+c14*x c4 else y c4)+((↑(1:Int):Rat)-c14)*x c4 else bif j==c2 then y c2+c14*x c4 else y j) (bif j==c4 then c15+(c23+SB d)+1 else bif j==c2 then c26 else s j)),c13])))))))) (leaf (exit 2) ([c18,int i64 (↑p:Int),c19,int i64 (↑i:Int),c29,c22,c21,c29,int i64 c11,c20,nil,c20],[c12,(3,au.mk true true 3 c9 fun i=>rat (y i) (s i)),c13]))):=ah
theorem WT {n p i d j:Nat} {k x y:Nat->Rat} {s:Nat->Nat} {t:Rat}:aH T sO [] 60 oz [part tS [1,1],part vh [1,1]] ⟨aA y9 (FK n k p i d j),[(3,lR (d+2) y s),(2,lR (d+1) x fun _=>SB d),(0,tP t sK)],4⟩=
  let c1:Int:=(↑(d+1):Int)+1;some (aj [-(2:Int)^63<=c1/\c1<2^63] (leaf normal ([ak 3 n fun i=>rat (k i) 4096,int i64 (↑p:Int),ptr 0 0 3 0 [],int i64 (↑i:Int),own 3 3 0 (d+2),int i64 c1,int i64 0,nil,int i64 0],[(3,au.mk true true 3 (d+2) fun i=>rat (y i) (s i)),((0:Nat),bP fun x=>rat t 4096)]))):=ah
theorem Xi {n p i d:Nat} {k x:Nat->Rat} {t:Rat}:cy T sO [] 60 f172 [part Aj [1,1,1,1,1,1]] ⟨aA oz (tZ n k p i d),[(2,lR (d+1) x fun _=>SB d),(0,tP t sK)],3⟩=
  let c1:Int:=(↑i:Int)-(↑p:Int);some (aj [-(2:Int)^63<=c1/\c1<2^63] (leaf ret [int i64 c1,ak 3 (d+1) fun i=>rat (x (i+0)) (SB d),int i64 0])):=ah
theorem AF {d:Nat}:SB (d+1)=4*SB d:=by unfold SB;rw[Nat.pow_succ];omega
theorem vM:∀{d:Nat},65536<=SB d
 |0=>by unfold SB;omega
 |d+1=>by rw[AF];have:=vM (d:=d);omega
theorem AW:sF=16386:=rfl
theorem Tz {d e:Nat} (h:d<=e):SB d<=SB e:=Nat.mul_le_mul_left _ (Nat.pow_le_pow_right aa h)
abbrev sV:Nat:=268435456
theorem yy {d:Nat} (h:d<=6):SB d<=sV:=Nat.le_trans (Tz h) (by decide)
def yG (n:Nat) (k:Nat->Rat) (p:Nat) (t:Rat) (f:Nat->Rat):AV:=.tuple [.int .i64 (if bQ n k t then 0 else(bL n k t:Int)-p),.ak 3 (if bQ n k t then 0 else p+1) (fun j=>.rat (f j) sV),.int .i64 (cS n k t)]
abbrev BF (n:Nat) (k:Nat->Rat) (p:Nat) (t:Rat):AV:=yG n k p t (vB k (bL n k t) t p)
theorem abC {n p:Nat} {k f:Nat->Rat} {t:Rat} (h:bQ n k t):fK [.int .i64 0,.nil,.int .i64 7] (yG n k p t f):=by
 unfold yG cS
 rw[if_pos h,if_pos h,if_pos h]
 exact⟨.refl _,iJ aa,.refl _,trivial⟩
theorem acB {n p:Nat} {k f:Nat->Rat} {t:Rat} {g:Nat->AV} (h:¬bQ n k t) (hg:∀j,j<p+1->bh (g j) (.rat (f j) sV)):fK [.int .i64 ((bL n k t:Int)-p),.ak 3 (p+1) g,.int .i64 0] (yG n k p t f):=by
 unfold yG cS
 rw[if_neg h,if_neg h,if_neg h]
 exact⟨.refl _,fB hg,.refl _,trivial⟩
theorem xM:bq P sO:=cz (aI ND (aI LA (aI (Gl Hw) iN)))
def wQ (k:Nat->Rat) (i:Nat) (t:Rat) (d j:Nat):Rat:=if j=0 then 0 else fr (k (i-d+(j-1))) (k (i-d+(j-1)+(d+1))) t*vB k i t d (j-1)
def mY (k:Nat->Rat) (i:Nat) (t:Rat) (d j x:Nat):Rat:=if x<j then vB k i t (d+1) x else if x=j then wQ k i t d j else 0
def kA (d j x:Nat):Nat:=if x<j then SB (d+1)else if x=j then HB d else 1
theorem aa8 {rl:List (Nat×Nat)} {k:Nat->Rat} {i d j x:Nat} {t:Rat} (hj:j<=d):
  ia rl (.rat (bif x==j then(bif j==j+1 then mY k i t d j (j+1)+fr (k (i-d+j)) (k (i-d+j+(d+1))) t*vB k i t d j else mY k i t d j j)+(((1:Int):Rat)-fr (k (i-d+j)) (k (i-d+j+(d+1))) t)*vB k i t d j
   else bif x==j+1 then mY k i t d j (j+1)+fr (k (i-d+j)) (k (i-d+j+(d+1))) t*vB k i t d j else mY k i t d j x)
   (bif x==j then(bif j==j+1 then kA d j (j+1)+(sF+SB d)+1 else kA d j j)+(1+sF+1+SB d)+1 else bif x==j+1 then kA d j (j+1)+(sF+SB d)+1 else kA d j x))
   (.rat (mY k i t d (j+1) x) (kA d (j+1) x)):=by
 have h1:=AF (d:=d)
 have h2:=vM (d:=d)
 have h3:=AW
 have hjj:(j==j+1)=false:=by simp
 rw[hjj]
 refine .inr ⟨rfl,?_⟩
 by_cases hx:x=j
 ·subst hx
  simp only[beq_self_eq_true,cond_true,cond_false]
  refine cB ?_ ?_
  ·unfold mY
   rw[if_neg aa,if_pos rfl,if_pos aa,vB,if_pos hj]
   have:((1:Int):Rat)=1:=rfl
   rw[this];rfl
  ·unfold kA HB
   rw[if_neg aa,if_pos rfl,if_pos aa];omega
 ·have hb:(x==j)=false:=by simpa using hx
  rw[hb]
  by_cases hx2:x=j+1
  ·subst hx2
   simp only[beq_self_eq_true,cond_true,cond_false]
   refine cB ?_ ?_
   ·unfold mY wQ
    rw[if_neg aa,if_neg aa,if_neg aa,if_pos rfl,if_neg aa,Nat.add_sub_cancel,Rat.zero_add]
   ·unfold kA HB
    rw[if_neg aa,if_neg aa,if_neg aa,if_pos rfl];omega
  ·have hb2:(x==j+1)=false:=by simpa using hx2
   rw[hb2]
   simp only[cond_false]
   refine cB ?_ ?_
   ·unfold mY
    by_cases hlt:x<j
    ·rw[if_pos hlt,if_pos aa]
    ·rw[if_neg hlt,if_neg hx,if_neg aa,if_neg hx2]
   ·unfold kA
    by_cases hlt:x<j
    ·rw[if_pos hlt,if_pos aa];omega
    ·rw[if_neg hlt,if_neg hx,if_neg aa,if_neg hx2];omega
theorem ahy {n p:Nat} {k:Nat->Rat} {t:Rat} (h:Kn n p k) (hp6:p<=6) (hn:n<2^40) (K:Nat):aS P 172 K [ls k n,.int .i64 p,.rat t sK] [] (aJ (BF n k p t) []):=by
 refine fX (r:=aJ (BF n k p t) []) hT HI rfl aV rfl (fun _ c h0=>?_) K []
 have hk:=jk h0
 have hiv:¬bQ n k t->p<=bL n k t/\bL n k t+p+1<n:=fun hin=>by
  have h1:¬t<k 0:=fun h=>hin (.inl h)
  have h2:¬k (n-1)<t:=fun h=>hin (.inr h)
  exact(h.CP (by grind) (by grind)).2
 have hp1:=h.p1
 have hl:=h.len
 refine ax.Ac hT xM hm [1,1,1,1,1,0,1] (i:=0) (y:=vh) (z:=part Aj [1,1,1,1,1,1]) ah ah ah HI.dst hk (f1:=[26,30,36,43]) 60 oz 3 (fun d:Nat=>tZ n k p (bL n k t) d) (fun d=>[(2,lR (d+1) (vB k (bL n k t) t d) fun _=>SB d),(0,tP t sK)])
  (fun d=>d<=p/\¬bQ n k t) (fun d=>d=p/\¬bQ n k t) (fun d=>p-d) (oP f172 oz (BF n k p t)) ⟨_,abo,?_⟩ (fun d ⟨hd,hin⟩=>?_) (fun d ⟨hd,hin⟩=>?_) (fun v s' hv hs'=>hv.fin hs')
 ·simp only[ag.all,az,ya,bne_iff_ne,ne_eq,bne_eq_false_iff_eq,bk,bt,cond_false,bf]
  refine⟨⟨aa,bI bz,bz,h,aa,hn⟩,fun hout=>?_,fun hin=>?_⟩
  ·have hout:bQ n k t:=by
    unfold cS at hout
    by_cases ho:bQ n k t
    ·exact ho
    ·rw[if_neg ho]at hout;exact absurd rfl hout
   refine⟨[.int .i64 0,.nil,.int .i64 7],?_,abC hout⟩
   unfold cS
   rw[if_pos hout]
   kernel_rfl
  ·have hin:¬bQ n k t:=fun ho=>by unfold cS at hin;rw[if_pos ho]at hin;omega
   have hii:jO n k t=bL n k t:=by unfold jO;rw[if_neg hin]
   have hv:=hiv hin
   simp only[hii,bk,bt]
   (repeat' with_reducible first|refine And.intro ?_ ?_|intro _)
   all_goals first|omega|(exfalso;omega)|exact absurd ‹false=true› (by decide)|exact absurd ‹true=false› (by decide)|skip
   refine⟨0,⟨aa,hin⟩,[(0,0),(2,131072)],rfl,rfl,rfl,b7 rfl rfl rfl (fun i hi=>?_) (aM trivial)⟩
   have:i=0:=aa
   subst this
   exact .inr ⟨rfl,cB rfl (by have:=vM (d:=0);exact Nat.le_trans (by decide) this)⟩
 ·have hv:=hiv hin
  refine ax.u5 hT xM hm (y:=vh) (x1:=tS) (zb:=part vh [1,1]) [1,0] (j:=1) ah ah ah ah hk (f1:=[48]) 60 oz 3 (fun _:Unit=>tZ n k p (bL n k t) d) (fun _=>[(2,lR (d+1) (vB k (bL n k t) t d) fun _=>SB d),(0,tP t sK)]) (fun _=>d+1<=p) ⟨_,Ut,?_⟩ (fun _ hd'=>?_)
  ·simp only[ag.all,az,bk,bt]
   have re:dN [] ([ak 3 n fun i=>rat (k i) sK,int i64 p,ptr 0 0 3 0 [],int i64 (bL n k t),own 2 3 0 (d+1),int i64 ((d+1:Nat):Int),int i64 0,nil,int i64 0],[(2,au.mk true true 3 (d+1) fun i=>rat (vB k (bL n k t) t d i) (SB d)),((0:Nat),bP fun x=>rat t sK)]) (tZ n k p (bL n k t) d) [(2,lR (d+1) (vB k (bL n k t) t d) fun _=>SB d),(0,tP t sK)] 3:=
    ⟨[(0,0),(2,2)],rfl,rfl,rfl,b7 rfl rfl rfl (fun i hi=>cR rfl rfl) (aM trivial)⟩
   exact⟨fun h1=>⟨(),aa,re⟩,fun h1 s' hs'=>⟨rfl,d,⟨aa,hin⟩,re.le hs' hk⟩⟩
  refine ax.lQ hT xM hm (x:=tS) (z:=part tS [1,1]) [1,0,1] (i:=2) (y:=part tS [1,0,1,0,0]) ah ah ah ah hk (f1:=[]) (f2:=[57]) 60 y9 4 (fun j:Nat=>FK n k p (bL n k t) d j)
   (fun j=>[(3,lR (d+2) (mY k (bL n k t) t d j) (kA d j)),(2,lR (d+1) (vB k (bL n k t) t d) fun _=>SB d),(0,tP t sK)]) (fun j=>j<=d+1) (fun j=>j=d+1) (fun j=>d+1-j) (fun _=>False) ⟨_,af9,?_⟩ (fun j hj=>⟨_,agY,?_⟩) (fun j hj=>?_) (fun _ _ h=>h.elim)
  ·simp only[ag.all,az]
   rw[show(((d+1:Nat):Int)+1).toNat=d+2 by omega]
   refine⟨⟨aa,aa⟩,0,aa,[(0,0),(2,2),(3,8195)],rfl,rfl,rfl,b7 rfl rfl rfl (fun i hi=>?_) (b7 rfl rfl rfl (fun i hi=>cR rfl rfl) (aM trivial))⟩
   refine .inr ⟨rfl,cB ?_ ?_⟩
   ·unfold mY wQ;rw[if_neg aa];split<;>rfl
   ·unfold kA HB;rw[if_neg aa];split<;>omega
  ·have hF:=AW
   have h1:=vM (d:=d)
   have h2:=yy (d:=d) aa
   have h3:=yy (d:=d+1) aa
   have h5:sV=268435456:=rfl
   have s0:kA d j j=HB d:=by unfold kA;rw[if_neg aa,if_pos rfl]
   have s1:kA d j (j+1)=1:=by unfold kA;rw[if_neg aa,if_neg aa]
   have e0:((bL n k t:Int)-((d+1:Nat):Int)+1+(j:Int)).toNat=bL n k t-d+j:=aa
   have e1:((bL n k t:Int)-((d+1:Nat):Int)+1+(j:Int)+((d+1:Nat):Int)).toNat=bL n k t-d+j+(d+1):=aa
   have e2:((j:Int)+1).toNat=j+1:=aa
   simp only[ag.all,az,bk,bt,bf,Nat.add_zero,e0,e1,e2,Te]
   have hjj:(j==j+1)=false:=by simp
   refine⟨fun h4=>?_,fun h4=>⟨rfl,j,aa,[(0,0),(2,2),(3,3)],rfl,rfl,rfl,b7 rfl rfl rfl (fun i hi=>cR rfl rfl) (b7 rfl rfl rfl (fun i hi=>cR rfl rfl) (aM trivial))⟩⟩
   (repeat' with_reducible refine And.intro ?_ ?_)
   all_goals first|omega|(rw[s1];omega)|(rw[hjj,cond_false,s0];unfold HB;omega)|skip
   refine⟨j+1,aa,by dsimp only;omega,[(0,0),(2,2),(3,3)],rfl,rfl,rfl,b7 rfl rfl rfl (fun x hx=>aa8 aa) (b7 rfl rfl rfl (fun i hi=>cR rfl rfl) (aM trivial))⟩
  ·subst hj
   refine ax.tail (fun s' hh=>by have:=hh.1;omega) (aG.bE hT xM hm 60 oz WT ah ?_)
   simp only[ag.all,az]
   refine⟨aa,fun s' hs'=>⟨d+1,⟨hd',hin⟩,by dsimp only;omega,dN.le ⟨[(0,0),(2,3)],rfl,rfl,rfl,b7 rfl rfl rfl (fun x hx=>?_) (aM trivial)⟩ hs' hk⟩⟩
   refine .inr ⟨rfl,cB ?_ ?_⟩
   ·unfold mY
    by_cases hlt:x<d+1
    ·rw[if_pos hlt]
    ·have:x=d+1:=aa
     subst this
     rw[if_neg aa,if_pos rfl,vB,if_neg (show¬d+1<=d by omega),Rat.add_zero];rfl
   ·have h1:=AF (d:=d)
    have h2:=vM (d:=d)
    have hF:=AW
    show _<=SB (d+1)
    unfold kA HB
    split
    ·omega
    ·split<;>omega
 ·subst hd
  refine ax.gZ ((aG.fin hT xM hm 60 Xi ah ?_).mono fun _ _ h=>.inl h)
  simp only[ag.all,az]
  exact⟨by have:=hiv hin;omega,acB hin fun j _=>ey (yy hp6)⟩
theorem Z9:aW 152 f152:=aT func152
def Jo:Spec:=cA Jm (fun a=>BF a.1.1 a.1.2 a.2.1.toNat a.2.2.1) fun a=>[Kn a.1.1 a.2.1.toNat a.1.2,0<=a.2.1,a.2.1<=6,a.1.1<2^40]
theorem XY:aU P Jo 172:=ct fun⟨⟨n,k⟩,p,t,_⟩ K hn=>by
 obtain⟨h1,h2,h3,h4⟩:=hn
 have h3:p<=6:=h3
 have:=ahy h1 (by simp only;omega) h4 K (t:=t)
 rw[Int.toNat_of_nonneg h2]at this
 exact this
def zG:Spec:=cA (kC (kL sK) (kC kI kN)) (fun a=>.int .i64 ((a.1.1:Int)-a.2.1-1)) fun a=>[a.1.1<2^40,-2^40<a.2.1,a.2.1<2^40]
theorem YZ {n:Nat} {k:Nat->Rat} {p:Int}:bU T [nG] [] 60 f152 (aF f152) ⟨aQ 0 [ls k n,.int .i64 p],[],0⟩=
  let c3:Int:=(↑n:Int)-p;let c1:Int:=(2:Int)^63;let c2:Int:=c3-1;some (aj [-c1<=c3/\c3<c1,-c1<=c2/\c2<c1] (leaf ret [int i64 c2])):=ah
theorem z6:aU P zG 152:=ct fun⟨⟨n,k⟩,p,_⟩ K hn=>by
 obtain⟨h1,h2,h3⟩:=hn
 have h3:p<2^40:=h3
 simp only at h1 h2
 refine bX (r:=aJ (.int .i64 ((n:Int)-p-1)) []) hT (cz bB) hm Z9 rfl aV rfl 60 YZ (fun _=>?_) K []
 simp only[ag.all,az]
 exact⟨aa,.refl _⟩
abbrev zO:au:=⟨false,true,3,1,fun _=>.rat 0 1⟩
theorem BJ {n:Nat} {k:Nat->Rat} {t:Rat} (h:cS n k t≠0):bQ n k t:=by
 unfold cS at h
 by_cases ho:bQ n k t
 ·exact ho
 ·rw[if_neg ho]at h;exact absurd rfl h
theorem CR {n:Nat} {k:Nat->Rat} {t:Rat} (h:cS n k t=0):¬bQ n k t:=fun ho=>by unfold cS at h;rw[if_pos ho]at h;omega
theorem Kn.qZ {n p:Nat} {k:Nat->Rat} (h:Kn n p k) {t:Rat} (hin:¬bQ n k t):p<=bL n k t/\bL n k t+p+1<n:=by
 have h1:¬t<k 0:=fun h=>hin (.inl h)
 have h2:¬k (n-1)<t:=fun h=>hin (.inr h)
 exact(h.CP (by grind) (by grind)).2
def bW (k:Nat->Rat) (t:Rat):Nat->Nat
 |0=>0
 |i+1=>bW k t i+if k i=t then 1 else 0
def fI (k:Nat->Rat) (i:Nat):Prop:=i=0\/k i≠k (i-1)
instance {k:Nat->Rat} {i:Nat}:Decidable (fI k i):=inferInstanceAs (Decidable (i=0\/k i≠k (i-1)))
def aP (k:Nat->Rat):Nat->Nat
 |0=>0
 |i+1=>aP k i+if fI k i then 1 else 0
def br (k:Nat->Rat):Nat->Nat->Rat
 |0=>fun _=>0
 |i+1=>if fI k i then jK (br k i) (aP k i) (k i)else br k i
theorem Qi {k:Nat->Rat} {t:Rat}:∀{n:Nat},bW k t n<=n
 |0=>Nat.le_refl _
 |n+1=>by
  have:=Qi (k:=k) (t:=t) (n:=n)
  unfold bW;split<;>omega
theorem mX {k:Nat->Rat}:∀{n:Nat},aP k n<=n
 |0=>Nat.le_refl _
 |n+1=>by
  have:=mX (k:=k) (n:=n)
  unfold aP;split<;>omega
theorem oo {k:Nat->Rat}:∀{n:Nat},0<aP k (n+1)/\br k (n+1) 0=k 0/\br k (n+1) (aP k (n+1)-1)=k n
 |0=>by simp[aP,br,fI,jK]
 |n+1=>by
  obtain⟨h1,h2,h3⟩:=oo (k:=k) (n:=n)
  rw[aP,br]
  by_cases h:fI k (n+1)
  ·rw[if_pos h,if_pos h]
   refine⟨by omega,by rw[iY (by omega)];exact h2,?_⟩
   rw[show aP k (n+1)+1-1=aP k (n+1) by omega,ou]
  ·rw[if_neg h,if_neg h]
   refine⟨by omega,h2,?_⟩
   show br k (n+1) (aP k (n+1)-1)=_
   rw[h3]
   unfold fI at h
   have:k (n+1)=k (n+1-1):=by
    by_cases e:k (n+1)=k (n+1-1)
    ·exact e
    ·exact absurd (.inr e) h
   rw[this];rfl
theorem Gy {k:Nat->Rat}:∀{n j:Nat},j<aP k n->∃i,i<n/\br k n j=k i
 |0,j,h=>by simp[aP]at h
 |n+1,j,h=>by
  rw[br]
  rw[aP]at h
  by_cases hn:fI k n
  ·rw[if_pos hn]at h ⊢
   by_cases he:j=aP k n
   ·subst he;exact⟨n,by omega,ou⟩
   ·obtain⟨i,h1,h2⟩:=Gy (k:=k) (n:=n) (j:=j) (by omega)
    exact⟨i,by omega,by rw[iY he];exact h2⟩
  ·rw[if_neg hn]at h ⊢
   obtain⟨i,h1,h2⟩:=Gy (k:=k) (n:=n) (j:=j) (by omega)
   exact⟨i,by omega,h2⟩
theorem L5 {k:Nat->Rat}:∀{n:Nat},(∀i,i+1<n->k i<=k (i+1))->∀{j:Nat},j+1<aP k n->br k n j<br k n (j+1)
 |0,_,j,h=>by simp[aP]at h
 |n+1,hs,j,h=>by
  have ih:∀{j:Nat},j+1<aP k n->br k n j<br k n (j+1):=fun {j} hj=>L5 (k:=k) (n:=n) (fun i hi=>hs i (by omega)) hj
  rw[br]
  rw[aP]at h
  by_cases hn:fI k n
  ·rw[if_pos hn]at h ⊢
   by_cases he:j+1=aP k n
   ·rw[he,ou,iY (by omega)]
    cases n with
    |zero=>simp[aP]at he
    |succ m=>
     have:=(oo (k:=k) (n:=m)).2.2
     rw[show j=aP k (m+1)-1 by omega,this]
     have h1:=hs m (by omega)
     unfold fI at hn
     have h2:k (m+1)≠k m:=by rcases hn with hn|hn;omega;exact hn
     grind
   ·rw[iY (by omega),iY (by omega)]
    exact ih (by omega)
  ·rw[if_neg hn]at h ⊢
   exact ih (by omega)
theorem JC {k:Nat->Rat} {n:Nat} (hs:∀i,i+1<n->k i<=k (i+1)) {i:Nat}:∀{j:Nat},i<j->j<aP k n->br k n i<br k n j
 |0,h,_=>by omega
 |j+1,h,hj=>by
  have h1:=L5 hs (j:=j) hj
  by_cases he:i=j
  ·subst he;exact h1
  ·have:=JC hs (i:=i) (j:=j) (by omega) (by omega)
   grind
def qK (n:Nat) (k:Nat->Rat):Prop:=∀i,i+1<n->k i<=k (i+1)
def l5 (n:Nat) (k:Nat->Rat) (p:Nat) (t:Rat):Prop:=((t=k 0\/t=k (n-1))/\bW k t n≠p+1)\/(¬(t=k 0\/t=k (n-1))/\p<bW k t n)
instance {n:Nat} {k:Nat->Rat} {p:Nat} {t:Rat}:Decidable (l5 n k p t):=inferInstanceAs (Decidable (((t=k 0\/t=k (n-1))/\bW k t n≠p+1)\/(¬(t=k 0\/t=k (n-1))/\p<bW k t n)))
def rU (n:Nat) (k:Nat->Rat) (p:Nat):Prop:=qK n k/\k 0≠k (n-1)/\∀j,j<aP k n->¬l5 n k p (br k n j)
theorem afL {n:Nat} {k:Nat->Rat} (hn:0<n) (hs:qK n k):aP k n<2↔k 0=k (n-1):=by
 obtain⟨m,rfl⟩:∃m,n=m+1:=⟨n-1,by omega⟩
 obtain⟨h1,h2,h3⟩:=oo (k:=k) (n:=m)
 simp only[Nat.add_sub_cancel]
 constructor
 ·intro h
  rw[show aP k (m+1)=1 by omega]at h3
  rw[<-h2,<-h3]
 ·intro h
  have key:¬(0<aP k (m+1)-1):=fun hlt=>by
   have:=JC hs hlt (by omega)
   rw[h2,h3]at this
   grind
  omega
open Classical in
def gC (n:Nat) (k:Nat->Rat) (p:Int):Int:=
 if p<1\/6<p then 1 else if(n:Int)<2*p+2 then 5 else if 40<(n:Int)-p-1 then 2 else if rU n k p.toNat then 0 else 5
theorem N6 {k:Nat->Rat} {t:Rat} {a b:Nat} (hab:a<=b):∀{n:Nat},(∀i,i<n->k i=t->a<=i/\i<b)->bW k t n<=min n b-min n a
 |0,_=>by simp[bW]
 |n+1,h=>by
  have ih:=N6 (k:=k) (t:=t) hab (n:=n) fun i hi=>h i (by omega)
  rw[bW]
  split
  ·rename_i e
   have:=h n (by omega) e
   omega
  ·omega
theorem D4 {k:Nat->Rat} {t:Rat} {a b:Nat} (hab:a<=b):∀{n:Nat},(∀i,i<n->(k i=t↔a<=i/\i<b))->bW k t n=min n b-min n a
 |0,_=>by simp[bW]
 |n+1,h=>by
  have ih:=D4 (k:=k) (t:=t) hab (n:=n) fun i hi=>h i (by omega)
  rw[bW]
  have:=h n (by omega)
  split
  ·rename_i e
   have:=this.1 e
   omega
  ·rename_i e
   have:¬(a<=n/\n<b):=fun h=>e (this.2 h)
   omega
theorem least {q:Nat->Prop} [DecidablePred q]:∀{n:Nat},q n->∃a,a<=n/\q a/\∀i,i<a->¬q i
 |0,h=>⟨0,Nat.le_refl _,h,fun i hi=>by omega⟩
 |n+1,h=>by
  by_cases h2:∃i,i<n+1/\q i
  ·obtain⟨i,hi,hq⟩:=h2
   obtain⟨a,h3,h4,h5⟩:=least_lt hi hq
   exact⟨a,by omega,h4,h5⟩
  ·exact⟨n+1,Nat.le_refl _,h,fun i hi hq=>h2 ⟨i,hi,hq⟩⟩
where
 least_lt {q:Nat->Prop} [DecidablePred q]:∀{n i:Nat},i<n->q i->∃a,a<n/\q a/\∀i,i<a->¬q i
 |0,i,h,_=>by omega
 |n+1,i,h,hq=>by
  by_cases h2:∃j,j<n/\q j
  ·obtain⟨j,hj,hq⟩:=h2
   obtain⟨a,h3,h4,h5⟩:=least_lt hj hq
   exact⟨a,by omega,h4,h5⟩
  ·have:i=n:=by
    by_cases e:i=n
    ·exact e
    ·exact absurd ⟨i,by omega,hq⟩ h2
   subst this
   exact⟨i,h,hq,fun j hj hq=>h2 ⟨j,hj,hq⟩⟩
theorem Kn.rU {n p:Nat} {k:Nat->Rat} (h:Kn n p k):rU n k p:=by
 have hp:=h.p1
 have hl:=h.len
 have hw:k p<k (p+1):=by
  have:=h.mult 1 (by omega) (by omega)
  rw[h.first 1 (by omega),show 1+p=p+1 by omega]at this
  rw[h.first p (by omega)];exact this
 have hw2:k (n-p-2)<k (n-p-1):=by
  by_cases he:n=2*p+2
  ·have e1:n-p-2=p:=by omega
   have e2:n-p-1=p+1:=by omega
   rw[e1,e2];exact hw
  ·have:=h.mult (n-p-2) (by omega) (by omega)
   rw[h.last (n-p-2+p) (by omega) (by omega),<-h.last (n-p-1) (by omega) (by omega)]at this
   exact this
 have m:∀{i j},i<=j->j<n->k i<=k j:=fun hi hj=>gM h.sorted hi hj
 have h0l:k 0<k (n-1):=by
  have a:=m (i:=p+1) (j:=n-1) (by omega) (by omega)
  have b:=h.first p (Nat.le_refl _)
  grind
 refine⟨h.sorted,by grind,fun j hj=>?_⟩
 obtain⟨i,hi,e⟩:=Gy hj
 rw[e]
 unfold l5
 by_cases h0:k i=k 0
 ·have:bW k (k i) n=p+1:=by
   rw[D4 (a:=0) (b:=p+1) (by omega) (n:=n) fun x hx=>?_]
   ·omega
   ·rw[h0]
    constructor
    ·intro ex
     refine⟨by omega,?_⟩
     by_cases hx2:x<p+1
     ·exact hx2
     ·have:=m (i:=p+1) (j:=x) (by omega) hx
      have b:=h.first p (Nat.le_refl _)
      grind
    ·intro hx2;exact h.first x (by omega)
  rw[this]
  simp[h0]
 ·by_cases h1:k i=k (n-1)
  ·have:bW k (k i) n=p+1:=by
    rw[D4 (a:=n-p-1) (b:=n) (by omega) (n:=n) fun x hx=>?_]
    ·omega
    ·rw[h1]
     constructor
     ·intro ex
      refine⟨?_,hx⟩
      by_cases hx2:n-p-1<=x
      ·exact hx2
      ·have:=m (i:=x) (j:=n-p-2) (by omega) (by omega)
       have b:=h.last (n-p-1) (by omega) (by omega)
       grind
     ·intro hx2;exact h.last x (by omega) hx
   rw[this]
   simp[h1]
  ·obtain⟨a,ha,e,hlt⟩:=least (q:=fun x=>k x=k i) (n:=i) rfl
   have ha0:p<a:=by
    by_cases hx:p<a
    ·exact hx
    ·have:=h.first a (by omega)
     rw[this]at e;exact absurd e.symm h0
   have hal:a+p+1<n:=by
    by_cases hx:a+p+1<n
    ·exact hx
    ·have:=h.last a (by omega) (by omega)
     rw[this]at e;exact absurd e.symm h1
   have hm:=h.mult a (by omega) hal
   have:bW k (k i) n<=min n (a+p)-min n a:=by
    refine N6 (by omega) fun x hx ex=>⟨?_,?_⟩
    ·by_cases hx2:a<=x
     ·exact hx2
     ·exact absurd ex (hlt x (by omega))
    ·by_cases hx2:x<a+p
     ·exact hx2
     ·have:=m (i:=a+p) (j:=x) (by omega) hx
      grind
   intro hb
   rcases hb with⟨h2,_⟩|⟨_,h2⟩
   ·exact h2.elim h0 h1
   ·omega
theorem Kn.zK {n p:Nat} {k:Nat->Rat} (h:Kn n p k) (hp6:p<=6) (hn:n<=p+41):gC n k p=0:=by
 have hp:=h.p1
 have hl:=h.len
 unfold gC
 rw[if_neg (by omega),if_neg (by omega),if_neg (by omega),if_pos (by rw[Int.toNat_natCast];exact h.rU)]
def jy (k:Nat->Rat) (l i:Nat):Rat:=if i<aP k l then br k l i else k i
theorem Hl {k:Nat->Rat}:∀{b:Nat},(∀i,i<b->fI k i)->aP k b=b/\∀i,i<b->br k b i=k i
 |0,_=>⟨rfl,fun i hi=>by omega⟩
 |b+1,h=>by
  obtain⟨h1,h2⟩:=Hl (k:=k) (b:=b) fun i hi=>h i (by omega)
  rw[aP,br,if_pos (h b (by omega)),if_pos (h b (by omega)),h1]
  refine⟨rfl,fun i hi=>?_⟩
  unfold jK
  split
  ·rename_i e;rw[e]
  ·exact h2 i (by omega)
theorem ai5 {k:Nat->Rat} {b:Nat} (h:∀i,i<b->fI k i) (hb:¬fI k b):aP k (b+1)=b/\∀i,jy k (b+1) i=k i:=by
 obtain⟨h1,h2⟩:=Hl h
 have e:aP k (b+1)=b:=by rw[aP,if_neg hb,h1];rfl
 refine⟨e,fun i=>?_⟩
 unfold jy
 rw[e,br,if_neg hb]
 split
 ·exact h2 i ‹_›
 ·rfl
theorem Oj {k:Nat->Rat} {n:Nat} (h:∀i,i<n->fI k i):aP k n=n/\∀i,i<n->br k n i=k i:=Hl h
theorem ah3 {k:Nat->Rat} {l i:Nat} (h:fI k l) (hl:aP k l<=l):jy k (l+1) i=if i=aP k l then k l else jy k l i:=by
 unfold jy
 rw[aP,br,if_pos h,if_pos h]
 unfold jK
 by_cases h1:i=aP k l
 ·subst h1
  rw[if_pos (by omega),if_pos rfl,if_pos rfl]
 ·rw[if_neg h1]
  by_cases h2:i<aP k l
  ·rw[if_pos (by omega),if_pos h2,if_neg h1]
  ·rw[if_neg (by omega),if_neg h2,if_neg h1]
theorem VP {k:Nat->Rat} {l i:Nat} (h:¬fI k l):aP k (l+1)=aP k l/\jy k (l+1) i=jy k l i:=by
 unfold jy
 rw[aP,br,if_neg h,if_neg h]
 exact⟨rfl,rfl⟩
theorem KQ {k:Nat->Rat} {l:Nat} (h:fI k l):aP k (l+1)=aP k l+1:=by rw[aP,if_pos h]
theorem F3 {k:Nat->Rat} {l:Nat} (h:¬fI k l):aP k (l+1)=aP k l:=by rw[aP,if_neg h];rfl
theorem MM {k:Nat->Rat} {l i:Nat} (h:aP k l<=i):jy k l i=k i:=by unfold jy;rw[if_neg (by omega)]
theorem OT {k:Nat->Rat} {b:Nat} (hb:¬fI k b):∀{l:Nat},b<l->aP k l<l
 |0,h=>by omega
 |l+1,h=>by
  by_cases he:l=b
  ·subst he;rw[F3 hb];have:=mX (k:=k) (n:=l);omega
  ·have:=OT hb (l:=l) (by omega)
   have h2:=mX (k:=k) (n:=l)
   rw[aP];split<;>omega
theorem Kp {k:Nat->Rat} {i:Nat}:fI k (i+1)↔k (i+1)≠k i:=by
 unfold fI
 simp
open Classical in
theorem S2 {n:Nat} {k:Nat->Rat} {p:Int} (h:p<1\/6<p):gC n k p=1:=if_pos h
theorem ais {n:Nat} {k:Nat->Rat} {p:Int} (h:¬(p<1\/6<p)) (h2:(n:Int)<2*p+2):gC n k p=5:=by unfold gC;rw[if_neg h,if_pos h2]
theorem ah6 {n:Nat} {k:Nat->Rat} {p:Int} (h:¬(p<1\/6<p)) (h2:¬(n:Int)<2*p+2) (h3:40<(n:Int)-p-1):gC n k p=2:=by unfold gC;rw[if_neg h,if_neg h2,if_pos h3]
theorem aiM {n:Nat} {k:Nat->Rat} {p:Int} (h:¬(p<1\/6<p)) (h2:¬(n:Int)<2*p+2) (h3:¬40<(n:Int)-p-1) (h4:rU n k p.toNat):gC n k p=0:=by unfold gC;rw[if_neg h,if_neg h2,if_neg h3,if_pos h4]
theorem Gs {n:Nat} {k:Nat->Rat} {p:Int} (h:¬(p<1\/6<p)) (h2:¬(n:Int)<2*p+2) (h3:¬40<(n:Int)-p-1) (h4:¬rU n k p.toNat):gC n k p=5:=by unfold gC;rw[if_neg h,if_neg h2,if_neg h3,if_neg h4]
open Go Go.Am.N AV ag aq IntKind Proofs.Tryz
theorem adD:aW 109 f109:=aT func109
theorem C5:aW 144 f144:=aT func144
abbrev wq:List Nat:=[3,5,8,9,10]
abbrev y8 (n:Nat) (k:Nat->Rat) (c i:Nat):List AV:=[.ptr 0 0 3 0 [],.int .i64 c,ls k n,.int .i64 n,.int .i64 i]
abbrev zL:Code:=aF f109
abbrev sJ:Nat:=4000
abbrev gU (m:Nat) (k:Nat->Rat):au:=⟨true,true,3,m,fun i=>.rat (k i) sK⟩
abbrev xZ:List Nat:=[3,9,10,11]
abbrev E0 (n:Nat) (k:Nat->Rat) (i:Nat):List AV:=[.own 0 3 0 i,bD k n sJ,.int .i64 n,.int .i64 i]
abbrev nT:Code:=aF f144
theorem ahV {n:Nat} {k:Nat->Rat} {t:Rat}:aH T gP [] 60 wq (before zL [1,1,0,1]) ⟨aQ 0 [ls k n,.rat t sK],[],0⟩=
  some (leaf normal ([ptr 0 0 (bp (rat t sK)).size 0 [],int i64 0,ak 3 n fun i=>rat (k i) 4096,int i64 (↑n:Int),int i64 0],[(0,au.mk false true (bp (rat t sK)).size 1 fun x=>rat t 4096)])):=ah
theorem afe {n c i:Nat} {k:Nat->Rat} {t:Rat}:aH T gP [11,16] 60 wq [part zL [1,1,0,1,0,0]] ⟨aA wq (y8 n k c i),[(0,tP t sK)],1⟩=
  let c10:Int:=(↑n:Int);let c9:Prop:=0<1;let c8:Int:=(↑c:Int)+1;let c7:AV:=ak 3 n fun i=>rat (k i) 4096;let c5:Int:=(↑i:Int);let c4:AV:=ptr 0 0 3 0 [];let c2:Int:=(2:Int)^63;let c1:Nat×au:=((0:Nat),bP fun x=>rat t 4096);let c6:Int:=c5+1;let c3:List AV:=[c7,int i64 c10,int i64 c6];some (fork (decide (c5<c10)) (aj [(0:Int)<=c5/\c5.toNat<n,c9] (aj [c9,c9] (fork (decide (k c5.toNat=t)) (aj [-c2<=c8/\c8<c2] (aj [-c2<=c6/\c6<c2] (leaf normal (c4::int i64 c8::c3,[c1])))) (aj [-c2<=c6/\c6<c2] (leaf normal (c4::int i64 (↑c:Int)::c3,[c1])))))) (leaf (exit 0) ([c4,int i64 (↑c:Int),c7,int i64 c10,int i64 c5],[c1]))):=ah
theorem aiH {n c i:Nat} {k:Nat->Rat} {t:Rat}:cy T gP [] 60 f109 [part zL [1,1,1]] ⟨aA wq (y8 n k c i),[(0,tP t sK)],1⟩=
  some (leaf ret [int i64 (↑c:Int)]):=ah
theorem aeL {n:Nat} {k:Nat->Rat}:aH T gP [] 60 xZ (before nT [1,1,0,1]) ⟨aQ 0 [bD k n sJ],[],0⟩=
  let c1:Int:=(↑n:Int);some (aj [(0:Int)<=0/\(0:Int)<=c1/\c1<=2^47/\c1*(↑(56:Nat):Int)<=2^47] (leaf normal ([own 12288 3 0 0,ak 3 n fun i=>rat (k i) 4000,int i64 c1,int i64 0],[(12288,au.mk true true 3 0 fun x=>rat 0 1)]))):=ah
theorem RK {n i:Nat} {k:Nat->Rat}:aH T gP [12] 60 xZ [part nT [1,1,0,1,0,0]] ⟨aA xZ (E0 n k i),[(0,gU i k)],1⟩=
  let c4:Int:=(↑n:Int);let c2:AV:=ak 3 n fun i=>rat (k i) 4000;let c1:Int:=(↑i:Int);let c3:Int:=c1+1;some (fork (decide (c1<c4)) (aj [(0:Int)<=c1/\c1.toNat<n,(0:Nat)<1] (aj [(0:Nat)<1,(1:Nat)*3<=2^24,(i+1)*((56:Nat)+1)*2<=2^47] (aj [-(2:Int)^63<=c3/\c3<2^63] (leaf normal ([own 40961 3 0 (i+1),c2,int i64 c4,int i64 c3],[(40961,au.mk true true 3 (i+1) fun i_1=>if i_1<i then rat (k i_1) sK else nth [rat (k c1.toNat+0) (sJ+1+1)] (rat 0 1) (i_1-i+0))]))))) (leaf (exit 0) ([own 0 3 0 i,c2,int i64 c4,int i64 c1],[(0,au.mk true true 3 i fun i=>rat (k i) 4096)]))):=ah
theorem Vq {n i:Nat} {k:Nat->Rat}:aH T gP [] 60 [2] [part nT [1,1,1]] ⟨aA xZ (E0 n k i),[(0,gU i k)],1⟩=
  some (leaf ret ([own 0 3 0 i],[(0,au.mk true true 3 i fun i=>rat (k i) 4096)])):=ah
theorem agy {k:Nat->Rat} {t:Rat} {i:Nat} (h:k i=t):bW k t (i+1)=bW k t i+1:=by rw[bW,if_pos h]
theorem QW {k:Nat->Rat} {t:Rat} {i:Nat} (h:¬k i=t):bW k t (i+1)=bW k t i:=by rw[bW,if_neg h];rfl
theorem SU {n:Nat} {k:Nat->Rat} {t:Rat} (hn:n<2^40) (K:Nat):aS P 109 K [ls k n,.rat t sK] [] (aJ (.int .i64 (bW k t n)) []):=by
 refine iB (r:=aJ (.int .i64 (bW k t n)) []) hT lY hm adD rfl aV rfl [1,1,0,1] (i:=0) (y:=part zL [1,1,0,1,0,0]) (z:=part zL [1,1,1]) ah ah ah (f1:=[]) (f2:=[11,16]) (f3:=[]) 60 wq 1
  (fun i:Nat=>y8 n k (bW k t i) i) (fun _=>[(0,tP t sK)]) (fun i=>i<=n) (fun i=>i=n) (fun i=>n-i) (fun _=>⟨⟨_,ahV,?_⟩,fun i hi=>⟨_,afe,?_⟩,fun i hi=>⟨_,aiH,?_⟩⟩) K []
 ·simp only[ag.all,az]
  exact⟨0,Nat.zero_le _,[(0,0)],rfl,rfl,rfl,aM trivial⟩
 ·have h1:=Qi (k:=k) (t:=t) (n:=i)
  simp only[ag.all,az,bk,bt,bf,Nat.add_zero]
  refine⟨fun h2=>⟨aa,aa,fun h3=>⟨aa,aa,i+1,aa,by dsimp only;omega,[(0,0)],rfl,?_,rfl,aM trivial⟩,fun h3=>⟨aa,i+1,aa,by dsimp only;omega,[(0,0)],rfl,?_,rfl,aM trivial⟩⟩,fun h2=>⟨rfl,i,aa,[(0,0)],rfl,rfl,rfl,aM trivial⟩⟩
  ·show _=(y8 n k (bW k t (i+1)) (i+1)).map _
   rw[agy h3];rfl
  ·show _=(y8 n k (bW k t (i+1)) (i+1)).map _
   rw[QW h3];rfl
 ·subst hi
  simp only[ag.all,az]
  exact .refl _
abbrev agn:sA ((Nat×(Nat->Rat))×Rat×Unit):=kC (kL sK) (kC (gp sK) kN)
def Fk:Spec:=cA agn (fun a=>.int .i64 (bW a.1.2 a.2.1 a.1.1)) fun a=>[a.1.1<2^40]
theorem Mt:aU P Fk 109:=ct fun⟨⟨n,k⟩,t,_⟩ K hn=>SU hn K
theorem afz {args:List AV} {n:Nat} {k:Nat->Rat} {l:List Prop} (ha:az l->gO (bC []) args [bD k n sJ]) (hn:az l->n<2^40) (K:Nat):aS P 144 K args [] ⟨mA [.own K 3 0 n],[(K,gU n k)],l⟩:=by
 refine FC hT C5 ha aV fun need c hk=>?_
 have hn:=hn need
 refine ax.lQ hT lY hm [1,1,0,1] (i:=0) (y:=part nT [1,1,0,1,0,0]) (z:=part nT [1,1,1]) ah ah ah C5.dst hk (f1:=[]) (f2:=[12]) 60 xZ 1 (fun i:Nat=>E0 n k i) (fun i=>[(0,gU i k)])
  (fun i=>i<=n) (fun i=>i=n) (fun i=>n-i) (fun _=>False) ⟨_,aeL,?_⟩ (fun i hi=>⟨_,RK,?_⟩) (fun i hi=>?_) (fun _ _ h=>h.elim)
 ·simp only[ag.all,az]
  exact⟨aa,0,Nat.zero_le _,[(0,12288)],rfl,rfl,rfl,b7 rfl rfl rfl (fun i hi=>absurd hi (Nat.not_lt_zero i)) trivial⟩
 ·simp only[ag.all,az,bk,bt,bf,Nat.add_zero]
  exact⟨fun h2=>⟨aa,aa,aa,i+1,aa,by dsimp only;omega,[(0,40961)],rfl,rfl,rfl,b7 rfl rfl rfl (fun j hj=>v9 (fun _ _=>rfl) (Rat.add_zero _) bz (by decide) hj) trivial⟩,fun h2=>⟨rfl,i,aa,[(0,0)],rfl,rfl,rfl,b7 rfl rfl rfl (fun j hj=>cR rfl rfl) trivial⟩⟩
 ·subst hi
  refine ax.bE hT lY hm 60 [2] Vq ah fun s' hs'=>⟨.inr rfl,[2],_,[.own 0 3 0 i],_,0,_,hs',ah,⟨⟨rfl,cP (by simp[bC,look]) rfl rfl⟩,trivial⟩,rfl,jR rfl fun i hi=>gy rfl⟩
def QL:Spec:=rY fun K l=>match l with
 |[v]=>match(kL sJ).read v with
  |some ((n,k),q)=>some ⟨.own K 3 0 n,[(K,gU n k)],q++[n<2^40]⟩
  |none=>none
 |_=>none
theorem XM:aU P QL 144:=by
 refine wS fun K args r hk hs=>?_
 split at hs
 ·rename_i v
  split at hs
  ·rename_i n k q hv
   simp only[ay]at hs
   subst hs
   exact afz (fun hn=>yX hk (by cases v<;>first|rfl|simp[kL,BM]at hv) ⟨(kL sJ).ok hv (fD.1 hn).1,trivial⟩) (fun hn=>(fD (a:=q) (b:=[n<2^40]).1 hn).2) K
  ·simp at hs
 ·simp at hs
theorem Mb:aW 143 f143:=aT func143
theorem aal:aW 68 f68:=aT func68
abbrev uv:Func:=f143
abbrev wG:Code:=aF uv
abbrev vi:Code:=part wG [1,1,0,1,0,0]
abbrev ux:Code:=part vi [1,0,0]
abbrev qz:Code:=part ux [1,0]
abbrev k8:List Nat:=[4,0,1,5]
abbrev zB (n i:Nat):List AV:=[.nil,.own 0 3 0 n,.func 63 [],.int .i64 i]
abbrev A0:List Nat:=[4,0,1,5,28]
abbrev DC (n i:Nat) (b:Bool):List AV:=[.nil,.own 0 3 0 n,.func 63 [],.int .i64 i,.bool b]
abbrev yp:List Nat:=[4,0,1,5,6,7]
abbrev uN (n m b j:Nat):List AV:=[.nil,.own 0 3 0 n,.func 63 [],.int .i64 m,.own 0 3 b (n-b),.int .i64 j]
theorem Sy {n:Nat} {k:Nat->Rat}:aH T gP [10] 60 k8 (before wG [1,1,0,1]) ⟨aQ 0 [.own 0 3 0 n,.func 63 []],[(0,gU n k)],1⟩=
  let c2:Nat×au:=(0,au.mk true true 3 n fun i=>rat (k i) 4096);let c1:AV:=own 0 3 0 n;some (fork (decide ((↑n:Int)<2)) (leaf ret ([c1,c1,func 63 [],tuple []],[c2])) (leaf normal ([nil,c1,func 63 [],int i64 1],[c2]))):=ah
theorem Rz {n i:Nat} {k:Nat->Rat}:aH T gP [15] 60 k8 (before vi [1,0]) ⟨aA k8 (zB n i),[(0,gU n k)],1⟩=
  let c1:List AV×aC:=([nil,own 0 3 0 n,func 63 [],int i64 (↑i:Int)],[(0,au.mk true true 3 n fun i=>rat (k i) 4096)]);some (fork (decide ((↑i:Int)<(↑n:Int))) (leaf normal c1) (leaf (exit 0) c1)):=ah
theorem ad8 {n i:Nat} {k:Nat->Rat}:aH T gP [] 60 A0 (before ux [1]) ⟨aA k8 (zB n i),[(0,gU n k)],1⟩=
  let c4:Int:=(↑i:Int);let c2:Nat:=c4.toNat+0;let c1:Int:=c4-1;let c3:Nat:=c1.toNat+0;some (aj [(0:Int)<=c4/\c4.toNat<n,c2<n,-(2:Int)^63<=c1/\c1<2^63,(0:Int)<=c1/\c1.toNat<n,c3<n] (leaf normal ([nil,own 0 3 0 n,func 63 [],int i64 c4,AV.bool (decide (k c2=k c3))],[(0,au.mk true true 3 n fun i=>rat (k i) 4096)]))):=ah
theorem Q1 {n i:Nat} {b:Bool} {k:Nat->Rat}:aH T gP [] 60 yp (before qz [1,0,1]) ⟨aA A0 (DC n i b),[(0,gU n k)],1⟩=
  let c2:Int:=(↑i:Int);let c1:Int:=(↑n:Int);some (aj [(0:Int)<=c2/\c2<=c1/\c1<=c1/\c1<=c1] (leaf normal ([nil,own 0 3 0 n,func 63 [],int i64 c2,own 0 3 ((0:Nat)+c2.toNat) (c1.toNat-c2.toNat),int i64 1],[(0,au.mk true true 3 n fun i=>rat (k i) 4096)]))):=ah
theorem SQ {n m b j:Nat} {k:Nat->Rat}:aH T gP [35,49] 60 yp [part qz [1,0,1,0,0]] ⟨aA yp (uN n m b j),[(0,gU n k)],1⟩=
  let c11:AV:=func 63 [];let c7:AV:=own 0 3 b (n-b);let c6:Nat×au:=(0,au.mk true true 3 n fun i=>rat (k i) 4096);let c5:Int:=(↑m:Int);let c4:AV:=own 0 3 0 n;let c2:Int:=(2:Int)^63;let c1:Int:=(↑j:Int);let c13:Int:=c5+1;let c12:Prop:=(0:Int)<=c1/\c1.toNat<n-b;let c10:Nat:=c5.toNat+0;let c9:Nat:=c1.toNat+b;let c8:Int:=c1+1;let c3:Int:=c1-1;some (fork (decide (c1<(↑(n-b):Int))) (aj [c12,c9<n,-c2<=c3/\c3<c2,(0:Int)<=c3/\c3.toNat<n-b,c3.toNat+b<n] (fork (!decide (k c9=k (c3.toNat+b))) (aj [c12,c9<n,(0:Int)<=c5/\c5.toNat<n,c10<n] (aj [-c2<=c13/\c13<c2] (aj [-c2<=c8/\c8<c2] (leaf normal ([nil,c4,c11,int i64 c13,c7,int i64 c8],[(0,au.mk true true 3 n fun j=>rat (bif j==c10 then k c9 else k j) (bif j==c10 then sK else sK))]))))) (aj [-c2<=c8/\c8<c2] (leaf normal ([nil,c4,c11,int i64 c5,c7,int i64 c8],[c6]))))) (leaf (exit 2) ([nil,c4,c11,int i64 c5,c7,int i64 c1],[c6]))):=ah
theorem XN {n m b j:Nat} {k:Nat->Rat}:aH T gP [] 60 k8 [part qz [1,1]] ⟨aA yp (uN n m b j),[(0,gU n k)],1⟩=
  let c4:Int:=(↑n:Int);let c2:Int:=(↑m:Int);let c3:Nat:=0+c2.toNat;let c1:Nat:=c3+(c4.toNat-c2.toNat);some (aj [(0:Int)<=c2/\c2<=c4/\c4<=c4/\c4<=c4] (aj [(0:Int)<=0/\(0:Int)<=c2/\c2<=c2/\c2<=c4] (leaf ret ([own 0 3 0 (c2.toNat-Int.toNat (0:Int)),own 0 3 0 n,func 63 [],int i64 c2],[(0,au.mk true true 3 n fun i=>if c3<=i/\i<c1 then rat 0 1 else rat (k i) sK)])))):=ah
theorem XX {n i:Nat} {b:Bool} {k:Nat->Rat}:aH T gP [] 60 k8 [part ux [1,1],part vi [1,1]] ⟨aA A0 (DC n i b),[(0,gU n k)],1⟩=
  let c1:Int:=(↑i:Int)+1;some (aj [-(2:Int)^63<=c1/\c1<2^63] (leaf normal ([nil,own 0 3 0 n,func 63 [],int i64 c1],[(0,au.mk true true 3 n fun i=>rat (k i) 4096)]))):=ah
theorem adJ {n i:Nat} {k:Nat->Rat}:aH T gP [] 60 k8 [part wG [1,1,1]] ⟨aA k8 (zB n i),[(0,gU n k)],1⟩=
  let c1:AV:=own 0 3 0 n;some (leaf ret ([c1,c1,func 63 [],int i64 (↑i:Int)],[(0,au.mk true true 3 n fun i=>rat (k i) 4096)])):=ah
def l6 (k:Nat->Rat) (n i:Nat):Rat:=if i<aP k n then br k n i else 0
theorem aaz {k:Nat->Rat} {n:Nat} (h:∀j,j<n->fI k j) {i:Nat} (hi:i<n):aP k n=n/\l6 k n i=k i:=by
 obtain⟨h1,h2⟩:=Oj h
 unfold l6
 rw[h1,if_pos hi]
 exact⟨rfl,h2 i hi⟩
theorem Ss {kk n:Nat} {k:Nat->Rat} (hn:n<2^40) (c:Ctx) (hk:Kept [0] c):ax P c uv.ntmps wG ⟨aQ 0 [.own 0 3 0 n,.func 63 []],[(0,gU n k)],1⟩ (Ef uv kk [.own kk 3 0 (aP k n)] (gU n (l6 k n))):=by
 have hall:∀{L:List Nat} {us:List AV},(∀j,j<n->fI k j)->mQ (aA L us) uv.results.toList=some [.own 0 3 0 n]->Ae uv kk [.own kk 3 0 (aP k n)] (gU n (l6 k n)) L (us,[(0,gU n k)]):=fun h1 h2=>
  ⟨_,_,h2,⟨⟨rfl,cP (by simp[bC,look]) rfl (Oj h1).1.symm⟩,trivial⟩,CA,rfl,rfl,rfl,rfl,fun i hi=>by
   show gz _ (.rat (k i) sK) (.rat (l6 k n i) sK)
   rw[(aaz h1 hi).2];exact gy rfl⟩
 refine ax.Ac hT lY hm [1,1,0,1] (i:=0) (y:=vi) (z:=part wG [1,1,1]) ah ah ah Mb.dst hk (f1:=[10]) 60 k8 1 (fun i:Nat=>zB n i) (fun _=>[(0,gU n k)]) (fun i=>1<=i/\i<=n/\∀j,j<i->fI k j) (fun i=>i=n/\∀j,j<n->fI k j) (fun i=>n-i)
  (Ae uv kk [.own kk 3 0 (aP k n)] (gU n (l6 k n)) k8) ⟨_,Sy,?_⟩ (fun i ⟨h1,h2,h3⟩=>?_) (fun i ⟨h1,h2⟩=>?_) (fun v s' hv hs'=>hv.fin hs')
 ·simp only[ag.all,az,bk,bt]
  exact⟨fun h=>hall (fun j hj=>.inl aa) ah,fun h=>⟨1,⟨aa,aa,fun j hj=>.inl aa⟩,[(0,0)],rfl,rfl,rfl,b7 rfl rfl rfl (fun x hx=>cR rfl rfl) trivial⟩⟩
 ·refine ax.u5 hT lY hm (y:=vi) (x1:=ux) (zb:=part vi [1,1]) [1,0] (j:=1) ah ah ah ah hk (f1:=[15]) 60 k8 1 (fun _:Unit=>zB n i) (fun _=>[(0,gU n k)]) (fun _=>i<n) ⟨_,Rz,?_⟩ (fun _ hlt=>?_)
  ·simp only[ag.all,az,bk,bt]
   exact⟨fun h=>⟨(),aa,[(0,0)],rfl,rfl,rfl,b7 rfl rfl rfl (fun x hx=>cR rfl rfl) trivial⟩,fun h s' hs'=>⟨rfl,i,⟨aa,fun j hj=>h3 j aa⟩,dN.le ⟨[(0,0)],rfl,rfl,rfl,b7 rfl rfl rfl (fun x hx=>cR rfl rfl) trivial⟩ hs' hk⟩⟩
  refine ax.branch hT lY hm (x:=ux) (u:=qz) (v:=part ux [1,1]) (b:=.tmp 28) [1] ah ah ah ah hk (f1:=[]) 60 A0 1 (fun _:Unit=>DC n i (decide (k i=k (i-1)))) (fun _=>[(0,gU n k)]) (fun _=>True) ⟨_,ad8,?_⟩ (fun _ _=>⟨decide (k i=k (i-1)),rfl,fun hb=>?_,fun hb=>?_⟩)
  ·simp only[ag.all,az]
   simp only[bf,Nat.add_zero,show((i:Int)-1).toNat=i-1 by omega]
   exact⟨⟨⟨aa,aa⟩,aa,aa,⟨aa,aa⟩,aa⟩,(),trivial,[(0,0)],rfl,rfl,rfl,b7 rfl rfl rfl (fun x hx=>cR rfl rfl) trivial⟩
  ·have hold:¬fI k i:=fun h=>by
    rcases h with h|h
    ·omega
    ·exact h (of_decide_eq_true hb)
   obtain⟨s1,s2⟩:=ai5 h3 hold
   refine ax.zn hT lY hm (x:=qz) [1,0,1] (i:=2) (y:=part qz [1,0,1,0,0]) ah ah ah hk (f1:=[]) (f2:=[35,49]) 60 yp 1 (fun j:Nat=>uN n (aP k (i+j)) i j) (fun j=>[(0,gU n (jy k (i+j)))]) (fun j=>1<=j/\i+j<=n) (fun j=>i+j=n) (fun j=>n-j) (fun _=>False) ⟨_,Q1,?_⟩ (fun j ⟨j1,j2⟩=>⟨_,SQ,?_⟩) (fun j s' hj hle=>?_) (fun _ _ h=>h.elim)
   ·simp only[ag.all,az]
    simp only[bf,Nat.zero_add]
    refine⟨aa,1,⟨aa,aa⟩,[(0,0)],rfl,?_,rfl,b7 rfl rfl rfl (fun x hx=>cR rfl ?_) trivial⟩
    ·show _=(uN n (aP k (i+1)) i 1).map _
     rw[s1];rfl
    ·rw[s2]
   ·simp only[ag.all,az,bk,bt]
    have hd:=OT hold (l:=i+j) aa
    have e1:jy k (i+j) (j+i)=k (i+j):=by rw[Nat.add_comm j i];exact MM aa
    have e2:jy k (i+j) (((j:Int)-1).toNat+i)=k (i+j-1):=by rw[show((j:Int)-1).toNat+i=i+j-1 by omega];exact MM aa
    simp only[bf,Nat.add_zero,e1,e2,Bool.not_eq_true',Bool.not_eq_false',bk,bt]
    refine⟨fun h=>⟨aa,fun hne=>⟨aa,aa,aa,j+1,aa,by dsimp only;omega,[(0,0)],rfl,?_,rfl,b7 rfl rfl rfl (fun x hx=>?_) trivial⟩,fun heq=>⟨aa,j+1,aa,by dsimp only;omega,[(0,0)],rfl,?_,rfl,b7 rfl rfl rfl (fun x hx=>?_) trivial⟩⟩,fun h=>⟨rfl,j,aa,[(0,0)],rfl,rfl,rfl,b7 rfl rfl rfl (fun x hx=>cR rfl rfl) trivial⟩⟩
    ·show _=(uN n (aP k (i+j+1)) i (j+1)).map _
     rw[KQ (l:=i+j) (.inr hne)];rfl
    ·refine .inr ⟨rfl,cB ?_ (by cases (x==aP k (i+j))<;>exact Nat.le_refl _)⟩
     show _=jy k (i+j+1) x
     rw[ah3 (.inr hne) aa]
     by_cases hx2:x=aP k (i+j)
     ·subst hx2;simp
     ·have:(x==aP k (i+j))=false:=by simpa using hx2
      rw[this,if_neg hx2];rfl
    ·have hold2:¬fI k (i+j):=fun h=>by
      rcases h with h|h
      ·omega
      ·exact h heq
     show _=(uN n (aP k (i+j+1)) i (j+1)).map _
     rw[F3 hold2];rfl
    ·have hold2:¬fI k (i+j):=fun h=>by
      rcases h with h|h
      ·omega
      ·exact h heq
     exact cR rfl (by show _=AV.rat (jy k (i+j+1) x) sK;rw[(VP hold2).2])
   ·rw[show behind qz [1,0,1]=[part qz [1,1]]from by kernel_rfl]
    refine aG.weak rfl hle (aG.bE hT lY hm 60 k8 XN ah ?_)
    simp only[ag.all,az]
    rw[hj]
    have hd:=mX (k:=k) (n:=n)
    simp only[bf,Nat.zero_add]
    refine⟨aa,aa,fun s' hs'=>⟨_,⟨[.own 0 3 0 (aP k n)],⟨true,true,3,n,fun i=>if aP k n<=i/\i<aP k n+(n-aP k n)then .rat 0 1 else .rat (jy k n i) sK⟩,ah,⟨⟨rfl,cP (by simp[bC,look]) rfl rfl⟩,trivial⟩,rfl,⟨rfl,rfl,rfl,rfl,fun x hx=>?_⟩⟩,hs'⟩⟩
    have hx:x<n:=hx
    refine nS (th rfl rfl) ?_
    show bh (if _ then _ else _) (.rat (l6 k n x) sK)
    unfold l6
    by_cases h:x<aP k n
    ·rw[if_neg aa,if_pos h]
     exact dX (by unfold jy;rw[if_pos h])
    ·rw[if_pos aa,if_neg h]
     exact ey (by decide)
  ·have hnew:fI k i:=.inr (of_decide_eq_false hb)
   refine ax.tail (fun s' hh=>by have:=hh.1;omega) (aG.bE hT lY hm 60 k8 XX ah ?_)
   simp only[ag.all,az]
   refine⟨aa,fun s' hs'=>⟨i+1,⟨aa,aa,fun j hj=>?_⟩,by dsimp only;omega,dN.le ⟨[(0,0)],rfl,rfl,rfl,b7 rfl rfl rfl (fun x hx=>cR rfl rfl) trivial⟩ hs' hk⟩⟩
   by_cases he:j=i
   ·subst he;exact hnew
   ·exact h3 j aa
 ·subst h1
  refine ax.bE hT lY hm 60 k8 adJ ah ?_
  simp only[ag.all,az]
  exact fun s' hs'=>(hall h2 ah).fin hs'
def Fw (f:Nat->AV) (n s:Nat):Prop:=∀i,i<n->keys (f i)=[]/\bh (f i) (.rat (aE (f i)) s)
theorem adM {k:Nat->Rat} {n s s':Nat} (h:s<=s'):Fw (fun i=>.rat (k i) s) n s':=fun _ _=>⟨rfl,ey h⟩
def Gj:Spec:=fun _ args pre=>match args,pre with
 |[.own k 3 0 n,.func g []],[(k',⟨true,true,3,m,f⟩)]=>match Nat.beq g 63&&k'==k with
  |true=>some ⟨mA [.own k 3 0 (aP (fun i=>aE (f i)) n)],[(k,gU n (l6 (fun i=>aE (f i)) n))],[m=n,Fw f n sK,n<2^40]⟩
  |false=>none
 |_,_=>none
theorem agp:aU P Gj 143:=by
 intro K args pre r h
 unfold Gj at h
 split at h
 ·rename_i k n g k' m f
  split at h
  ·rename_i hc
   simp only[Bool.and_eq_true,beq_iff_eq]at hc
   obtain⟨h1,h2⟩:=hc
   have h1:=Nat.eq_of_beq_eq_true h1
   subst h1 h2
   simp only[ay]at h
   subst h
   intro need
   have h0:=need
   obtain⟨rfl,n1,n2⟩:=need
   exact Vs hT Mb (rest:=[.func 63 []]) (o2:=⟨true,true,3,m,f⟩) (o:=gU m fun i=>aE (f i)) rfl rfl aV (fun ρ=>⟨rfl,rfl,rfl,rfl,fun i hi=>nS (n1 i hi).1 (n1 i hi).2⟩) (fun _ c hk=>Ss n2 c hk) K h0
  ·simp at h
 ·simp at h
theorem aiN:aW 19 f19:=aT func19
theorem ajO:aW 151 f151:=aT func151
abbrev s9:Code:=aF f19
abbrev pJ:List Nat:=[0,3,4]
abbrev pE (n:Nat) (k:Nat->Rat) (v:AV) (i:Int):List AV:=[bD k n sJ,v,.int .i64 i]
abbrev C1 (m:Nat) (k:Nat->Rat):au:=⟨true,true,3,m,fun i=>.rat (k i) sJ⟩
abbrev zF:Code:=aF f151
abbrev yO:List Nat:=[4,0,1,5]
abbrev Dr (n:Nat) (k:Nat->Rat) (i:Nat):List AV:=[.bool false,ls k n,.func 108 [],.int .i64 ((i:Int)-1)]
def JQ:aX:=[(144,QL),(143,Gj)]
theorem VO {n:Nat} {k:Nat->Rat}:aH T uH [] 60 pJ (before s9 [1,1,0,1]) ⟨aQ 0 [bD k n sJ],[],0⟩=
  some (leaf normal ([ak 3 n fun i=>rat (k i) 4000,nil,int i64 0],[])):=ah
theorem aja {n:Nat} {k:Nat->Rat}:aH T uH [8,13,25] 60 pJ [part s9 [1,1,0,1,0,0]] ⟨aA pJ (pE n k .nil 0),[],1⟩=
  let c6:Int:=(2:Int)^63;let c5:Nat:=Int.toNat (0:Int);let c4:Int:=(0:Int)-1;let c3:AV:=ak 3 n fun i=>rat (k i) 4000;let c8:Prop:=(0:Int)<=0/\c5<n;let c2:Prop:=-c6<=0+(1:Int)/\(0:Int)+1<c6;let c7:ag (List AV×aC):=aj [c2] (leaf normal ([c3,nil,int i64 1],[]));let c1:ag (List AV×aC):=aj [c8,(1:Nat)*3<=2^24,(0:Nat)<1/\1*((56:Nat)+1)*2<=2^47] (aj [c2] (leaf normal ([c3,own 102401 3 0 1,int i64 1],[(102401,au.mk true true 3 1 fun i=>nth [rat (k c5) sJ] (rat 0 1) (i+0))])));some (fork (decide ((0:Int)<(↑n:Int))) (fork true (aj [((0:Int)==0)=true] (fork true c1 c7)) (aj [((0:Int)==0)=false,c8,-c6<=c4/\c4<c6,(0:Int)<=c4/\c4.toNat<n] (fork (bif false then true else !decide (k c5=k c4.toNat)) c1 c7))) (leaf (exit 0) ([c3,nil,int i64 0],[]))):=ah
theorem ahx {n l i:Nat} {k x:Nat->Rat}:aH T uH [8,13,25] 60 pJ [part s9 [1,1,0,1,0,0]] ⟨aA pJ (pE n k (.own 0 3 0 (l+1)) ((i+1:Nat):Int)),[(0,C1 (l+1) x)],1⟩=
  let c6:AV:=ak 3 n fun i=>rat (k i) 4000;let c5:Nat:=l+1;let c4:Int:=(2:Int)^63;let c2:Int:=(↑(i+1):Int);let c12:Nat:=c5+1;let c11:Prop:=(0:Int)<=c2/\c2.toNat<n;let c10:AV:=own 0 3 0 c5;let c9:Int:=c2+1;let c8:Int:=c2-1;let c7:Nat×au:=(0,au.mk true true 3 c5 fun i=>rat (x i) 4000);let c3:ag (List AV×aC):=aj [-c4<=c9/\c9<c4] (leaf normal ([c6,c10,int i64 c9],[c7]));let c1:ag (List AV×aC):=aj [c11,(1:Nat)*3<=2^24,c12*((56:Nat)+1)*2<=2^47] (aj [-c4<=c9/\c9<c4] (leaf normal ([c6,own 102401 3 0 c12,int i64 c9],[(102401,au.mk true true 3 c12 fun i=>if i<c5 then rat (x i) sJ else nth [rat (k c2.toNat) sJ] (rat 0 1) (i-c5+0))])));some (fork (decide (c2<(↑n:Int))) (fork false (aj [(c2==0)=true] (fork true c1 c3)) (aj [(c2==0)=false,c11,-c4<=c8/\c8<c4,(0:Int)<=c8/\c8.toNat<n] (fork (bif false then true else !decide (k c2.toNat=k c8.toNat)) c1 c3))) (leaf (exit 0) ([c6,c10,int i64 c2],[c7]))):=ah
theorem ac8 {n:Nat} {k:Nat->Rat}:cy T uH [] 60 f19 [part s9 [1,1,1]] ⟨aA pJ (pE n k .nil 0),[],1⟩=
  some (leaf ret [nil]):=ah
theorem ajk {n l i:Nat} {k x:Nat->Rat}:cy T uH [] 60 f19 [part s9 [1,1,1]] ⟨aA pJ (pE n k (.own 0 3 0 (l+1)) ((i+1:Nat):Int)),[(0,C1 (l+1) x)],1⟩=
  some (leaf ret [ak 3 (l+1) fun i=>rat (x (i+0)) 4000]):=ah
theorem ae4 {n:Nat} {k:Nat->Rat}:aH T gP [] 60 yO (before zF [1,0,1]) ⟨aQ 0 [ls k n,.func 108 []],[],0⟩=
  let c1:Int:=(↑n:Int)-1;some (aj [-(2:Int)^63<=c1/\c1<2^63] (leaf normal ([AV.bool false,ak 3 n fun i=>rat (k i) 4096,func 108 [],int i64 c1],[]))):=ah
theorem Tt {n i:Nat} {k:Nat->Rat}:aH T gP [10,24] 60 yO [part zF [1,0,1,0,0]] ⟨aA yO (Dr n k i),[],1⟩=
  let c5:AV:=ak 3 n fun i=>rat (k i) 4096;let c4:Int:=(2:Int)^63;let c1:Int:=(↑i:Int)-1;let c3:List AV:=[AV.bool false,c5,func 108 [],int i64 c1];let c2:Int:=c1-1;let c6:Int:=ep (k c1.toNat) (k c2.toNat);some (fork (decide (c1>0)) (aj [(0:Int)<=c1/\c1.toNat<n,-c4<=c2/\c2<c4,(0:Int)<=c2/\c2.toNat<n] (fork (decide (c6<0)) (leaf ret (c3,[])) (aj [-c4<=c2/\c2<c4] (leaf normal ([AV.bool false,c5,func 108 [],int i64 c2],[]))))) (leaf (exit 0) (c3,[]))):=ah
theorem aa6 {n i:Nat} {k:Nat->Rat}:cy T gP [] 60 f151 [part zF [1,1]] ⟨aA yO (Dr n k i),[],1⟩=
  some (leaf ret [AV.bool true]):=ah
theorem aai {n:Nat} {k:Nat->Rat}:bU T JQ [] 60 f68 (aF f68) ⟨aQ 0 [bD k n sJ],[],0⟩=
  let c1:Prop:=n<2^40;some (aj [bn (fun i=>rat (k i) sJ) n sJ,c1,n=n,Fw (fun i=>rat (aE (rat (k i) sJ)) sK) n sK,c1] (leaf ret [ak 3 (aP (fun i=>aE (rat (aE (rat (k i) sJ)) sK)) n) fun i=>rat (l6 (fun i=>aE (rat (aE (rat (k i) sJ)) sK)) n (i+0)) 4096])):=ah
def kF (g:FuncId):Kind Unit:=⟨fun v=>match v with
 |.func f []=>match Nat.beq f g with
  |true=>some ((),[])
  |false=>none
 |_=>none,fun _=>.func g [],fun {v a q} h _=>by
  split at h
  ·split at h
   ·rename_i hb
    rw[Nat.eq_of_beq_eq_true hb];exact .refl _
   ·simp at h
  ·simp at h⟩
def qR (p:Prop):Bool:=@decide p (Classical.propDecidable p)
theorem Vu {p:Prop} (h:p):qR p=true:=@decide_eq_true p (Classical.propDecidable p) h
theorem XS {p:Prop} (h:¬p):qR p=false:=@decide_eq_false p (Classical.propDecidable p) h
theorem adI {p:Prop} (h:qR p=true):p:=@of_decide_eq_true p (Classical.propDecidable p) h
theorem ajc {p:Prop} (h:qR p=false):¬p:=@of_decide_eq_false p (Classical.propDecidable p) h
theorem ab6 {n:Nat} {k:Nat->Rat} (hn:n<2^40) (K:Nat):aS P 151 K [ls k n,.func 108 []] [] (aJ (.bool (qR (qK n k))) []):=by
 refine iB (r:=aJ (.bool (qR (qK n k))) []) hT lY hm ajO rfl aV rfl [1,0,1] (i:=0) (y:=part zF [1,0,1,0,0]) (z:=part zF [1,1]) ah ah ah (f1:=[]) (f2:=[10,24]) (f3:=[]) 60 yO 1
  (fun i:Nat=>Dr n k i) (fun _=>[]) (fun i=>i<=n/\∀j,i<=j+1->j+1<n->k j<=k (j+1)) (fun _=>qK n k) (fun i=>i) (fun _=>⟨⟨_,ae4,?_⟩,fun i ⟨h1,h2⟩=>⟨_,Tt,?_⟩,fun i hi=>⟨_,aa6,?_⟩⟩) K []
 ·simp only[ag.all,az]
  exact⟨aa,n,⟨bz,fun j h1 h2=>aa⟩,dN.vals rfl⟩
 ·simp only[ag.all,az,bk,bt,rH]
  refine⟨fun h=>⟨aa,fun hlt=>⟨[.bool false],ah,fF ?_⟩,fun hle=>⟨aa,i-1,⟨aa,fun j g1 g2=>?_⟩,by dsimp only;omega,[],rfl,?_,rfl,trivial⟩⟩,fun h=>⟨rfl,i,fun j hj=>h2 j aa hj,[],rfl,rfl,rfl,trivial⟩⟩
  ·refine(XS fun hs=>?_).symm
   have:=hs (i-2) aa
   rw[show((i:Int)-1).toNat=i-2+1 by omega,show((i:Int)-1-1).toNat=i-2 by omega]at hlt
   grind
  ·by_cases he:j+2=i
   ·rw[show((i:Int)-1).toNat=j+1 by omega,show((i:Int)-1-1).toNat=j by omega]at hle
    grind
   ·exact h2 j aa g2
  ·show _=[_,_,_,AV.int .i64 (((i-1:Nat):Int)-1)]
   rw[show((i-1:Nat):Int)-1=(i:Int)-1-1 by omega];rfl
 ·simp only[ag.all,az]
  exact fF (Vu hi).symm
def P7:Spec:=cA (kC (kL sK) (kC (kF 108) kN)) (fun a=>.bool (qR (qK a.1.1 a.1.2))) fun a=>[a.1.1<2^40]
theorem agX:aU P P7 151:=ct fun⟨⟨n,k⟩,_,_⟩ K hn=>ab6 hn K
def DI:Spec:=cA (kC (kL sJ) kN) (fun a=>ls (br a.1.2 a.1.1) (aP a.1.2 a.1.1)) fun a=>[a.1.1<2^40]
theorem abm:bq P JQ:=aI XM (aI agp bB)
theorem Kg:aU P DI 68:=ct fun⟨⟨n,k⟩,_⟩ K hn=>by
 have hn:n<2^40:=hn
 refine bX (r:=aJ (ls (br k n) (aP k n)) []) hT abm hm aal rfl aV rfl 60 aai (fun _=>?_) K []
 simp only[ag.all,az]
 exact⟨⟨bI bz,hn,trivial,adM bz,hn⟩,tu rfl fun i hi=>by
  show AV.rat (l6 k n (i+0)) sK=_
  have hi:i<aP k n:=hi
  rw[Nat.add_zero];unfold l6;rw[if_pos hi]⟩
theorem abq:aU P DI 19:=ct fun⟨⟨n,k⟩,_⟩ K hn=>by
 have hn:n<2^40:=hn
 refine iB (r:=aJ (ls (br k n) (aP k n)) []) hT ahS hm aiN rfl aV rfl [1,1,0,1] (i:=0) (y:=part s9 [1,1,0,1,0,0]) (z:=part s9 [1,1,1]) ah ah ah (f1:=[]) (f2:=[8,13,25]) (f3:=[]) 60 pJ 1
  (fun i:Nat=>pE n k (match i with
   |0=>.nil
   |_+1=>.own 0 3 0 (aP k i)) i) (fun i=>match i with
   |0=>[]
   |_+1=>[(0,C1 (aP k i) (br k i))]) (fun i=>i<=n) (fun i=>i=n) (fun i=>n-i) (fun _=>⟨⟨_,VO,?_⟩,fun i hi=>?_,fun i hi=>?_⟩) K []
 ·simp only[ag.all,az]
  exact⟨0,Nat.zero_le _,dN.vals rfl⟩
 ·cases i with
  |zero=>
   refine⟨_,aja,?_⟩
   simp only[ag.all,az,bk,bt]
   have e1:aP k 1=1:=by simp[aP,fI]
   have e2:br k 1 0=k 0:=by simp[br,aP,fI,jK]
   (repeat' with_reducible first|refine And.intro ?_ ?_|intro _)
   all_goals first|omega|decide|exact absurd ‹true=false› (by decide)|skip
   ·refine⟨1,aa,by dsimp only;omega,[(0,102401)],rfl,?_,rfl,b7 rfl rfl e1.symm (fun j hj=>?_) trivial⟩
    ·show _=(pE n k (.own 0 3 0 (aP k 1)) 1).map _
     rw[e1];rfl
    ·have hj:j=0:=by rw[e1]at hj;omega
     subst hj
     exact cR rfl (by rw[e2];rfl)
   ·exact⟨rfl,0,aa,dN.vals rfl⟩
  |succ i=>
   obtain⟨l,hl⟩:∃l,aP k (i+1)=l+1:=⟨aP k (i+1)-1,by have:=(oo (k:=k) (n:=i)).1;omega⟩
   dsimp only
   rw[hl]
   refine⟨_,ahx,?_⟩
   simp only[ag.all,az,bk,bt]
   have e3:((i+1:Nat):Int).toNat=i+1:=aa
   have e4:(((i+1:Nat):Int)-1).toNat=i:=aa
   have hle:=mX (k:=k) (n:=i+1)
   (repeat' with_reducible first|refine And.intro ?_ ?_|intro _)
   all_goals first|omega|exact absurd ‹false=true› (by decide)|exact absurd ‹true=false› (by decide)|skip
   ·simp
    omega
   ·rename_i hne
    rw[e3,e4,cond_false,Bool.not_eq_true',bt]at hne
    have hnew:fI k (i+1):=Kp.2 hne
    have e5:aP k (i+1+1)=l+1+1:=by rw[KQ hnew,hl]
    refine⟨i+2,aa,by dsimp only;omega,[(0,102401)],rfl,?_,rfl,b7 rfl rfl e5.symm (fun j hj=>?_) trivial⟩
    ·show _=(pE n k (.own 0 3 0 (aP k (i+1+1))) ((i+1+1:Nat):Int)).map _
     rw[e5];rfl
    ·rw[e5]at hj
     refine v9 (y:=br k (i+1+1)) (fun x hx=>?_) ?_ bz bz hj
     ·rw[show br k (i+1+1)=jK (br k (i+1)) (aP k (i+1)) (k (i+1))from if_pos hnew,hl,iY aa]
     ·rw[show br k (i+1+1)=jK (br k (i+1)) (aP k (i+1)) (k (i+1))from if_pos hnew,hl,ou,e3]
   ·rename_i heq
    rw[e3,e4,cond_false,Bool.not_eq_false',bk]at heq
    have hold:¬fI k (i+1):=fun h=>Kp.1 h heq
    have e5:aP k (i+1+1)=l+1:=by rw[F3 hold,hl]
    refine⟨i+2,aa,by dsimp only;omega,[(0,0)],rfl,?_,rfl,b7 rfl rfl e5.symm (fun j hj=>cR rfl ?_) trivial⟩
    ·show _=(pE n k (.own 0 3 0 (aP k (i+1+1))) ((i+1+1:Nat):Int)).map _
     rw[e5];rfl
    ·show _=AV.rat (br k (i+1+1) j) sJ
     rw[show br k (i+1+1)=br k (i+1)from if_neg hold]
   ·refine⟨rfl,i+1,aa,[(0,0)],rfl,?_,rfl,b7 rfl rfl hl.symm (fun j hj=>cR rfl rfl) trivial⟩
    show _=(pE n k (.own 0 3 0 (aP k (i+1))) ((i+1:Nat):Int)).map _
    rw[hl];rfl
 ·cases i with
  |zero=>
   refine⟨_,ac8,?_⟩
   simp only[ag.all,az]
   subst hi
   exact iJ aa
  |succ i=>
   obtain⟨l,hl⟩:∃l,aP k (i+1)=l+1:=⟨aP k (i+1)-1,by have:=(oo (k:=k) (n:=i)).1;omega⟩
   dsimp only
   rw[hl]
   refine⟨_,ajk,?_⟩
   simp only[ag.all,az]
   subst hi
   exact(tu (g:=fun j=>.rat (br k (i+1) j) sJ) hl.symm fun j hj=>rfl).trans (fB fun j hj=>ey (by decide))
theorem acN:aW 75 f75:=aT func75
def AP:aX:=(151,P7)::(68,DI)::(109,Fk)::oX
abbrev yA:Code:=aF f75
abbrev rG:List Nat:=[0,1,4,48,49,50]
abbrev Ep (n:Nat) (k:Nat->Rat) (p:Int) (d:Nat) (f:Nat->Rat) (i:Nat):List AV:=[bD k n sJ,.int .i64 p,.int .i64 0,bD f d sK,.int .i64 d,.int .i64 i]
theorem ajs {n:Nat} {k:Nat->Rat} {p:Int}:aH T AP [18,15,22,29,35,46] 60 rG (before yA [1,1,1,0,1]) ⟨aQ 0 [bD k n sJ,.int .i64 p],[],0⟩=
  let c16:Int:=(↑n:Int);let c15:Prop:=bn (fun i=>rat (k i) sJ) n sK;let c14:Nat:=Int.toNat (0:Int);let c13:Nat:=aP (fun i=>aE (rat (k i) sJ)) n;let c11:Bool:=decide (p<1);let c10:Int:=i64.wrap (i64.wrap ((2:Int)*p)+2);let c9:Prop:=n<2^40;let c7:List AV:=[tuple [],tuple [],tuple []];let c6:Bool:=!qR (qK n fun i=>aE (rat (k i) sJ));let c3:AV:=ak 3 n fun i=>rat (k i) 4000;let c12:List AV:=c3::int i64 p::int i64 1::c7;let c8:Int:=i64.wrap (i64.wrap (c16-p)-1);let c5:Int:=i64.wrap (c16-1);let c4:ag (List AV×aC):=leaf ret (c3::int i64 p::int i64 5::c7,[]);let c2:ag (List AV×aC):=aj [bn (fun i=>rat (k i) sJ) n sJ,c9] (leaf normal ([c3,int i64 p,int i64 0,ak 3 c13 fun i=>rat (br (fun i=>aE (rat (k i) sJ)) n i) 4096,int i64 (↑c13:Int),int i64 0],[]));let c1:ag (List AV×aC):=fork (decide (c16<c10)) c4 (fork (decide (c8>40)) (leaf ret (c3::int i64 p::int i64 2::c7,[])) (fork c6 (aj [c15,c9,c6=true] (fork true c4 c2)) (aj [c15,c9,c6=false,(0:Int)<=0/\c14<n,(0:Int)<=c5/\c5.toNat<n] (fork (bif false then true else decide (k c14=k c5.toNat)) c4 c2))));some (fork c11 (aj [c11=true] (fork true (leaf ret (c12,[])) c1)) (aj [c11=false] (fork (bif false then true else decide (p>6)) (leaf ret (c12,[])) c1))):=ah
theorem XF {n d i:Nat} {k f:Nat->Rat} {p:Int}:aH T AP [51,62,73,79,82,87] 60 rG [part yA [1,1,1,0,1,0,0]] ⟨aA rG (Ep n k p d f i),[],1⟩=
  let c18:Int:=(↑d:Int);let c16:Prop:=false=false;let c13:Int:=(↑i:Int);let c12:Prop:=0<1;let c11:AV:=ak 3 d fun i=>rat (f i) 4096;let c10:AV:=ak 3 n fun i=>rat (k i) 4000;let c9:Int:=i64.wrap ((↑n:Int)-1);let c8:Nat:=Int.toNat (0:Int);let c17:Prop:=(0:Int)<=0/\c8<n;let c14:List AV:=[c11,int i64 c18,int i64 c13];let c7:Rat:=f c13.toNat;let c1:ag (List AV×aC):=leaf normal ([c10,int i64 p,int i64 0,c11,int i64 c18,int i64 (i64.wrap (c13+1))],[]);let c15:Bool:=decide (c7=k c8);let c4:Int:=(↑(bW (fun i=>aE (rat (k i) sJ)) c7 n):Int);let c3:Bool:=bif false then true else decide (c7=k c9.toNat);let c2:ag (List AV×aC):=leaf ret (c10::int i64 p::int i64 5::c14,[]);let c6:ag (List AV×aC):=fork (bif false then true else bif true then decide (c4>p)else false) c2 c1;let c5:Bool:=bif true then c4 !=i64.wrap (p+1)else false;some (fork (decide (c13<c18)) (aj [(0:Int)<=c13/\c13.toNat<d,c12] (aj [c12,bn (fun i=>rat (k i) sJ) n sK,sK<=sK,n<2^40] (fork c15 (aj [c12,c17,c15=true] (fork true (fork c5 (aj [true=true,c5=true] (fork true c2 c1)) (fork false (aj [true=true,c5=false,(!true)=true] c6) (aj [true=true,c5=false,(!true)=false] (fork false c2 c1)))) (fork false (aj [true=false,false=true] (fork true c2 c1)) (fork false (aj [true=false,c16,(!true)=true] c6) (aj [true=false,c16,(!true)=false] (fork false c2 c1)))))) (aj [c12,c17,c15=false,c12,(0:Int)<=c9/\c9.toNat<n] (fork c3 (fork c5 (aj [c3=true,c5=true] (fork true c2 c1)) (fork (!c3) (aj [c3=true,c5=false,(!c3)=true] c6) (aj [c3=true,c5=false,(!c3)=false] (fork false c2 c1)))) (fork false (aj [c3=false,false=true] (fork true c2 c1)) (fork (!c3) (aj [c3=false,c16,(!c3)=true] c6) (aj [c3=false,c16,(!c3)=false] (fork false c2 c1))))))))) (leaf (exit 1) (c10::int i64 p::int i64 0::c14,[]))):=ah
theorem adp {n d i:Nat} {k f:Nat->Rat} {p:Int}:cy T AP [] 60 f75 [part yA [1,1,1,1]] ⟨aA rG (Ep n k p d f i),[],1⟩=
  some (leaf ret [int i64 0]):=ah
theorem SC:bq P AP:=aI agX (aI Kg (aI Mt qM))
def wg (n:Nat) (p:Int):Prop:=1<=p/\p<=6/\2*p+2<=(n:Int)/\(n:Int)-p-1<=40
theorem Z1 {n:Nat} {k:Nat->Rat} {p:Int} (hn:n<2^40) (K:Nat):aS P 75 K [bD k n sJ,.int .i64 p] [] (aJ (.int .i64 (gC n k p)) []):=by
 refine iB (r:=aJ (.int .i64 (gC n k p)) []) hT SC hm acN rfl aV rfl [1,1,1,0,1] (i:=1) (y:=part yA [1,1,1,0,1,0,0]) (z:=part yA [1,1,1,1]) ah ah ah (f1:=[18,15,22,29,35,46]) (f2:=[51,62,73,79,82,87]) (f3:=[]) 60 rG 1
  (fun i:Nat=>Ep n k p (aP k n) (br k n) i) (fun _=>[]) (fun i=>i<=aP k n/\wg n p/\qK n k/\k 0≠k (n-1)/\∀j,j<i->¬l5 n k p.toNat (br k n j)) (fun _=>wg n p/\rU n k p.toNat) (fun i=>aP k n-i) (fun _=>⟨⟨_,ajs,?_⟩,fun i ⟨h1,h2,h3,h4,h5⟩=>⟨_,XF,?_⟩,fun i ⟨h1,h2⟩=>⟨_,adp,?_⟩⟩) K []
 ·have r:∀{e:Int} {u:AV},gC n k p=e->oP f75 rG (.int .i64 (gC n k p)) ([u,.int .i64 p,.int .i64 e,.tuple [],.tuple [],.tuple []],[]):=fun h=>⟨[.int .i64 _],ah,bS h.symm⟩
  by_cases hp:1<=p/\p<=6
  ·have e1:i64.wrap (i64.wrap (2*p)+2)=2*p+2:=by rw[wrap_i64 (show-2^63<=2*p by omega) aa];exact wrap_i64 aa aa
   have e2:i64.wrap (i64.wrap ((n:Int)-p)-1)=(n:Int)-p-1:=by rw[wrap_i64 (show-2^63<=(n:Int)-p by omega) aa];exact wrap_i64 aa aa
   have e3:i64.wrap ((n:Int)-1)=(n:Int)-1:=wrap_i64 aa aa
   have e5:((n:Int)-1).toNat=n-1:=aa
   simp only[ag.all,az,decide_eq_true_eq,decide_eq_false_iff_not,Bool.not_eq_true',Bool.not_eq_false',cond_true,cond_false,Int.toNat_natCast,Int.toNat_zero,ya,e1,e2,e3,e5]
   (repeat' with_reducible first|refine And.intro ?_ ?_|intro _)
   all_goals first|exact absurd ‹true=false› (by decide)|exact absurd ‹false=true› (by decide)|omega|(exfalso;omega)|exact bI (by decide)|assumption|exact r (ais aa aa)|exact r (ah6 aa aa aa)|exact r (Gs aa aa aa fun h=>ajc ‹_› h.1)|exact r (Gs aa aa aa fun h=>h.2.1 ‹_›)|exact⟨0,⟨Nat.zero_le _,⟨aa,aa,aa,aa⟩,adI ‹_›,‹_›,fun j hj=>absurd hj (Nat.not_lt_zero j)⟩,dN.vals rfl⟩|skip
   skip
  ·simp only[ag.all,az,decide_eq_true_eq,decide_eq_false_iff_not,Bool.not_eq_true',Bool.not_eq_false',cond_true,cond_false,Int.toNat_natCast]
   (repeat' with_reducible first|refine And.intro ?_ ?_|intro _)
   all_goals first|exact absurd ‹true=false› (by decide)|exact absurd ‹false=true› (by decide)|omega|(exfalso;omega)|exact r (S2 aa)|skip
   skip
 ·obtain⟨q,rfl⟩:∃q:Nat,p=(q:Int):=⟨p.toNat,by have:=h2.1;omega⟩
  have hq:=h2
  unfold wg at hq
  have e1:i64.wrap ((q:Int)+1)=((q+1:Nat):Int):=by rw[wrap_i64 aa aa];rfl
  have e2:i64.wrap ((i:Int)+1)=((i+1:Nat):Int):=by rw[wrap_i64 aa (by have:=mX (k:=k) (n:=n);omega)];rfl
  have e3:i64.wrap ((n:Int)-1)=(n:Int)-1:=wrap_i64 aa aa
  have e5:((n:Int)-1).toNat=n-1:=aa
  simp only[Int.toNat_natCast]at h5
  have hd:=mX (k:=k) (n:=n)
  have r:∀{u v w x y:AV},l5 n k q (br k n i)->i<aP k n->oP f75 rG (.int .i64 (gC n k q)) ([u,v,.int .i64 5,w,x,y],[]):=fun h hi=>⟨[.int .i64 5],ah,bS (Gs aa aa aa fun hk=>hk.2.2 i hi (by rw[Int.toNat_natCast];exact h)).symm⟩
  have nx:¬l5 n k q (br k n i)->i<aP k n->∀j,j<i+1->¬l5 n k q (br k n j):=fun h hi j hj=>by
   by_cases he:j=i
   ·subst he;exact h
   ·exact h5 j aa
  simp only[ag.all,az,decide_eq_true_eq,decide_eq_false_iff_not,Bool.not_eq_true',Bool.not_eq_false',cond_true,cond_false,Int.toNat_natCast,Int.toNat_zero,ya,e1,e2,e3,e5,bne_iff_ne,bne_eq_false_iff_eq,ne_eq]
  obtain⟨c,hc⟩:∃c,bW k (br k n i) n=c:=⟨_,rfl⟩
  have hc':bW (fun i=>k i) (br k n i) n=c:=hc
  simp only[hc']
  have b1:br k n i=k 0->c≠q+1->l5 n k q (br k n i):=fun h1 h2=>.inl ⟨.inl h1,by rw[hc];exact h2⟩
  have b2:br k n i=k (n-1)->c≠q+1->l5 n k q (br k n i):=fun h1 h2=>.inl ⟨.inr h1,by rw[hc];exact h2⟩
  have b3:¬br k n i=k 0->¬br k n i=k (n-1)->q<c->l5 n k q (br k n i):=fun h1 h2 h3=>.inr ⟨fun h=>h.elim h1 h2,by rw[hc];exact h3⟩
  have g1:br k n i=k 0->c=q+1->¬l5 n k q (br k n i):=by
   rintro h1 h2 (⟨_,h3⟩|⟨h3,_⟩)
   ·exact h3 (by rw[hc];exact h2)
   ·exact h3 (.inl h1)
  have g2:br k n i=k (n-1)->c=q+1->¬l5 n k q (br k n i):=by
   rintro h1 h2 (⟨_,h3⟩|⟨h3,_⟩)
   ·exact h3 (by rw[hc];exact h2)
   ·exact h3 (.inr h1)
  have g3:¬br k n i=k 0->¬br k n i=k (n-1)->c<=q->¬l5 n k q (br k n i):=by
   rintro h1 h2 h3 (⟨h4,_⟩|⟨_,h4⟩)
   ·exact h4.elim h1 h2
   ·rw[hc]at h4;omega
  clear hc hc'
  (repeat' with_reducible first|refine And.intro ?_ ?_|intro _)
  all_goals first|exact absurd ‹true=false› (by decide)|exact absurd ‹false=true› (by decide)|omega|(exfalso;omega)|exact bI (by decide)|assumption|skip
  all_goals first
   |exact absurd ‹br k n i=k (n-1)› ‹_›
   |exact⟨rfl,i,⟨h2,h3,h4,fun j hj=>h5 j aa⟩,dN.vals rfl⟩
   |exact r (b1 ‹_› aa) aa
   |exact r (b2 ‹_› aa) aa
   |exact r (b3 ‹¬_=k 0› ‹_› (by have:=of_decide_eq_true ‹decide _=true›;omega)) aa
   |exact⟨i+1,⟨aa,h2,h3,h4,nx (g1 ‹_› aa) aa⟩,by dsimp only;omega,dN.vals rfl⟩
   |exact⟨i+1,⟨aa,h2,h3,h4,nx (g2 ‹_› aa) aa⟩,by dsimp only;omega,dN.vals rfl⟩
   |exact⟨i+1,⟨aa,h2,h3,h4,nx (g3 ‹¬_=k 0› ‹_› (by have:=of_decide_eq_false ‹decide _=false›;omega)) aa⟩,by dsimp only;omega,dN.vals rfl⟩
 ·simp only[ag.all,az]
  exact bS (aiM (by have:=h1;unfold wg at this;omega) (by have:=h1;unfold wg at this;omega) (by have:=h1;unfold wg at this;omega) h2).symm
def Cg:Spec:=cA (kC (kL sJ) (kC kI kN)) (fun a=>.int .i64 (gC a.1.1 a.1.2 a.2.1)) fun a=>[a.1.1<2^40]
theorem Hr:aU P Cg 75:=ct fun⟨⟨n,k⟩,p,_⟩ K hn=>Z1 hn K
open Go Go.Am.N AV Proofs.Tryz
def oy:AV->Pl
 |.agg [.agg [x,y,z],w]=>⟨⟨aE x,aE y,aE z⟩,aE w⟩
 |_=>⟨⟨0,0,0⟩,0⟩
def lW (f:Nat->AV) (n s:Nat):Prop:=∀i,i<n->bh (f i) (bJ (oy (f i)) s)
abbrev aZ (f:Nat->Pl) (n s:Nat):AV:=.ak 12 n (fun i=>bJ (f i) s)
theorem yF {u v:Pl} {n k:Nat} (h:u=v) (hk:n<=k):bh (bJ u n) (bJ v k):=
 h▸cL ⟨x8 rfl hk,cB rfl hk,trivial⟩
theorem ql {f:Nat->Pl} {n s s':Nat} (h:s<=s'):lW (fun i=>bJ (f i) s) n s':=fun _ _=>yF rfl h
def uZ:AV->Option (Nat×(Nat->AV))
 |.ak 12 n f=>some (n,f)
 |.nil=>some (0,fun _=>.nil)
 |_=>none
theorem Q6 {v:AV} {n s:Nat} {f:Nat->AV} (h:uZ v=some (n,f)) (ha:lW f n s):bh v (aZ (fun i=>oy (f i)) n s):=by
 unfold uZ at h
 split at h
 ·simp only[ay,Prod.mk.injEq]at h
  obtain⟨rfl,rfl⟩:=h
  exact fB ha
 ·simp only[ay,Prod.mk.injEq]at h
  obtain⟨rfl,rfl⟩:=h
  exact iJ aa
 ·simp at h
def qq (s:Nat):Kind (Nat×(Nat->Pl)):=⟨fun v=>match uZ v with
 |some (n,f)=>some ((n,fun i=>oy (f i)),[lW f n s])
 |none=>none,fun a=>aZ a.2 a.1 s,fun {v a q} h hq=>by
  split at h
  ·rename_i h1
   simp only[ay,Prod.mk.injEq]at h
   obtain⟨rfl,rfl⟩:=h
   exact Q6 h1 hq
  ·simp at h⟩
abbrev bV (h:Pl) (s:Nat):AV:=.agg [.rat h.n.x s,.rat h.n.y s,.rat h.n.z s,.rat h.d s]
def FI (s:Nat):Kind Pl:=⟨fun v=>match v with
 |.agg [x,y,z,w]=>match jL x,jL y,jL z,jL w with
  |some (x,a),some (y,b),some (z,c),some (w,d)=>some (⟨⟨x,y,z⟩,w⟩,[a<=s,b<=s,c<=s,d<=s])
  |_,_,_,_=>none
 |_=>none,fun a=>bV a s,fun {v a q} h hq=>by
  split at h
  ·split at h
   ·rename_i h1 h2 h3 h4
    simp only[ay,Prod.mk.injEq]at h
    obtain⟨rfl,rfl⟩:=h
    exact cL ⟨(kZ h1).trans (cB rfl hq.1),(kZ h2).trans (cB rfl hq.2.1),(kZ h3).trans (cB rfl hq.2.2.1),(kZ h4).trans (cB rfl hq.2.2.2),trivial⟩
   ·simp at h
  ·simp at h⟩
structure Cu where
 p:Int
 n:Nat
 k:Nat->Rat
 m:Nat
 f:Nat->Pl
abbrev xT (c:Cu) (s r:Nat):AV:=.agg [.int .i64 c.p,bD c.k c.n s,aZ c.f c.m r]
def dn:AV->Nat
 |.ak _ n _=>n
 |_=>0
def RJ:AV->Nat->AV
 |.ak _ _ f=>f
 |_=>fun _=>.nil
def fq (g:Nat->AV) (i j:Nat):Pl:=oy (RJ (g i) j)
abbrev fN (f:Nat->Nat->Pl) (n m s:Nat):AV:=.ak 1 n (fun i=>aZ (f i) m s)
def dG (g:Nat->AV) (n s:Nat):Prop:=∀i,i<n->bh (g i) (aZ (fq g i) (dn (g 0)) s)
theorem fc {f:Nat->Nat->Pl} {n m s s':Nat} (h:s<=s'):dG (fun i=>aZ (f i) m s) n s':=fun _ _=>fB fun _ _=>yF rfl h
def uD (s:Nat):Kind (Nat×Nat×(Nat->Nat->Pl)):=⟨fun v=>match v with
 |.ak 1 n g=>some ((n,dn (g 0),fq g),[dG g n s])
 |_=>none,fun a=>fN a.2.2 a.1 a.2.1 s,fun {v a q} h hq=>by
  split at h
  ·simp only[ay,Prod.mk.injEq]at h
   obtain⟨rfl,rfl⟩:=h
   exact fB hq
  ·simp at h⟩
structure Sf where
 u:Int
 v:Int
 a:Nat
 ku:Nat->Rat
 b:Nat
 kv:Nat->Rat
 n:Nat
 m:Nat
 f:Nat->Nat->Pl
abbrev bu (x:Sf) (s r:Nat):AV:=.agg [.int .i64 x.u,.int .i64 x.v,bD x.ku x.a s,bD x.kv x.b s,fN x.f x.n x.m r]
def ir (s r:Nat):Kind Sf:=⟨fun v=>match v with
 |.agg [u,w,a,b,f]=>match kI.read u,kI.read w,(kL s).read a,(kL s).read b,(uD r).read f with
  |some (u,q1),some (w,q2),some ((a,ku),q3),some ((b,kv),q4),some ((n,m,f),q5)=>some (⟨u,w,a,ku,b,kv,n,m,f⟩,q1++(q2++(q3++(q4++q5))))
  |_,_,_,_,_=>none
 |_=>none,fun a=>bu a s r,fun {v a q} h hq=>by
  split at h
  ·split at h
   ·rename_i h1 h2 h3 h4 h5
    simp only[ay,Prod.mk.injEq]at h
    obtain⟨rfl,rfl⟩:=h
    obtain⟨q1,hq⟩:=fD.1 hq
    obtain⟨q2,hq⟩:=fD.1 hq
    obtain⟨q3,hq⟩:=fD.1 hq
    obtain⟨q4,q5⟩:=fD.1 hq
    exact cL ⟨kI.ok h1 q1,kI.ok h2 q2,(kL s).ok h3 q3,(kL s).ok h4 q4,(uD r).ok h5 q5,trivial⟩
   ·simp at h
  ·simp at h⟩
theorem OW {rl:List (Nat×Nat)} {l i s s' s2:Nat} {x y:Nat->Pl} {t:AV} {z:AV} (hx:∀i,i<l->x i=y i) (ht:bh t (bJ (y l) s')) (hk:keys t=[]) (h1:s<=s2) (h2:s'<=s2) (hi:i<l+1):
  ia rl (if i<l then bJ (x i) s else nth [t] z (i-l+0)) (bJ (y i) s2):=by
 by_cases h:i<l
 ·rw[if_pos h,hx i h];exact .inr ⟨rfl,yF rfl h1⟩
 ·have:i=l:=aa
  subst this
  rw[if_neg h,Nat.sub_self]
  exact .inr ⟨hk,ht.trans (yF rfl h2)⟩
open Go Go.Am.N AV ag aq IntKind Proofs.Tryz
abbrev sH:Nat:=2147483648
abbrev sE:Nat:=4294967298
def tL (h:Pl):V3:=⟨((1:Int):Rat)/h.d*h.n.x,((1:Int):Rat)/h.d*h.n.y,((1:Int):Rat)/h.d*h.n.z⟩
abbrev mT (h:Pl) (s:Nat):au:=⟨false,true,12,1,fun _=>bV h s⟩
abbrev nX:Nat:=68719476736
abbrev CZ:Nat:=137438953474
def adf (c:Cu) (x:Nat->Rat) (b j:Nat):Pl:=
 ⟨⟨cj j fun j=>x j*((c.f (b+j)).d*(c.f (b+j)).n.x),cj j fun j=>x j*((c.f (b+j)).d*(c.f (b+j)).n.y),cj j fun j=>x j*((c.f (b+j)).d*(c.f (b+j)).n.z)⟩,cj j fun j=>x j*(c.f (b+j)).d⟩
def gF (c:Cu) (t:Rat):Pl:=adf c (vB c.k (bL c.n c.k t) t c.p.toNat) (bL c.n c.k t-c.p.toNat) (c.p.toNat+1)
def lf (c:Cu) (t:Rat):V3:=if bQ c.n c.k t then⟨0,0,0⟩else tL (gF c t)
abbrev fU (s:Sf):Sf:=⟨s.v,s.u,s.b,s.kv,s.a,s.ku,s.m,s.n,fun j i=>s.f i j⟩
abbrev Pw (s:Sf) (i:Nat):Cu:=⟨s.v,s.b,s.kv,s.m,s.f i⟩
def DT (s:Sf) (v:Rat) (i:Nat):Pl:=⟨tL (gF (Pw s i) v),(gF (Pw s i) v).d⟩
def uV (s:Sf) (v:Rat):Cu:=⟨s.u,s.a,s.ku,s.n,DT s v⟩
structure Ai (s:Sf):Prop where
 ku:Kn s.a s.u.toNat s.ku
 kv:Kn s.b s.v.toNat s.kv
 u0:0<=s.u
 u6:s.u<=6
 v0:0<=s.v
 v6:s.v<=6
 a:s.a<2^30
 b:s.b<2^30
 n:(s.n:Int)=(s.a:Int)-s.u-1
 m:(s.m:Int)=(s.b:Int)-s.v-1
theorem aeX:aW 192 f192:=aT func192
theorem aik:aW 115 f115:=aT func115
theorem PY:aW 114 f114:=aT func114
def bM (p:Pl):Pl:=⟨⟨p.d*p.n.x,p.d*p.n.y,p.d*p.n.z⟩,p.d⟩
def dJ (h:Pl):Pl:=⟨⟨h.n.x/h.d,h.n.y/h.d,h.n.z/h.d⟩,h.d⟩
abbrev qD (f:Nat->Pl) (n s:Nat):AV:=.ak 12 n (fun i=>bV (f i) s)
abbrev dD (c:Cu) (s r:Nat):AV:=.agg [.int .i64 c.p,bD c.k c.n s,qD c.f c.m r]
def Pq:aX:=nG::gW
def Qh:aX:=nG::(174,lg kR kR F9 sW)::gW
def OJ (f:Nat->Pl) (x:Nat->Rat) (b j:Nat):Pl:=
 ⟨⟨cj j fun j=>x j*(f (b+j)).n.x,cj j fun j=>x j*(f (b+j)).n.y,cj j fun j=>x j*(f (b+j)).n.z⟩,cj j fun j=>x j*(f (b+j)).d⟩
def Ax:aX:=nG::(172,Jo)::gW
abbrev x9:List Nat:=[4,5,2,6,7,36,37,38]
abbrev B9 (p i:Nat) (x:Nat->Rat) (j:Nat):List AV:=[.ptr 1 0 12 0 [],.int .i64 0,.ptr 0 0 3 0 [],.ptr 2 0 12 0 [],.int .i64 ((i:Int)-p),.ak 3 (p+1) (fun j=>.rat (x j) sV),.int .i64 ((p+1:Nat):Int),.int .i64 j]
abbrev qT (c:Cu) (r:Nat):au:=⟨false,true,3,1,fun _=>dD c sK r⟩
abbrev vp:Code:=aF f114
def r7:AV->Pl
 |.agg [x,y,z,w]=>⟨⟨aE x,aE y,aE z⟩,aE w⟩
 |_=>⟨⟨0,0,0⟩,0⟩
def l9 (f:Nat->AV) (n s:Nat):Prop:=∀i,i<n->bh (f i) (bV (r7 (f i)) s)
theorem VM {v:AV} {n s:Nat} {f:Nat->AV} (h:uZ v=some (n,f)) (ha:l9 f n s):bh v (qD (fun i=>r7 (f i)) n s):=by
 unfold uZ at h
 split at h
 ·simp only[ay,Prod.mk.injEq]at h
  obtain⟨rfl,rfl⟩:=h
  exact fB ha
 ·simp only[ay,Prod.mk.injEq]at h
  obtain⟨rfl,rfl⟩:=h
  exact iJ aa
 ·simp at h
theorem Wg {h:Pl} {s:Nat}:bU T Qh [] 80 f115 (aF f115) ⟨aQ 0 [bV h s],[],0⟩=
  let c8:Int:=(↑(3:Nat):Int);let c7:Int:=(↑(4:Nat):Int);let c5:Int:=(2:Int)^63;let c4:Prop:=s<2^42;let c2:Prop:=0<1;let c1:Int:=(0:Int)+1;let c6:Int:=c1+1;let c3:Prop:=(0:Int)<=3/\(3:Int)<c7;some (aj [c3,c2,c4,(1:Nat)<2^42,c2] (aj [(0:Int)<=0/\(0:Int)<c7,c2,c3,c2,c4,c4,(0:Int)<=0/\(0:Int)<c8,c2] (aj [-c5<=c1/\c1<c5] (aj [(0:Int)<=c1/\c1<c7,c2,c3,c2,c4,c4,(0:Int)<=c1/\c1<c8,c2] (aj [-c5<=c6/\c6<c5] (aj [(0:Int)<=c6/\c6<c7,c2,c3,c2,c4,c4,(0:Int)<=c6/\c6<c8,c2] (aj [-c5<=c6+1/\c6+1<c5] (aj [c2,c2] (aj [c2] (leaf ret [agg [agg [rat (h.n.x/h.d) (s+s),rat (h.n.y/h.d) (s+s),rat (h.n.z/h.d) (s+s)],rat (h.d+0) (s+1+1)]])))))))))):=ah
theorem aas {c:Cu} {r:Nat} {t:Rat}:aH T Ax [25,34] 60 x9 (before vp [1,1,1,1,0,1]) ⟨aQ 0 [dD c sK r,.rat t sK],[],0⟩=
  let c16:Nat:=bL c.n (fun i=>aE (rat (c.k i) sK)) t;let c15:Prop:=bQ c.n (fun i=>aE (rat (c.k i) sK)) t;let c14:AV:=ptr 8192 0 12 0 [];let c13:AV:=ptr 16384 0 12 0 [];let c12:AV:=ptr 0 0 (bp (dD c sK r)).size 0 [];let c11:AV:=rat 0 1;let c10:Prop:=0<1;let c8:Bool:=cS c.n (fun i=>aE (rat (c.k i) sK)) t !=(0:Int);let c6:Nat×au:=(0,au.mk false true (bp (dD c sK r)).size 1 fun x=>agg [int i64 c.p,ak 3 c.n fun i=>rat (c.k i) 4096,ak 12 c.m fun i=>bV (c.f i) r]);let c7:Nat:=if c15 then 0 else c.p.toNat+1;let c5:Int:=if c15 then(0:Int)else(↑c16:Int)-(↑c.p.toNat:Int);let c4:AV:=agg [c11,c11,c11,c11];let c9:au:=au.mk false true 12 1 fun x=>c4;let c3:Int:=c5+(↑c7:Int);let c2:ag (List AV×aC):=leaf normal ([c14,int i64 0,c12,c13,int i64 c5,ak 3 c7 fun j=>rat (vB (fun i=>aE (rat (c.k i) sK)) c16 t c.p.toNat j) 268435456,int i64 (↑c7:Int),int i64 0],[((16384:Nat),c9),c6,((8192:Nat),c9)]);let c1:ag (List AV×aC):=aj [c10] (leaf ret ([c14,int i64 7,c12,c13,int i64 c5,tuple [],tuple [],tuple []],[((16384:Nat),c9),c6,(8192,au.mk false true 12 1 fun j=>if(j==0)=true then bp (agg c4.kids)else c4)]));some (aj [c10,c10,c10,bn (fun i=>rat (c.k i) sK) c.n sK,sK<=sK,Kn c.n c.p.toNat fun i=>aE (rat (c.k i) sK),(0:Int)<=c.p,c.p<=6,c.n<2^40] (fork c8 (aj [c8=true] (fork true c1 c2)) (aj [c8=false,-(2:Int)^63<=c3/\c3<2^63,c10] (fork (bif false then true else decide (c3>(↑c.m:Int))) c1 c2)))):=ah
theorem acY {c:Cu} {h:Pl} {p i j s r:Nat} {x:Nat->Rat}:aH T Ax [39] 60 x9 [part vp [1,1,1,1,0,1,0,0]] ⟨aA x9 (B9 p i x j),[(2,mT h s),(1,mT ⟨⟨0,0,0⟩,0⟩ 1),(0,qT c r)],3⟩=
  let c29:Int:=(↑i:Int)-(↑p:Int);let c26:AV:=ptr 0 0 3 0 [];let c24:AV:=ptr 2 0 12 0 [];let c23:AV:=ptr 1 0 12 0 [];let c21:AV:=rat 0 1;let c20:Int:=(↑(p+1):Int);let c19:AV:=ak 3 (p+1) fun j=>rat (x j) 268435456;let c16:Int:=(↑j:Int);let c15:Bool:=0==0;let c10:Int:=(↑(4:Nat):Int);let c9:Int:=(0:Int)+1;let c8:Nat:=2^42;let c7:Prop:=0<1;let c6:Int:=(2:Int)^63;let c33:Prop:=sV+r<c8;let c32:Rat:=x c16.toNat;let c31:Int:=c16+1;let c28:Prop:=(0:Int)<=c9/\c9<c10;let c18:Prop:=(0:Int)<=0/\(0:Int)<c10;let c4:List (Nat×au):=[((0:Nat),bP fun x=>agg [int i64 c.p,ak 3 c.n fun i=>rat (c.k i) 4096,ak 12 c.m fun i=>bV (c.f i) r]),(1,au.mk false true 12 1 fun x=>agg [c21,c21,c21,c21])];let c3:Int:=c9+1;let c2:Int:=c29+c16;let c30:Pl:=c.f c2.toNat;let c27:Prop:=(0:Int)<=c3/\c3<c10;let c25:Prop:=-c6<=c2/\c2<c6;let c17:Prop:=(0:Int)<=c2/\c2.toNat<c.m;let c12:Int:=c3+1;let c22:Prop:=(0:Int)<=c12/\c12<c10;let c11:AV:=agg ((bV h s).kids.set (Int.toNat (0:Int)) (bp (ng (h.n.x,s) (c32*c30.n.x,sV+r))));let c5:AV:=if c15=true then c11 else bV h s;let c13:AV:=agg (c5.kids.set c9.toNat (bp (ng (h.n.y,s) (c32*c30.n.y,sV+r))));let c1:AV:=if c15=true then c13 else c5;let c14:AV:=agg (c1.kids.set c3.toNat (bp (ng (h.n.z,s) (c32*c30.n.z,sV+r))));some (fork (decide (c16<c20)) (aj [(0:Int)<=c16/\c16.toNat<p+1,c7] (aj [c18,c7,c7,c7,c25,c17,c18,sV<c8,r<c8,s<c8,c33,c18,c7] (aj [-c6<=c9/\c9<c6] (aj [c28,c7,c7,c7,c25,c17,c28,sV<c8,r<c8,s<c8,c33,c28,c7] (aj [-c6<=c3/\c3<c6] (aj [c27,c7,c7,c7,c25,c17,c27,sV<c8,r<c8,s<c8,c33,c27,c7] (aj [-c6<=c12/\c12<c6] (aj [c22,c7,c7,c7,c25,c17,c22,sV<c8,r<c8,s<c8,c33,c22,c7] (aj [-c6<=c12+1/\c12+1<c6] (aj [-c6<=c31/\c31<c6] (leaf normal ([c23,int i64 0,c26,c24,int i64 c29,c19,int i64 c20,int i64 c31],(2,au.mk false true 12 1 fun j=>if(j==0)=true then agg ((if c15=true then c14 else c1).kids.set c12.toNat (bp (ng (h.d,s) (c32*c30.d,sV+r))))else if(j==0)=true then c14 else if(j==0)=true then c13 else if(j==0)=true then c11 else bV h s)::c4)))))))))))) (leaf (exit 0) ([c23,int i64 0,c26,c24,int i64 c29,c19,int i64 c20,int i64 c16],(2,au.mk false true 12 1 fun x=>bV h s)::c4))):=ah
theorem U5 {c:Cu} {h:Pl} {p i j s r:Nat} {x:Nat->Rat}:cy T Ax [] 60 f114 [part vp [1,1,1,1,1]] ⟨aA x9 (B9 p i x j),[(2,mT h s),(1,mT ⟨⟨0,0,0⟩,0⟩ 1),(0,qT c r)],3⟩=
  let c1:Prop:=0<1;some (aj [c1,c1] (aj [c1] (leaf ret [bV h s,int i64 0]))):=ah
theorem agF:bq P Pq:=cz iN
theorem afc:bq P Qh:=cz (aI (mN fun _ _ K hn=>DD hn.1 hn.2 K) iN)
theorem K4:bq P Ax:=cz (aI XY iN)
theorem qS {rl:List (Nat×Nat)} {l i:Nat} {f g:Nat->AV} {v z:AV} (hf:∀i,i<l->f i=g i/\keys (f i)=[]) (hk:keys v=[]) (hv:bh v (g l)) (hi:i<l+1):ia rl (if i<l then f i else nth [v] z (i-l+0)) (g i):=by
 by_cases h:i<l
 ·rw[if_pos h];exact cR (hf i h).2 (hf i h).1
 ·have:i=l:=aa
  subst this
  rw[if_neg h,Nat.sub_self]
  exact .inr ⟨hk,hv⟩
theorem qp {rl:List (Nat×Nat)} {p:Int} {v:AV} {a b i:Nat} (hv:keys v=[]) (ht:v.isTuple=false) (h:bC rl b=some a):ia rl (.agg [.int .i64 p,v,.own a 12 0 i]) (.agg [.int .i64 p,v,.own b 12 0 i]):=
 nF ⟨aL,⟨ht,gy hv⟩,⟨rfl,cP h rfl rfl⟩,trivial⟩
theorem pT {h h':Pl} {s s':Nat} (e:h=h') (hs:s<=s'):bh (bV h s) (bV h' s'):=e▸cL ⟨cB rfl hs,cB rfl hs,cB rfl hs,cB rfl hs,trivial⟩
theorem EM {h:Pl} {s w:Nat} (hs:s<2^40) (h1:s+s<=w) (h2:s+2<=w) (K:Nat):aS P 115 K [bV h s] [] (aJ (bJ (dJ h) w) []):=by
 refine bX (r:=aJ (bJ (dJ h) w) []) hT afc hm aik rfl aV rfl 80 Wg (fun _=>?_) K []
 simp only[ag.all,az]
 (repeat' with_reducible refine And.intro ?_ ?_)
 all_goals first|omega|skip
 exact cL ⟨cL ⟨cB rfl h1,cB rfl h1,cB rfl h1,trivial⟩,cB (Rat.add_zero _) aa,trivial⟩
theorem TJ {c:Cu} {r:Nat}:kH T f114 .ret ⟨aA [4,5,2,6] [.ptr 8192 0 12 0 [],.int .i64 7,.ptr 0 0 3 0 [],.ptr 16384 0 12 0 []],[(16384,⟨false,true,12,1,fun _=>.agg [.rat 0 1,.rat 0 1,.rat 0 1,.rat 0 1]⟩),(0,qT c r),(8192,⟨false,true,12,1,fun j=>if(j==0)=true then bp (.agg (AV.kids (.agg [.rat 0 1,.rat 0 1,.rat 0 1,.rat 0 1])))else .agg [.rat 0 1,.rat 0 1,.rat 0 1,.rat 0 1]⟩)],16385⟩=
  let c1:AV:=rat 0 1;some (aj [(0:Nat)<1] (leaf ret [agg [c1,c1,c1,c1],int i64 7])):=ah
def fm (c:Cu) (t:Rat):Pl:=if bQ c.n c.k t then⟨⟨0,0,0⟩,0⟩else OJ c.f (vB c.k (bL c.n c.k t) t c.p.toNat) (bL c.n c.k t-c.p.toNat) (c.p.toNat+1)
theorem Na {c:Cu} {t:Rat} {r s:Nat} (hr:1+7*(sV+r+1)<=s) (hs:s<2^40) (hk:Kn c.n c.p.toNat c.k) (h0:0<=c.p) (h6:c.p<=6) (hn:c.n<2^40) (hm2:(c.m:Int)=(c.n:Int)-c.p-1) (K:Nat):aS P 114 K [dD c sK r,.rat t sK] [] (aJ (.tuple [bV (fm c t) s,.int .i64 (cS c.n c.k t)]) []):=by
 refine fX (r:=aJ (.tuple [bV (fm c t) s,.int .i64 (cS c.n c.k t)]) []) hT PY rfl aV rfl (fun _ cx h00=>?_) K []
 have hkp:=jk h00
 obtain⟨q,hq⟩:∃q,q=c.p.toNat:=⟨_,rfl⟩
 have hq2:c.p=(q:Int):=aa
 obtain⟨i,hi⟩:∃i,i=bL c.n c.k t:=⟨_,rfl⟩
 obtain⟨x,hx⟩:∃x,x=vB c.k i t q:=⟨_,rfl⟩
 have h1:sK=4096:=rfl
 have h2:sV=268435456:=rfl
 have z0:1+0*(sV+r+1)=1:=aa
 have zle:∀j,j<=7->1+j*(sV+r+1)<=s:=fun j hj=>by
  have:=Nat.mul_le_mul_right (sV+r+1) hj
  omega
 refine ax.lQ hT K4 hm (x:=vp) [1,1,1,1,0,1] (i:=0) (y:=part vp [1,1,1,1,0,1,0,0]) (z:=part vp [1,1,1,1,1]) ah ah ah PY.dst hkp (f1:=[25,34]) (f2:=[39]) 60 x9 3 (fun j:Nat=>B9 q i x j) (fun j=>[(2,mT (OJ c.f x (i-q) j) (1+j*(sV+r+1))),(1,mT ⟨⟨0,0,0⟩,0⟩ 1),(0,qT c r)])
  (fun j=>j<=q+1/\¬bQ c.n c.k t) (fun j=>j=q+1/\¬bQ c.n c.k t) (fun j=>q+1-j) (uw T f114 [4,5,2,6] (.tuple [bV (fm c t) s,.int .i64 (cS c.n c.k t)])) ⟨_,aas,?_⟩ (fun j ⟨hj,hin⟩=>⟨_,acY,?_⟩) (fun j ⟨hj,hin⟩=>?_) (fun v s' hv hs'=>hv.fin (L1:=[7,36,37,38]) hkp hs')
 ·simp only[ag.all,az,ya,bne_iff_ne,ne_eq,bne_eq_false_iff_eq]
  have hko:bQ c.n (fun i=>c.k i) t=bQ c.n c.k t:=rfl
  have hkE:cS c.n (fun i=>c.k i) t=cS c.n c.k t:=rfl
  have hkI:bL c.n (fun i=>c.k i) t=bL c.n c.k t:=rfl
  simp only[hko,hkE,hkI]
  refine⟨⟨aa,aa,aa,bI bz,bz,hk,h0,h6,hn⟩,fun hout=>⟨hout,fun _=>⟨aa,?_⟩,fun h=>absurd h (by decide)⟩,fun he=>?_⟩
  ·have ho:=BJ hout
   refine⟨[_,_,_,_],_,16385,_,rfl,rfl,rfl,TJ,rfl,⟨⟨aa,fun i _=>rfl⟩,⟨aa,fun i _=>rfl⟩,⟨aa,fun i _=>th rfl rfl⟩,trivial⟩,Nat.zero_lt_one,?_⟩
   exact⟨pT (h:=⟨⟨0,0,0⟩,0⟩) (by unfold fm;rw[if_pos ho]) aa,bS (by unfold cS;rw[if_pos ho]),trivial⟩
  ·have hin:=CR he
   have hiv:=hk.qZ hin
   simp only[if_neg hin]
   refine⟨⟨he,aa,aa⟩,fun h=>?_,fun _=>⟨0,⟨Nat.zero_le _,hin⟩,[(0,0),(1,8192),(2,16384)],rfl,?_,rfl,dh rfl rfl (cR rfl (by rw[z0];rfl)) (aM (aM trivial))⟩⟩
   ·exfalso
    rw[cond_false,bk]at h
    omega
   ·show _=(B9 q i x 0).map _
    rw[hx,hq,hi];rfl
 ·have hiv:=hk.qZ hin
  rw[<-hi,<-hq]at hiv
  simp only[ag.all,az,bk,bt,show((i:Int)-q+j).toNat=i-q+j by omega,bf]
  refine⟨fun h=>?_,fun h=>⟨rfl,j,⟨aa,hin⟩,[(0,0),(1,1),(2,2)],rfl,rfl,rfl,aM (aM (aM trivial))⟩⟩
  have hz:=zle j aa
  have hzS:1+(j+1)*(sV+r+1)=1+j*(sV+r+1)+(sV+r+1):=by rw[Nat.add_mul,Nat.one_mul];omega
  have hz2:=zle (j+1) aa
  generalize 1+j*(sV+r+1)=zj at*
  (repeat' with_reducible refine And.intro ?_ ?_)
  all_goals first|omega|skip
  exact⟨j+1,⟨aa,hin⟩,by dsimp only;omega,[(0,0),(1,1),(2,2)],rfl,rfl,rfl,dh rfl rfl (.inr ⟨rfl,cL ⟨cB rfl aa,cB rfl aa,cB rfl aa,cB rfl aa,trivial⟩⟩) (aM (aM trivial))⟩
 ·subst hj
  refine ax.gZ ((aG.fin hT K4 hm 60 U5 ah ?_).mono fun _ _ h=>.inl h)
  simp only[ag.all,az]
  have hz:=zle (q+1) aa
  refine⟨aa,aa,?_,bS (by unfold cS;rw[if_neg hin]),trivial⟩
  exact pT (by unfold fm;rw[if_neg hin,<-hi,<-hq,<-hx]) hz
def uO (s r:Nat):Kind Cu:=⟨fun v=>match v with
 |.agg [p,k,f]=>match kI.read p,(kL s).read k,uZ f with
  |some (p,q1),some ((n,k),q2),some (m,f)=>some (⟨p,n,k,m,fun i=>r7 (f i)⟩,q1++(q2++[l9 f m r]))
  |_,_,_=>none
 |_=>none,fun a=>dD a s r,fun {v a q} h hq=>by
  split at h
  ·split at h
   ·rename_i h1 h2 h3
    simp only[ay,Prod.mk.injEq]at h
    obtain⟨rfl,rfl⟩:=h
    obtain⟨q1,hq⟩:=fD.1 hq
    obtain⟨q2,q3⟩:=fD.1 hq
    exact cL ⟨kI.ok h1 q1,(kL s).ok h2 q2,VM h3 q3,trivial⟩
   ·simp at h
  ·simp at h⟩
def IA:Spec:=cA (kC (uO sK (sJ+sJ)) (kC (gp sK) kN)) (fun a=>.tuple [bV (fm a.1 a.2.1) sH,.int .i64 (cS a.1.n a.1.k a.2.1)]) fun a=>[Kn a.1.n a.1.p.toNat a.1.k,0<=a.1.p,a.1.p<=6,a.1.n<2^40,(a.1.m:Int)=(a.1.n:Int)-a.1.p-1]
def Pz:Spec:=cA (kC (FI sH) kN) (fun a=>bJ (dJ a.1) sE) fun _=>[]
def nD (c:Cu):Prop:=Kn c.n c.p.toNat c.k/\1<=c.p/\c.p<=6/\c.n<=c.p.toNat+41/\(c.m:Int)=(c.n:Int)-c.p-1
theorem T7:aU P IA 114:=ct fun⟨c,t,_⟩ K hn=>Na (by decide) (by decide) hn.1 hn.2.1 hn.2.2.1 hn.2.2.2.1 hn.2.2.2.2 K
theorem W3:aU P Pz 115:=ct fun⟨h,_⟩ K _=>EM (by decide) (by decide) (by decide) K
theorem div_one {a b:Rat}:a/b=((1:Int):Rat)/b*a:=by
 rw[Rat.div_def,Rat.div_def,show((1:Int):Rat)=1 from rfl,Rat.one_mul,Rat.mul_comm]
theorem NS {h:Pl}:(dJ h).n=tL h:=by
 show V3.mk (h.n.x/h.d) (h.n.y/h.d) (h.n.z/h.d)=V3.mk _ _ _
 rw[div_one (a:=h.n.x),div_one (a:=h.n.y),div_one (a:=h.n.z)]
end Go.Am.B
