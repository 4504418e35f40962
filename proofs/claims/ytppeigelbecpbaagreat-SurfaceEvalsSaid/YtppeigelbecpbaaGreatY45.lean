/- brepkernelmade: Rat, Within; lists of numbers as arguments. -/
import Derived.Test.YtppeigelbecpbaaGreatB43
import Derived.Test.YtppeigelbecpbaaGreatY39
import Derived.Test.YtppeigelbecpbaaGreatZ2
import Derived.Test.YtppeigelbecpbaaGreatC4
import Derived.Test.YtppeigelbecpbaaGreatD1
set_option linter.unusedVariables false
namespace Go.Am.B
open Go Go.Am.N AV
theorem O5:aO P A3 uF (aq uF):=aP Rm (by kernel_rfl) (by kernel_rfl) (by kernel_rfl)
theorem aaw:aO P DQ ze (aq ze):=aP YE (by kernel_rfl) (by kernel_rfl) (by kernel_rfl)
theorem UY {x y:Int}:bu T KT [] 60 uF (aq uF) ⟨aM 0 [.int .i64 x,.int .i64 y],[],0⟩=
  some (aa.af [(0:Int)<(41:Int),(41:Int)<(2:Int)^62,(0:Int)<(8:Int),(8:Int)<(2:Int)^62,-(2:Int)^63≤IntKind.i64.wrap (x%(41:Int)-(20:Int)),IntKind.i64.wrap (x%(41:Int)-(20:Int))<(2:Int)^63,-(2:Int)^63≤IntKind.i64.wrap (y%(8:Int)+(1:Int)),IntKind.i64.wrap (y%(8:Int)+(1:Int))<(2:Int)^63,(0:Nat)<1] (aa.af [(0:Nat)<1] (aa.leaf aj.ret [rat ((↑(IntKind.i64.wrap (x%(41:Int)-(20:Int))):Rat)/(↑(IntKind.i64.wrap (y%(8:Int)+(1:Int))):Rat)) 64]))):=by kernel_rfl
def Cg (x y:Int):Rat:=((x%41-20:Int):Rat)/((y%8+1:Int):Rat)
def MR:Spec:=bA fun l=>match l with
 |[.int .i64 x,.int .i64 y]=>some (aF (.rat (Cg x y) 64) [])
 |_=>none
theorem Yx:∀K args pre r,MR K args pre=some r→az P A3 K args pre r:=by
 refine bS fun K args r hk hs _=>?_
 split at hs
 ·rename_i x y
  simp only[Option.some.injEq]at hs
  subst hs
  refine bC hT (aD BF (aD r9 aX)) hm O5 rfl (of_decide_eq_true (by kernel_rfl)) rfl 60 UY (fun _=>?_) K []
  unfold Cg
  have w1:=Int.emod_nonneg x (show(41:Int)≠0 by omega)
  have w2:=Int.emod_lt_of_pos x (show(0:Int)<41 by omega)
  have v1:=Int.emod_nonneg y (show(8:Int)≠0 by omega)
  have v2:=Int.emod_lt_of_pos y (show(0:Int)<8 by omega)
  generalize x%41=u at*
  generalize y%8=v at*
  have e1:IntKind.i64.wrap (u-20)=u-20:=wrap_i64 (by omega) (by omega)
  have e2:IntKind.i64.wrap (v+1)=v+1:=wrap_i64 (by omega) (by omega)
  rw[e1,e2]
  simp only[aa.all,ax]
  exact⟨⟨by omega,by omega,by omega,by omega,by omega,by omega,by omega,by omega⟩,by omega,.refl _⟩
 ·simp at hs
noncomputable def K8:aS:=[(DQ,fL T (sG::(Bq,NH)::lQ) [] 60 ze)]
theorem ZR:aW P K8:=aD (fU hT (ji (aD agi nA)) hm aaw _ _) aX
def kL (s:Nat):Kind (Nat×(Nat→Rat)):=⟨fun v=>match zL v with
 |some (n,f)=>some ((n,fun i=>aI (f i)),[bB f n s])
 |none=>none,fun a=>bM a.2 a.1 s,fun {v a q} h hq=>by
  split at h
  ·rename_i h1
   simp only[Option.some.injEq,Prod.mk.injEq]at h
   obtain⟨rfl,rfl⟩:=h
   exact af5 h1 hq
  ·simp at h⟩
def fy (s:Nat):Kind Rat:=⟨fun v=>match gO v with
 |some (q,n)=>some (q,[n≤s])
 |none=>none,fun a=>.rat a s,fun {v a q} h hq=>by
  split at h
  ·rename_i h1
   simp only[Option.some.injEq,Prod.mk.injEq]at h
   obtain⟨rfl,rfl⟩:=h
   exact(iK h1).trans (cN hq)
  ·simp at h⟩
structure oW (α:Type) where
 read:List AV→Option (α×List Prop)
 make:α→List AV
 ok:∀{l:List AV} {a:α} {q:List Prop},read l=some (a,q)→ax q→dM l (make a)
def kN:oW Unit:=⟨fun l=>match l with
 |[]=>some ((),[])
 |_=>none,fun _=>[],fun {l a q} h _=>by
  split at h
  ·trivial
  ·simp at h⟩
def kC {α β:Type} (k:Kind α) (kl:oW β):oW (α×β):=⟨fun l=>match l with
 |v::l=>match k.read v,kl.read l with
  |some (a,p),some (b,q)=>some ((a,b),p++q)
  |_,_=>none
 |[]=>none,fun a=>k.make a.1::kl.make a.2,fun {l a q} h hq=>by
  split at h
  ·split at h
   ·rename_i h1 h2
    simp only[Option.some.injEq,Prod.mk.injEq]at h
    obtain⟨rfl,rfl⟩:=h
    obtain⟨q1,q2⟩:=dw.1 hq
    exact⟨k.ok h1 q1,kl.ok h2 q2⟩
   ·simp at h
  ·simp at h⟩
def cC {α:Type} (k:oW α) (g:α→AV) (need:α→List Prop):Spec:=bA fun l=>match k.read l with
 |some (a,p)=>some (aF (g a) (p++need a))
 |none=>none
theorem cz {α:Type} {f:FuncId} {k:oW α} {g:α→AV} {need:α→List Prop} (h:∀a K,ax (need a)→az P f K (k.make a) [] (aF (g a) [])):∀K args pre r,cC k g need K args pre=some r→az P f K args pre r:=by
 refine bS fun K args r hk hs _=>?_
 split at hs
 ·rename_i h1
  simp only[Option.some.injEq]at hs
  subst hs
  intro hn
  obtain⟨n1,hn⟩:=dw.1 hn
  exact fP (h _ K hn) hk (k.ok h1 n1) [] trivial
 ·simp at hs
end Go.Am.B

/- fG.Interval, ref08.Interval; numbers of wC. -/
namespace Go.Am.B
open Go Go.Am.N AV aa aj IntKind
theorem aeF:aO P wJ yD (aq yD):=aP Xi (by kernel_rfl) (by kernel_rfl) (by kernel_rfl)
theorem adZ:aO P oF ur (aq ur):=aP VA (by kernel_rfl) (by kernel_rfl) (by kernel_rfl)
def fD:aS:=nG::rK
def pD:aS:=nG::lQ
abbrev sK:Nat:=4096
abbrev ls (k:Nat→Rat) (n:Nat):AV:=bM k n sK
abbrev tP (t:Rat) (s:Nat):ah:=⟨false,true,3,1,fun _=>.rat t s⟩
abbrev tQ:List Nat:=[0,5,8,9,6,7]
abbrev Ew (n:Nat) (k:Nat→Rat) (l i:Nat):List AV:=[ls k n,.ptr 0 0 3 0 [],.int .i64 l,.int .i64 i,.int .i64 0,.int .i64 0]
noncomputable abbrev xI:Code:=aq yD
theorem ada {n:Nat} {k:Nat→Rat} {p:Int} {t:Rat}:aG T fD [200013,21,31] 60 tQ (before xI [1,1,1,0,1]) ⟨aM 0 [ls k n,.int .i64 p,.rat t sK],[],0⟩=
  let c11:Prop:=((↑n:Int)==(0:Int))=false;let c10:Prop:=0<1;let c9:AV:=ag 3 n fun i↦rat (k i) 4096;let c8:Nat:=Int.toNat (0:Int);let c7:AV:=ptr 0 0 (bh (rat t sK)).size 0 [];let c6:AV:=int i64 (0:Int);let c5:Nat×ah:=((0:Nat),ah.mk false true (bh (rat t sK)).size 1 fun x↦rat t 4096);let c4:Int:=(↑n:Int)-(1:Int);let c12:Prop:=(0:Int)≤(0:Int)∧c8<n;let c3:Bool:=bif false then true else decide (eU t (k c8)<(0:Int));let c2:aa (List AV×aA):=leaf ret ([c9,c7,tuple [],tuple [],c6,int i64 (7:Int)],[c5]);let c1:aa (List AV×aA):=leaf normal ([c9,c7,c6,c6,c6,c6],[c5]);some (fork c3 (af [c11,c10,c12,c3=true] (fork true c2 c1)) (af [c11,c10,c12,c3=false,c10,-(2:Int)^63≤c4∧c4<(2:Int)^63,(0:Int)≤c4∧c4.toNat<n] (fork (bif false then true else decide (eU t (k c4.toNat)>(0:Int))) c2 c1))):=by kernel_rfl
theorem S4 {n l i:Nat} {k:Nat→Rat} {t:Rat}:aG T fD [36,49,58] 60 tQ [part xI [1,1,1,0,1,0,0]] ⟨aB tQ (Ew n k l i),[(0,tP t sK)],1⟩=
  let c7:Int:=(↑i:Int);let c6:List AV:=[int i64 (0:Int),int i64 (0:Int)];let c5:AV:=ptr 0 0 3 0 [];let c4:AV:=ag 3 n fun i↦rat (k i) 4096;let c2:Nat×ah:=((0:Nat),ah.mk false true 3 1 fun x↦rat t 4096);let c10:AV:=int i64 c7;let c1:Int:=c7+(1:Int);let c8:Int:=eU (k c7.toNat) (k c1.toNat);let c3:Prop:=-(2:Int)^63≤c1∧c1<(2:Int)^63;let c9:List Prop:=[c3,(0:Int)≤c1∧c1.toNat<n];some (af [c3] (fork (decide (c1<(↑n:Int))) (af (((0:Int)≤c7∧c7.toNat<n)::c9) (fork (decide (c8≥(0:Int))) (af [c3] (leaf normal (c4::c5::int i64 (↑l:Int)::int i64 c1::c6,[c2]))) (af (((0:Nat)<1)::c9) (fork (decide (eU t (k c1.toNat)<(0:Int))) (leaf (exit 0) (c4::c5::c10::c10::c6,[c2])) (af [c3] (leaf normal (c4::c5::c10::int i64 c1::c6,[c2]))))))) (leaf (exit 0) (c4::c5::int i64 (↑l:Int)::c10::c6,[c2])))):=by kernel_rfl
theorem WR {n l i:Nat} {k:Nat→Rat} {t:Rat}:bZ T fD [] 60 yD [part xI [1,1,1,1]] ⟨aB tQ (Ew n k l i),[(0,tP t sK)],1⟩=
  some (leaf ret [int i64 (↑l:Int),int i64 (0:Int)]):=by kernel_rfl
abbrev vi:List Nat:=[0,5,9,6,7]
abbrev yq (n:Nat) (k:Nat→Rat) (i:Nat):List AV:=[ls k n,.ptr 0 0 3 0 [],.int .i64 i,.int .i64 0,.int .i64 0]
noncomputable abbrev wB:Code:=aq ur
theorem aej {n p:Nat} {k:Nat→Rat} {t:Rat}:aG T pD [19,27] 60 vi (before wB [1,1,1,1,0]) ⟨aM 0 [ls k n,.int .i64 p,.rat t sK],[],0⟩=
  let c13:AV:=int i64 (0:Int);let c12:Prop:=0<1;let c10:Prop:=(0:Int)≤(0:Int)∧Int.toNat (0:Int)<n;let c9:AV:=ag 3 n fun i↦rat (k i) 4096;let c7:AV:=ptr 0 0 (bh (rat t sK)).size 0 [];let c6:Nat×ah:=((0:Nat),ah.mk false true (bh (rat t sK)).size 1 fun x↦rat t 4096);let c5:Int:=(2:Int)^63;let c4:Int:=eU t (k (Int.toNat (0:Int)));let c3:Int:=(↑n:Int)-(1:Int);let c14:Int:=c3-(↑p:Int);let c11:Bool:=decide (c4<(0:Int));let c2:aa (List AV×aA):=leaf ret ([c9,c7,tuple [],c13,int i64 (7:Int)],[c6]);let c8:Int:=c14-(1:Int);let c1:aa (List AV×aA):=af [-c5≤c14∧c14<c5,-c5≤c8∧c8<c5] (leaf normal ([c9,c7,int i64 c8,c13,c13],[c6]));some (af [-c5≤c3∧c3<c5] (fork c11 (af [c12,c10,c11=true] (fork true c2 c1)) (af [c12,c10,c11=false,c12,(0:Int)≤c3∧c3.toNat<n] (fork (bif false then true else decide (eU t (k c3.toNat)>(0:Int))) c2 c1)))):=by kernel_rfl
theorem ads {n i:Nat} {k:Nat→Rat} {t:Rat}:aG T pD [34,42] 60 vi [part wB [1,1,1,1,0,0,0]] ⟨aB vi (yq n k i),[(0,tP t sK)],1⟩=
  let c7:AV:=int i64 (0:Int);let c6:AV:=ptr 0 0 3 0 [];let c5:AV:=ag 3 n fun i↦rat (k i) 4096;let c4:Nat×ah:=((0:Nat),ah.mk false true 3 1 fun x↦rat t 4096);let c3:Int:=(↑i:Int);let c9:Int:=c3-(1:Int);let c8:Bool:=decide (c3>(0:Int));let c2:aa (List AV×aA):=leaf (exit 0) ([c5,c6,int i64 c3,c7,c7],[c4]);let c1:aa (List AV×aA):=af [-(2:Int)^63≤c9∧c9<(2:Int)^63] (leaf normal ([c5,c6,int i64 c9,c7,c7],[c4]));some (fork c8 (af [c8=true,(0:Nat)<1,(0:Int)≤c3∧c3.toNat<n] (fork (bif true then decide (eU t (k c3.toNat)<(0:Int))else false) c1 c2)) (af [c8=false] (fork false c1 c2))):=by kernel_rfl
theorem Sn {n i:Nat} {k:Nat→Rat} {t:Rat}:bZ T pD [] 60 ur [part wB [1,1,1,1,1]] ⟨aB vi (yq n k i),[(0,tP t sK)],1⟩=
  some (leaf ret [int i64 (↑i:Int),int i64 (0:Int)]):=by kernel_rfl
theorem jt:aW P fD:=cw um
theorem JF:aW P pD:=cw nA
theorem kD {q:Rat} {n:Nat}:aI (.rat q n)=q:=rfl
theorem ND:max 1 (bp (Int.natAbs 1))=1:=by decide
theorem Zt {a b:Rat}:eU a b≥(0:Int)↔b≤a:=by
 have:=@lW a b
 constructor
 ·intro h
  have:¬a<b:=fun h'=>by have:=lW.2 h';omega
  grind
 ·intro h
  have:¬eU a b<0:=fun h'=>by have:=lW.1 h';grind
  omega
theorem Fj {rl:List (Nat×Nat)} {l i s s' s2:Nat} {x y:Nat→Rat} {t:Rat} (hx:∀i,i<l→x i=y i) (ht:t=y l) (h1:s≤s2) (h2:s'≤s2) (hi:i<l+1):gh rl (if i<l then .rat (x i) s else nth [.rat t s'] (.rat 0 1) (i-l+0)) (.rat (y i) s2):=by
 by_cases h:i<l
 ·rw[if_pos h,hx i h];exact .inr ⟨rfl,bL rfl h1⟩
 ·have:i=l:=by omega
  subst this
  rw[if_neg h,Nat.sub_self,ht]
  exact .inr ⟨rfl,bL rfl h2⟩
theorem OV {rl:List (Nat×Nat)} {i s' s2:Nat} {y:Nat→Rat} {t:Rat} (ht:t=y 0) (h2:s'≤s2) (hi:i<1):gh rl (nth [.rat t s'] (.rat 0 1) (i+0)) (.rat (y i) s2):=by
 have:i=0:=by omega
 subst this
 rw[ht]
 exact .inr ⟨rfl,bL rfl h2⟩
def bF (n:Nat) (k:Nat→Rat) (t:Rat):Prop:=t<k 0∨k (n-1)<t
instance {n:Nat} {k:Nat→Rat} {t:Rat}:Decidable (bF n k t):=inferInstanceAs (Decidable (t<k 0∨k (n-1)<t))
def k9 (n:Nat) (k:Nat→Rat) (t:Rat):Nat:=if bF n k t then 0 else bG n k t
def bt (n:Nat) (k:Nat→Rat) (t:Rat):Int:=if bF n k t then 7 else 0
abbrev oz (n:Nat) (k:Nat→Rat) (t:Rat):AV:=.tuple [.int .i64 (k9 n k t),.int .i64 (bt n k t)]
theorem AP {n:Nat} {k:Nat→Rat} {t:Rat} (h:bF n k t):dK [.int .i64 0,.int .i64 7] (oz n k t):=
 ⟨br (by unfold k9;rw[if_pos h];rfl),br (by unfold bt;rw[if_pos h]),trivial⟩
theorem Gs {n i:Nat} {k:Nat→Rat} {t:Rat} (h:¬bF n k t) (hi:i=bG n k t):dK [.int .i64 i,.int .i64 0] (oz n k t):=
 ⟨br (by unfold k9;rw[if_neg h,hi]),br (by unfold bt;rw[if_neg h]),trivial⟩
abbrev qT (k:Nat→Rat) (t:Rat) (i:Nat):Nat:=jG (fun i=>decide (k i<k (i+1))&&decide (k i≤t)) i
theorem MH {g:Nat→Bool} {m:Nat}:jG g (m+1)=if g m then m else jG g m:=rfl
theorem Pj {n p0:Nat} {k:Nat→Rat} {p:Int} {t:Rat} (h:Kn n p0 k) (hn:n<2^40) (K:Nat):az P wJ K [ls k n,.int .i64 p,.rat t sK] [] (aF (oz n k t) []):=by
 have hp:=h.p1
 have hl:=h.len
 refine iL (r:=aF (oz n k t) []) hT jt hm aeF rfl (of_decide_eq_true (by kernel_rfl)) rfl [1,1,1,0,1] (i:=0) (y:=part xI [1,1,1,0,1,0,0]) (z:=part xI [1,1,1,1]) (by kernel_rfl) (by kernel_rfl) (by kernel_rfl) (f1:=[200013,21,31]) (f2:=[36,49,58]) (f3:=[]) 60 tQ 1
  (fun a:Nat×Nat=>Ew n k a.2 a.1) (fun _=>[(0,tP t sK)]) (fun a=>a.1+1≤n∧a.2=qT k t a.1∧k a.1≤t∧¬bF n k t) (fun a=>a.2=bG n k t∧¬bF n k t) (fun a=>n-a.1) (fun _=>⟨⟨_,ada,?_⟩,fun⟨i,l⟩ ⟨h1,h2,h3,h4⟩=>⟨_,S4,?_⟩,fun⟨i,l⟩ ⟨h1,h2⟩=>⟨_,WR,Gs h2 h1⟩⟩) K []
 ·simp only[aa.all,ax,decide_eq_true_eq,decide_eq_false_iff_not,lW,EI,cond_false,Int.toNat_zero,beq_eq_false_iff_ne,ne_eq,show((n:Int)-1).toNat=n-1 by omega]
  (repeat' with_reducible first|refine And.intro ?_ ?_|intro _)
  all_goals first|omega|assumption|skip
  ·exact⟨_,by kernel_rfl,AP (.inl ‹_›)⟩
  ·exact absurd ‹true=false› (by decide)
  ·exact⟨_,by kernel_rfl,AP (.inr ‹_›)⟩
  ·rename_i a b
   have hin:¬bF n k t:=fun h=>h.elim (fun h=>a h) fun h=>b h
   exact⟨(0,0),⟨by omega,rfl,by show k 0≤t;grind,hin⟩,[(0,0)],rfl,rfl,rfl,aN rfl rfl (aK rfl rfl) trivial⟩
 ·have hs:∀i,i+1<n→k i≤k (i+1):=h.sorted
  simp only at h1 h2 h3
  simp only[aa.all,ax,decide_eq_true_eq,decide_eq_false_iff_not,lW,Zt,Int.toNat_natCast,show((i:Int)+1).toNat=i+1 by omega]
  (repeat' with_reducible first|refine And.intro ?_ ?_|intro _)
  all_goals first|omega|assumption|skip
  ·rename_i hi hge
   have:=hs i (by omega)
   have e:qT k t (i+1)=qT k t i:=by
    have:¬k i<k (i+1):=by grind
    rw[qT,MH,if_neg (by simp[this])]
   exact⟨(i+1,l),⟨by omega,h2.trans e.symm,by show k (i+1)≤t;grind,h4⟩,by dsimp only;omega,[(0,0)],rfl,rfl,rfl,aN rfl rfl (aK rfl rfl) trivial⟩
  ·rename_i hi hlt hb
   have:k i<k (i+1):=by grind
   have hiv:bG n k t=i:=Fh ⟨⟨by omega,hs,this⟩,h3,by grind,.inl hb⟩
   exact⟨rfl,(i,i),⟨hiv.symm,h4⟩,[(0,0)],rfl,rfl,rfl,aN rfl rfl (aK rfl rfl) trivial⟩
  ·rename_i hi hlt hb
   have:k i<k (i+1):=by grind
   have e:qT k t (i+1)=i:=by
    rw[qT,MH,if_pos (by simp[this,h3])]
   exact⟨(i+1,i),⟨by omega,e.symm,by show k (i+1)≤t;grind,h4⟩,by dsimp only;omega,[(0,0)],rfl,rfl,rfl,aN rfl rfl (aK rfl rfl) trivial⟩
  ·have hin:i=n-1:=by omega
   subst hin
   exact⟨rfl,(n-1,l),⟨h2,h4⟩,[(0,0)],rfl,rfl,rfl,aN rfl rfl (aK rfl rfl) trivial⟩
theorem Ql {n p:Nat} {k:Nat→Rat} {t:Rat} (h:Kn n p k) (hn:n<2^40) (K:Nat):az P oF K [ls k n,.int .i64 p,.rat t sK] [] (aF (oz n k t) []):=by
 have hp:=h.p1
 have hl:=h.len
 refine iL (r:=aF (oz n k t) []) hT JF hm adZ rfl (of_decide_eq_true (by kernel_rfl)) rfl [1,1,1,1,0] (i:=0) (y:=part wB [1,1,1,1,0,0,0]) (z:=part wB [1,1,1,1,1]) (by kernel_rfl) (by kernel_rfl) (by kernel_rfl) (f1:=[19,27]) (f2:=[34,42]) (f3:=[]) 60 vi 1
  (fun i:Nat=>yq n k i) (fun _=>[(0,tP t sK)]) (fun i=>i+p+2≤n∧(∀j,i<j→j+p+2≤n→t<k j)∧¬bF n k t) (fun i=>i=bG n k t∧¬bF n k t) (fun i=>i) (fun _=>⟨⟨_,aej,?_⟩,fun i ⟨h1,h2,h4⟩=>⟨_,ads,?_⟩,fun i ⟨h1,h2⟩=>⟨_,Sn,Gs h2 h1⟩⟩) K []
 ·simp only[aa.all,ax,decide_eq_true_eq,decide_eq_false_iff_not,lW,EI,cond_false,Int.toNat_zero,show((n:Int)-1).toNat=n-1 by omega]
  (repeat' with_reducible first|refine And.intro ?_ ?_|intro _)
  all_goals first|omega|assumption|skip
  ·exact⟨_,by kernel_rfl,AP (.inl ‹_›)⟩
  ·exact absurd ‹true=false› (by decide)
  ·exact⟨_,by kernel_rfl,AP (.inr ‹_›)⟩
  ·rename_i a b
   have hin:¬bF n k t:=fun h=>h.elim (fun h=>a h) fun h=>b h
   refine⟨n-p-2,⟨by omega,fun j h1 h2=>by omega,hin⟩,[(0,0)],rfl,?_,rfl,aN rfl rfl (aK rfl rfl) trivial⟩
   rw[show(n:Int)-1-(p:Int)-1=((n-p-2:Nat):Int) by omega]
   rfl
 ·simp only[aa.all,ax,decide_eq_true_eq,decide_eq_false_iff_not,lW,Int.toNat_natCast,cond_true]
  have hin:k 0≤t∧t≤k (n-1):=by
   constructor
   ·have:¬t<k 0:=fun h=>h4 (.inl h)
    grind
   ·have:¬k (n-1)<t:=fun h=>h4 (.inr h)
    grind
  have fin:k i≤t→i=bG n k t:=fun h3=>by
   by_cases hi:i+p+2<n
   ·have h5:=h2 (i+1) (by omega) (by omega)
    exact(Fh ⟨⟨by omega,h.sorted,by grind⟩,h3,by grind,.inl h5⟩).symm
   ·have e1:=h.last (i+1) (by omega) (by omega)
    have e2:=h.last (i+p) (by omega) (by omega)
    have e3:=h.mult i (by omega) (by omega)
    exact(Fh ⟨⟨by omega,h.sorted,by rw[e1,←e2];exact e3⟩,h3,by rw[e1];exact hin.2,.inr e1⟩).symm
  (repeat' with_reducible first|refine And.intro ?_ ?_|intro _)
  all_goals first|omega|assumption|skip
  ·rename_i a b
   refine⟨i-1,⟨by omega,fun j h5 h6=>?_,h4⟩,by dsimp only;omega,[(0,0)],rfl,?_,rfl,aN rfl rfl (aK rfl rfl) trivial⟩
   ·by_cases hj:j=i
    ·subst hj;exact b
    ·exact h2 j (by omega) h6
   ·rw[show(i:Int)-1=((i-1:Nat):Int) by omega];rfl
  ·rename_i a b
   exact⟨rfl,i,⟨fin (by grind),h4⟩,[(0,0)],rfl,rfl,rfl,aN rfl rfl (aK rfl rfl) trivial⟩
  ·exact absurd ‹false=true› (by decide)
  ·have hi:i=0:=by omega
   subst hi
   exact⟨rfl,0,⟨fin hin.1,h4⟩,[(0,0)],rfl,rfl,rfl,aN rfl rfl (aK rfl rfl) trivial⟩
abbrev Ii:oW ((Nat×(Nat→Rat))×Int×Rat×Unit):=kC (kL sK) (kC kI (kC (fy sK) kN))
def qQ:Spec:=cC Ii (fun a=>oz a.1.1 a.1.2 a.2.2.1) fun a=>[Kn a.1.1 a.2.1.toNat a.1.2,0≤a.2.1,a.1.1<2^40]
theorem acD:∀K args pre r,qQ K args pre=some r→az P wJ K args pre r:=cz fun _ K hn=>Pj hn.1 hn.2.2 K
theorem DU:∀K args pre r,qQ K args pre=some r→az P oF K args pre r:=cz fun⟨⟨n,k⟩,p,t,_⟩ K hn=>by
 have:=Ql hn.1 hn.2.2 K (t:=t)
 rw[Int.toNat_of_nonneg hn.2.1]at this
 exact this
end Go.Am.B

/- basis.fraction, basis.Values. -/
namespace Go.Am.B
open Go Go.Am.N AV aa aj IntKind
theorem V4:aO P y6 wX (aq wX):=aP Rs (by kernel_rfl) (by kernel_rfl) (by kernel_rfl)
theorem Nd:aO P xY rH (aq rH):=aP T3 (by kernel_rfl) (by kernel_rfl) (by kernel_rfl)
def Ko:aS:=(rE,gT kR kR xP oD)::lz
theorem Vy {a b t:Rat} {n:Nat}:bu T Ko [] 60 wX (aq wX) ⟨aM 0 [.rat a n,.rat b n,.rat t n],[],0⟩=
  let c3:Nat:=n+n+1;let c2:Nat:=2^42;let c1:Prop:=0<1;some (af [c1,c1,n<c2,n<c2,c1,c1,n<c2,n<c2,c3<c2,c3<c2,c1] (af [c1,c1] (af [c1] (leaf ret [rat ((t-a)/(b-a)) (c3+c3)])))):=by kernel_rfl
abbrev sF:Nat:=16386
def J4:Spec:=cC (kC (fy sK) (kC (fy sK) (kC (fy sK) kN))) (fun a=>.rat (fr a.1 a.2.1 a.2.2.1) sF) fun _=>[]
theorem ZP:aW P Ko:=aD (iA fun _ _ K hn=>Dr hn.1 hn.2 K) mS
theorem Tq:∀K args pre r,J4 K args pre=some r→az P y6 K args pre r:=cz fun⟨a,b,t,_⟩ K _=>by
 refine bC (r:=aF (.rat (fr a b t) sF) []) hT ZP hm V4 rfl (of_decide_eq_true (by kernel_rfl)) rfl 60 Vy (fun _=>?_) K []
 simp only[aa.all,ax]
 have h1:sK=4096:=rfl
 (repeat' with_reducible refine And.intro ?_ ?_)
 all_goals first|omega|exact(bL rfl (show sK+sK+1+(sK+sK+1)≤sF by decide))
def pe:aS:=nG::(wJ,qQ)::(y6,J4)::(ow,ot)::lz
def SB (d:Nat):Nat:=65536*4^d
abbrev HB (d:Nat):Nat:=1+(sF+SB d)+1
abbrev kK:List Nat:=[0,1,5,9,11,12,6,7,8]
abbrev rT (n:Nat) (k:Nat→Rat) (p i d:Nat):List AV:=[ls k n,.int .i64 p,.ptr 0 0 3 0 [],.int .i64 i,.own 2 3 0 (d+1),.int .i64 ((d+1:Nat):Int),.int .i64 0,.nil,.int .i64 0]
abbrev iB (m:Nat) (x:Nat→Rat) (s:Nat→Nat):ah:=⟨true,true,3,m,fun i=>.rat (x i) (s i)⟩
noncomputable abbrev z6:Code:=aq rH
noncomputable abbrev qA:Code:=part z6 [1,1,1,1,1,0,1,0,0]
noncomputable abbrev pN:Code:=part qA [1,0,0]
abbrev xl:List Nat:=[0,1,5,9,12,13,54,55,56,6,7,8]
abbrev E7 (n:Nat) (k:Nat→Rat) (p i d j:Nat):List AV:=[ls k n,.int .i64 p,.ptr 0 0 3 0 [],.int .i64 i,.int .i64 ((d+1:Nat):Int),.own 3 3 0 (d+2),.own 2 3 0 (d+1),.int .i64 ((d+1:Nat):Int),.int .i64 j,.int .i64 0,.nil,.int .i64 0]
theorem aao {n p:Nat} {k:Nat→Rat} {t:Rat}:aG T pe [26,30,36,43] 60 kK (before z6 [1,1,1,1,1,0,1]) ⟨aM 0 [ls k n,.int .i64 p,.rat t sK],[],0⟩=
  let c13 : Int := bt n (fun i ↦ aI (rat (k i) sK)) t; let c12 : AV := int i64 (0 : Int); let c9 : AV := ag 3 n fun i ↦ rat (k i) 4096; let c7 : AV := ptr 0 0 (bh (rat t sK)).size 0 []; let c6 : Int := (2 : Int) ^ 63; let c5 : Nat × ah := ((0 : Nat), ah.mk false true (bh (rat t sK)).size 1 fun x ↦ rat t 4096); let c4 : Int := (↑p : Int); let c3 : Int := (↑(k9 n (fun i ↦ aI (rat (k i) sK)) t) : Int); let c15 : Prop := -c6 ≤ c3 - c4 ∧ c3 - c4 < c6; let c14 : Prop := -c6 ≤ c3 + c4 ∧ c3 + c4 < c6; let c11 : Bool := bif false then true else decide (c3 + c4 ≥ (↑n : Int)); let c10 : Bool := decide (c4 < (0 : Int)); let c8 : Bool := bif false then true else decide (c3 - c4 < (0 : Int)); let c2 : aa (List AV × aA) := leaf ret ([c9, int i64 c4, c7, int i64 c3, tuple [], tuple [], c12, nil, int i64 (7 : Int)], [c5]); let c1 : aa (List AV × aA) := af [(1 : Nat) * 3 ≤ 2 ^ 24] (leaf normal ([c9, int i64 c4, c7, int i64 c3, own 131072 3 0 1, int i64 (1 : Int), c12, nil, c12], [((131072 : Nat), ah.mk true true 3 1 fun i ↦ nth [rat (↑(1 : Int) : Rat) (Max.max 1 (bp (Int.natAbs (1 : Int))))] (rat 0 1) i), c5])); some (af [(0 : Nat) < 1, bB (fun i ↦ rat (k i) sK) n sK, sK ≤ sK, Kn n c4.toNat fun i ↦ aI (rat (k i) sK), (0 : Int) ≤ c4, n < 2 ^ 40] (fork (c13 != (0 : Int)) (leaf ret ([c9, int i64 c4, c7, int i64 c3, tuple [], tuple [], c12, nil, int i64 c13], [c5])) (fork false (fork true (af [c10 = true, true = true] (fork true c2 c1)) (af [c10 = true, true = false, c14] (fork c11 c2 c1))) (fork c8 (af [c10 = false, c15, c8 = true] (fork true c2 c1)) (af [c10 = false, c15, c8 = false, c14] (fork c11 c2 c1)))))) := by kernel_rfl
theorem Zb {n p i d:Nat} {k x:Nat→Rat} {t:Rat}:aG T pe [48] 60 kK (before qA [1,0]) ⟨aB kK (rT n k p i d),[(2,iB (d+1) x fun _=>SB d),(0,tP t sK)],3⟩=
  let c2:Int:=(↑(d+1):Int);let c1:List AV×aA:=([ag 3 n fun i↦rat (k i) 4096,int i64 (↑p:Int),ptr 0 0 3 0 [],int i64 (↑i:Int),own 2 3 0 (d+1),int i64 c2,int i64 (0:Int),nil,int i64 (0:Int)],[((2:Nat),ah.mk true true 3 (d+1) fun i↦rat (x i) (SB d)),((0:Nat),ah.mk false true 3 1 fun x↦rat t 4096)]);some (fork (decide (c2≤(↑p:Int))) (leaf normal c1) (leaf (exit 0) c1)):=by kernel_rfl
theorem NZ {n p i d:Nat} {k x:Nat→Rat} {t:Rat}:aG T pe [] 60 xl (before pN [1,0,1]) ⟨aB kK (rT n k p i d),[(2,iB (d+1) x fun _=>SB d),(0,tP t sK)],3⟩=
  let c3:AV:=int i64 (0:Int);let c2:Int:=(↑(d+1):Int);let c1:Int:=c2+(1:Int);some (af [-(2:Int)^63≤c1∧c1<(2:Int)^63,(0:Int)≤c1∧c1≤c1∧c1≤(2:Int)^47∧c1*(↑(56:Nat):Int)≤(2:Int)^47] (leaf normal ([ag 3 n fun i↦rat (k i) 4096,int i64 (↑p:Int),ptr 0 0 3 0 [],int i64 (↑i:Int),int i64 c2,own 8195 3 0 c1.toNat,own 2 3 0 (d+1),int i64 c2,c3,c3,nil,c3],[((2:Nat),ah.mk true true 3 (d+1) fun i↦rat (x i) (SB d)),((8195:Nat),ah.mk true true 3 c1.toNat fun x↦rat 0 1),((0:Nat),ah.mk false true 3 1 fun x↦rat t 4096)]))):=by kernel_rfl
theorem Wr {n p i d j:Nat} {k x y:Nat→Rat} {s:Nat→Nat} {t:Rat}:aG T pe [57] 60 xl [part pN [1,0,1,0,0]] ⟨aB xl (E7 n k p i d j),[(3,iB (d+2) y s),(2,iB (d+1) x fun _=>SB d),(0,tP t sK)],4⟩=
  let c20:AV:=int i64 (0:Int);let c19:AV:=ptr 0 0 3 0 [];let c18:AV:=ag 3 n fun i↦rat (k i) 4096;let c16:Nat:=d+1;let c13:Nat×ah:=((0:Nat),ah.mk false true 3 1 fun x↦rat t 4096);let c11:Int:=(↑j:Int);let c10:Prop:=0<1;let c9:Nat:=d+2;let c8:Nat:=Max.max 1 (bp (Int.natAbs (1:Int)));let c7:Nat:=2^42;let c5:Int:=(2:Int)^63;let c25:Prop:=(0:Int)≤c11∧c11.toNat<c9;let c23:Nat:=c8+sF+1;let c22:AV:=own 3 3 0 c9;let c21:AV:=own 2 3 0 c16;let c12:Nat×ah:=((2:Nat),ah.mk true true 3 c16 fun i↦rat (x i) (SB d));let c6:Int:=c11+(1:Int);let c4:Nat:=c11.toNat+0;let c3:Int:=(↑c16:Int);let c29:AV:=int i64 c3;let c27:Prop:=(0:Int)≤c6∧c6.toNat<c9;let c24:Prop:=-c5≤c6∧c6<c5;let c17:Int:=(↑i:Int)-c3;let c2:Nat:=c6.toNat+0;let c28:Int:=c17+(1:Int);let c26:Nat:=s c2+(sF+SB d)+1;let c15:Nat:=bif c4==c2 then c26 else s c4;let c1:Int:=c28+c11;let c14:Rat:=fr (k c1.toNat) (k (c1+c3).toNat) t;some (fork (decide (c11<c3)) (af [(0:Int)≤c11∧c11.toNat<c16,c4<c16,c10] (af [-c5≤c17∧c17<c5,-c5≤c28∧c28<c5,-c5≤c1∧c1<c5] (af [(0:Int)≤c1∧c1.toNat<n,-c5≤c1+c3∧c1+c3<c5,(0:Int)≤c1+c3∧(c1+c3).toNat<n,c10,sK≤sK,sK≤sK,sK≤sK,c10] (af [c24,c24,c27,c2<c9,c10,c10,sF<c7,SB d<c7,s c2<c7,sF+SB d<c7,c27,c2<c9] (af [c25,c4<c9,c10,c8<c7,sF<c7,c10,c23<c7,SB d<c7,c15<c7,c23+SB d<c7,c25,c4<c9] (af [c24] (leaf normal ([c18,int i64 (↑p:Int),c19,int i64 (↑i:Int),c29,c22,c21,c29,int i64 c6,c20,nil,c20],[c12,((3:Nat),ah.mk true true 3 c9 fun j↦rat (bif j==c4 then(bif c4==c2 then y c2+c14*x c4 else y c4)+((↑(1:Int):Rat)-c14)*x c4 else bif j==c2 then y c2+c14*x c4 else y j) (bif j==c4 then c15+(c23+SB d)+1 else bif j==c2 then c26 else s j)),c13])))))))) (leaf (exit 2) ([c18,int i64 (↑p:Int),c19,int i64 (↑i:Int),c29,c22,c21,c29,int i64 c11,c20,nil,c20],[c12,((3:Nat),ah.mk true true 3 c9 fun i↦rat (y i) (s i)),c13]))):=by kernel_rfl
theorem SU {n p i d j:Nat} {k x y:Nat→Rat} {s:Nat→Nat} {t:Rat}:aG T pe [] 60 kK [part pN [1,1],part qA [1,1]] ⟨aB xl (E7 n k p i d j),[(3,iB (d+2) y s),(2,iB (d+1) x fun _=>SB d),(0,tP t sK)],4⟩=
  let c1:Int:=(↑(d+1):Int)+(1:Int);some (af [-(2:Int)^63≤c1∧c1<(2:Int)^63] (leaf normal ([ag 3 n fun i↦rat (k i) 4096,int i64 (↑p:Int),ptr 0 0 3 0 [],int i64 (↑i:Int),own 3 3 0 (d+2),int i64 c1,int i64 (0:Int),nil,int i64 (0:Int)],[((3:Nat),ah.mk true true 3 (d+2) fun i↦rat (y i) (s i)),((0:Nat),ah.mk false true 3 1 fun x↦rat t 4096)]))):=by kernel_rfl
theorem X7 {n p i d:Nat} {k x:Nat→Rat} {t:Rat}:bZ T pe [] 60 rH [part z6 [1,1,1,1,1,1]] ⟨aB kK (rT n k p i d),[(2,iB (d+1) x fun _=>SB d),(0,tP t sK)],3⟩=
  let c1:Int:=(↑i:Int)-(↑p:Int);some (af [-(2:Int)^63≤c1∧c1<(2:Int)^63] (leaf ret [int i64 c1,ag 3 (d+1) fun i↦rat (x (i+0)) (SB d),int i64 (0:Int)])):=by kernel_rfl
theorem y9 {d:Nat}:SB (d+1)=4*SB d:=by unfold SB;rw[Nat.pow_succ];omega
theorem qa:∀{d:Nat},65536≤SB d
 |0=>by unfold SB;omega
 |d+1=>by rw[y9];have:=qa (d:=d);omega
theorem AL:sF=16386:=rfl
theorem acR {d e:Nat} (h:d≤e):SB d≤SB e:=Nat.mul_le_mul_left _ (Nat.pow_le_pow_right (by omega) h)
abbrev sV:Nat:=268435456
theorem yw {d:Nat} (h:d≤6):SB d≤sV:=Nat.le_trans (acR h) (by decide)
def v9 (n:Nat) (k:Nat→Rat) (p:Nat) (t:Rat) (f:Nat→Rat):AV:=.tuple [.int .i64 (if bF n k t then 0 else(bG n k t:Int)-p),.ag 3 (if bF n k t then 0 else p+1) (fun j=>.rat (f j) sV),.int .i64 (bt n k t)]
abbrev qz (n:Nat) (k:Nat→Rat) (p:Nat) (t:Rat):AV:=v9 n k p t (vB k (bG n k t) t p)
theorem Hs {n p:Nat} {k f:Nat→Rat} {t:Rat} (h:bF n k t):dK [.int .i64 0,.nil,.int .i64 7] (v9 n k p t f):=by
 unfold v9 bt
 rw[if_pos h,if_pos h,if_pos h]
 exact⟨.refl _,iO (by omega),.refl _,trivial⟩
theorem HK {n p:Nat} {k f:Nat→Rat} {t:Rat} {g:Nat→AV} (h:¬bF n k t) (hg:∀j,j<p+1→bz (g j) (.rat (f j) sV)):dK [.int .i64 ((bG n k t:Int)-p),.ag 3 (p+1) g,.int .i64 0] (v9 n k p t f):=by
 unfold v9 bt
 rw[if_neg h,if_neg h,if_neg h]
 exact⟨.refl _,mu hg,.refl _,trivial⟩
theorem sL:aW P pe:=cw (aD acD (aD Tq (aD (xH EU) mS)))
def xz (k:Nat→Rat) (i:Nat) (t:Rat) (d j:Nat):Rat:=if j=0 then 0 else fr (k (i-d+(j-1))) (k (i-d+(j-1)+(d+1))) t*vB k i t d (j-1)
def jW (k:Nat→Rat) (i:Nat) (t:Rat) (d j x:Nat):Rat:=if x<j then vB k i t (d+1) x else if x=j then xz k i t d j else 0
def iF (d j x:Nat):Nat:=if x<j then SB (d+1)else if x=j then HB d else 1
theorem aay {rl:List (Nat×Nat)} {k:Nat→Rat} {i d j x:Nat} {t:Rat} (hj:j≤d):
  gh rl (.rat (bif x==j then(bif j==j+1 then jW k i t d j (j+1)+fr (k (i-d+j)) (k (i-d+j+(d+1))) t*vB k i t d j else jW k i t d j j)+(((1:Int):Rat)-fr (k (i-d+j)) (k (i-d+j+(d+1))) t)*vB k i t d j
   else bif x==j+1 then jW k i t d j (j+1)+fr (k (i-d+j)) (k (i-d+j+(d+1))) t*vB k i t d j else jW k i t d j x)
   (bif x==j then(bif j==j+1 then iF d j (j+1)+(sF+SB d)+1 else iF d j j)+(1+sF+1+SB d)+1 else bif x==j+1 then iF d j (j+1)+(sF+SB d)+1 else iF d j x))
   (.rat (jW k i t d (j+1) x) (iF d (j+1) x)):=by
 have h1:=y9 (d:=d)
 have h2:=qa (d:=d)
 have h3:=AL
 have hjj:(j==j+1)=false:=by simp
 rw[hjj]
 refine .inr ⟨rfl,?_⟩
 by_cases hx:x=j
 ·subst hx
  simp only[beq_self_eq_true,cond_true,cond_false]
  refine bL ?_ ?_
  ·unfold jW
   rw[if_neg (by omega),if_pos rfl,if_pos (by omega),vB,if_pos hj]
   have:((1:Int):Rat)=1:=rfl
   rw[this];rfl
  ·unfold iF HB
   rw[if_neg (by omega),if_pos rfl,if_pos (by omega)];omega
 ·have hb:(x==j)=false:=by simpa using hx
  rw[hb]
  by_cases hx2:x=j+1
  ·subst hx2
   simp only[beq_self_eq_true,cond_true,cond_false]
   refine bL ?_ ?_
   ·unfold jW xz
    rw[if_neg (by omega),if_neg (by omega),if_neg (by omega),if_pos rfl,if_neg (by omega),Nat.add_sub_cancel,Rat.zero_add]
   ·unfold iF HB
    rw[if_neg (by omega),if_neg (by omega),if_neg (by omega),if_pos rfl];omega
  ·have hb2:(x==j+1)=false:=by simpa using hx2
   rw[hb2]
   simp only[cond_false]
   refine bL ?_ ?_
   ·unfold jW
    by_cases hlt:x<j
    ·rw[if_pos hlt,if_pos (by omega)]
    ·rw[if_neg hlt,if_neg hx,if_neg (by omega),if_neg hx2]
   ·unfold iF
    by_cases hlt:x<j
    ·rw[if_pos hlt,if_pos (by omega)];omega
    ·rw[if_neg hlt,if_neg hx,if_neg (by omega),if_neg hx2];omega
theorem aft {n p:Nat} {k:Nat→Rat} {t:Rat} (h:Kn n p k) (hp6:p≤6) (hn:n<2^40) (K:Nat):az P xY K [ls k n,.int .i64 p,.rat t sK] [] (aF (qz n k p t) []):=by
 refine eB (r:=aF (qz n k p t) []) hT Nd rfl (of_decide_eq_true (by kernel_rfl)) rfl (fun _ c h0=>?_) K []
 have hk:=iT h0
 have hiv:¬bF n k t→p≤bG n k t∧bG n k t+p+1<n:=fun hin=>by
  have h1:¬t<k 0:=fun h=>hin (.inl h)
  have h2:¬k (n-1)<t:=fun h=>hin (.inr h)
  exact(h.zx (by grind) (by grind)).2
 have hp1:=h.p1
 have hl:=h.len
 refine ak.ME hT sL hm [1,1,1,1,1,0,1] (i:=0) (y:=qA) (z:=part z6 [1,1,1,1,1,1]) (by kernel_rfl) (by kernel_rfl) (by kernel_rfl) Nd.dst hk (f1:=[26,30,36,43]) 60 kK 3 (fun d:Nat=>rT n k p (bG n k t) d) (fun d=>[(2,iB (d+1) (vB k (bG n k t) t d) fun _=>SB d),(0,tP t sK)])
  (fun d=>d≤p∧¬bF n k t) (fun d=>d=p∧¬bF n k t) (fun d=>p-d) (l7 rH kK (qz n k p t)) ⟨_,aao,?_⟩ (fun d ⟨hd,hin⟩=>?_) (fun d ⟨hd,hin⟩=>?_) (fun v s' hv hs'=>hv.fin hs')
 ·simp only[aa.all,ax,kD,bne_iff_ne,ne_eq,bne_eq_false_iff_eq,decide_eq_true_eq,decide_eq_false_iff_not,cond_false,Int.toNat_natCast]
  refine⟨⟨by omega,cm (Nat.le_refl _),Nat.le_refl _,h,by omega,hn⟩,fun hout=>?_,fun hin=>?_⟩
  ·have hout:bF n k t:=by
    unfold bt at hout
    by_cases ho:bF n k t
    ·exact ho
    ·rw[if_neg ho]at hout;exact absurd rfl hout
   refine⟨[.int .i64 0,.nil,.int .i64 7],?_,Hs hout⟩
   unfold bt
   rw[if_pos hout]
   kernel_rfl
  ·have hin:¬bF n k t:=fun ho=>by unfold bt at hin;rw[if_pos ho]at hin;omega
   have hii:k9 n k t=bG n k t:=by unfold k9;rw[if_neg hin]
   have hv:=hiv hin
   simp only[hii,decide_eq_true_eq,decide_eq_false_iff_not]
   (repeat' with_reducible first|refine And.intro ?_ ?_|intro _)
   all_goals first|omega|(exfalso;omega)|exact absurd ‹false=true› (by decide)|exact absurd ‹true=false› (by decide)|skip
   refine⟨0,⟨by omega,hin⟩,[(0,0),(2,131072)],rfl,rfl,rfl,bq rfl rfl rfl (fun i hi=>?_) (aN rfl rfl (aK rfl rfl) trivial)⟩
   have:i=0:=by omega
   subst this
   exact .inr ⟨rfl,bL rfl (by have:=qa (d:=0);exact Nat.le_trans (by decide) this)⟩
 ·have hv:=hiv hin
  refine ak.zn hT sL hm (y:=qA) (x1:=pN) (zb:=part qA [1,1]) [1,0] (j:=1) (by kernel_rfl) (by kernel_rfl) (by kernel_rfl) (by kernel_rfl) hk (f1:=[48]) 60 kK 3 (fun _:Unit=>rT n k p (bG n k t) d) (fun _=>[(2,iB (d+1) (vB k (bG n k t) t d) fun _=>SB d),(0,tP t sK)]) (fun _=>d+1≤p) ⟨_,Zb,?_⟩ (fun _ hd'=>?_)
  ·simp only[aa.all,ax,decide_eq_true_eq,decide_eq_false_iff_not]
   have re:eP [] ([ag 3 n fun i=>rat (k i) sK,int i64 p,ptr 0 0 3 0 [],int i64 (bG n k t),own 2 3 0 (d+1),int i64 ((d+1:Nat):Int),int i64 (0:Int),nil,int i64 (0:Int)],[((2:Nat),ah.mk true true 3 (d+1) fun i↦rat (vB k (bG n k t) t d i) (SB d)),((0:Nat),ah.mk false true 3 1 fun x↦rat t sK)]) (rT n k p (bG n k t) d) [(2,iB (d+1) (vB k (bG n k t) t d) fun _=>SB d),(0,tP t sK)] 3:=
    ⟨[(0,0),(2,2)],rfl,rfl,rfl,bq rfl rfl rfl (fun i hi=>aK rfl rfl) (aN rfl rfl (aK rfl rfl) trivial)⟩
   exact⟨fun h1=>⟨(),by omega,re⟩,fun h1 s' hs'=>⟨rfl,d,⟨by omega,hin⟩,re.le hs' hk⟩⟩
  refine ak.jv hT sL hm (x:=pN) (z:=part pN [1,1]) [1,0,1] (i:=2) (y:=part pN [1,0,1,0,0]) (by kernel_rfl) (by kernel_rfl) (by kernel_rfl) (by kernel_rfl) hk (f1:=[]) (f2:=[57]) 60 xl 4 (fun j:Nat=>E7 n k p (bG n k t) d j)
   (fun j=>[(3,iB (d+2) (jW k (bG n k t) t d j) (iF d j)),(2,iB (d+1) (vB k (bG n k t) t d) fun _=>SB d),(0,tP t sK)]) (fun j=>j≤d+1) (fun j=>j=d+1) (fun j=>d+1-j) (fun _=>False) ⟨_,NZ,?_⟩ (fun j hj=>⟨_,Wr,?_⟩) (fun j hj=>?_) (fun _ _ h=>h.elim)
  ·simp only[aa.all,ax]
   rw[show(((d+1:Nat):Int)+1).toNat=d+2 by omega]
   refine⟨⟨by omega,by omega⟩,0,by omega,[(0,0),(2,2),(3,8195)],rfl,rfl,rfl,bq rfl rfl rfl (fun i hi=>?_) (bq rfl rfl rfl (fun i hi=>aK rfl rfl) (aN rfl rfl (aK rfl rfl) trivial))⟩
   refine .inr ⟨rfl,bL ?_ ?_⟩
   ·unfold jW xz;rw[if_neg (by omega)];split<;>rfl
   ·unfold iF HB;rw[if_neg (by omega)];split<;>omega
  ·have hF:=AL
   have h1:=qa (d:=d)
   have h2:=yw (d:=d) (by omega)
   have h3:=yw (d:=d+1) (by omega)
   have h5:sV=268435456:=rfl
   have s0:iF d j j=HB d:=by unfold iF;rw[if_neg (by omega),if_pos rfl]
   have s1:iF d j (j+1)=1:=by unfold iF;rw[if_neg (by omega),if_neg (by omega)]
   have e0:((bG n k t:Int)-((d+1:Nat):Int)+1+(j:Int)).toNat=bG n k t-d+j:=by omega
   have e1:((bG n k t:Int)-((d+1:Nat):Int)+1+(j:Int)+((d+1:Nat):Int)).toNat=bG n k t-d+j+(d+1):=by omega
   have e2:((j:Int)+1).toNat=j+1:=by omega
   simp only[aa.all,ax,decide_eq_true_eq,decide_eq_false_iff_not,Int.toNat_natCast,Nat.add_zero,e0,e1,e2,ND]
   have hjj:(j==j+1)=false:=by simp
   refine⟨fun h4=>?_,fun h4=>⟨rfl,j,by omega,[(0,0),(2,2),(3,3)],rfl,rfl,rfl,bq rfl rfl rfl (fun i hi=>aK rfl rfl) (bq rfl rfl rfl (fun i hi=>aK rfl rfl) (aN rfl rfl (aK rfl rfl) trivial))⟩⟩
   (repeat' with_reducible refine And.intro ?_ ?_)
   all_goals first|omega|(rw[s1];omega)|(rw[hjj,cond_false,s0];unfold HB;omega)|skip
   refine⟨j+1,by omega,by dsimp only;omega,[(0,0),(2,2),(3,3)],rfl,rfl,rfl,bq rfl rfl rfl (fun x hx=>aay (by omega)) (bq rfl rfl rfl (fun i hi=>aK rfl rfl) (aN rfl rfl (aK rfl rfl) trivial))⟩
  ·subst hj
   refine ak.tail (fun s' hh=>by have:=hh.1;omega) (aC.bf hT sL hm 60 kK SU (by kernel_rfl) ?_)
   simp only[aa.all,ax]
   refine⟨by omega,fun s' hs'=>⟨d+1,⟨hd',hin⟩,by dsimp only;omega,eP.le ⟨[(0,0),(2,3)],rfl,rfl,rfl,bq rfl rfl rfl (fun x hx=>?_) (aN rfl rfl (aK rfl rfl) trivial)⟩ hs' hk⟩⟩
   refine .inr ⟨rfl,bL ?_ ?_⟩
   ·unfold jW
    by_cases hlt:x<d+1
    ·rw[if_pos hlt]
    ·have:x=d+1:=by omega
     subst this
     rw[if_neg (by omega),if_pos rfl,vB,if_neg (show¬d+1≤d by omega),Rat.add_zero];rfl
   ·have h1:=y9 (d:=d)
    have h2:=qa (d:=d)
    have hF:=AL
    show _≤SB (d+1)
    unfold iF HB
    split
    ·omega
    ·split<;>omega
 ·subst hd
  refine ak.gz ((aC.fin hT sL hm 60 X7 (by kernel_rfl) ?_).mono fun _ _ h=>.inl h)
  simp only[aa.all,ax]
  exact⟨by have:=hiv hin;omega,HK hin fun j _=>cN (yw hp6)⟩
end Go.Am.B

/- basis.Sum; numbers of wC. -/
namespace Go.Am.B
open Go Go.Am.N AV aa aj IntKind
theorem Uh:aO P sZ vh (aq vh):=aP agt (by kernel_rfl) (by kernel_rfl) (by kernel_rfl)
def BD:Spec:=cC Ii (fun a=>qz a.1.1 a.1.2 a.2.1.toNat a.2.2.1) fun a=>[Kn a.1.1 a.2.1.toNat a.1.2,0≤a.2.1,a.2.1≤6,a.1.1<2^40]
theorem Yj:∀K args pre r,BD K args pre=some r→az P xY K args pre r:=cz fun⟨⟨n,k⟩,p,t,_⟩ K hn=>by
 obtain⟨h1,h2,h3,h4⟩:=hn
 have h3:p≤6:=h3
 have:=aft h1 (by simp only;omega) h4 K (t:=t)
 rw[Int.toNat_of_nonneg h2]at this
 exact this
def Ft:Spec:=cC (kC (kL sK) (kC kI kN)) (fun a=>.int .i64 ((a.1.1:Int)-a.2.1-1)) fun a=>[a.1.1<2^40,-2^40<a.2.1,a.2.1<2^40]
theorem VH {n:Nat} {k:Nat→Rat} {p:Int}:bu T [nG] [] 60 vh (aq vh) ⟨aM 0 [ls k n,.int .i64 p],[],0⟩=
  let c3:Int:=(↑n:Int)-p;let c1:Int:=(2:Int)^63;let c2:Int:=c3-(1:Int);some (af [-c1≤c3∧c3<c1,-c1≤c2∧c2<c1] (leaf ret [int i64 c2])):=by kernel_rfl
theorem GX:∀K args pre r,Ft K args pre=some r→az P sZ K args pre r:=cz fun⟨⟨n,k⟩,p,_⟩ K hn=>by
 obtain⟨h1,h2,h3⟩:=hn
 have h3:p<2^40:=h3
 simp only at h1 h2
 refine bC (r:=aF (.int .i64 ((n:Int)-p-1)) []) hT (cw aX) hm Uh rfl (of_decide_eq_true (by kernel_rfl)) rfl 60 VH (fun _=>?_) K []
 simp only[aa.all,ax]
 exact⟨by omega,.refl _⟩
abbrev sU:Nat:=4294967296
theorem qi {n:Nat} {k:Nat→Rat} {t:Rat} (h:bt n k t≠0):bF n k t:=by
 unfold bt at h
 by_cases ho:bF n k t
 ·exact ho
 ·rw[if_neg ho]at h;exact absurd rfl h
theorem pU {n:Nat} {k:Nat→Rat} {t:Rat} (h:bt n k t=0):¬bF n k t:=fun ho=>by unfold bt at h;rw[if_pos ho]at h;omega
theorem Kn.mY {n p:Nat} {k:Nat→Rat} (h:Kn n p k) {t:Rat} (hin:¬bF n k t):p≤bG n k t∧bG n k t+p+1<n:=by
 have h1:¬t<k 0:=fun h=>hin (.inl h)
 have h2:¬k (n-1)<t:=fun h=>hin (.inr h)
 exact(h.zx (by grind) (by grind)).2
end Go.Am.B
