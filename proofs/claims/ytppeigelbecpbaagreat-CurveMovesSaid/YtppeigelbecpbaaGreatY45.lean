/- brepkernelmade: Rat, Within; lists of numbers as arguments. -/
import Derived.Test.YtppeigelbecpbaaGreatB43
import Derived.Test.YtppeigelbecpbaaGreatY39
import Derived.Test.YtppeigelbecpbaaGreatZ2
import Derived.Test.YtppeigelbecpbaaGreatC4
import Derived.Test.YtppeigelbecpbaaGreatD1
set_option linter.unusedVariables false
namespace Go.Am.B
open Go Go.Am.N AV
theorem RC:aO P C7 uk (au uk):=aP Xe (by kernel_rfl) (by kernel_rfl) (by kernel_rfl)
theorem adu {x y:Int}:bC T WS [] 60 uk (au uk) ⟨aN 0 [.int .i64 x,.int .i64 y],[],0⟩=
  some (aa.ag [(0:Int)<(41:Int),(41:Int)<(2:Int)^62,(0:Int)<(8:Int),(8:Int)<(2:Int)^62,-(2:Int)^63≤IntKind.i64.wrap (x%(41:Int)-(20:Int)),IntKind.i64.wrap (x%(41:Int)-(20:Int))<(2:Int)^63,-(2:Int)^63≤IntKind.i64.wrap (y%(8:Int)+(1:Int)),IntKind.i64.wrap (y%(8:Int)+(1:Int))<(2:Int)^63,(0:Nat)<1] (aa.ag [(0:Nat)<1] (aa.leaf ak.ret [rat ((↑(IntKind.i64.wrap (x%(41:Int)-(20:Int))):Rat)/(↑(IntKind.i64.wrap (y%(8:Int)+(1:Int))):Rat)) 64]))):=by kernel_rfl
def BQ (x y:Int):Rat:=((x%41-20:Int):Rat)/((y%8+1:Int):Rat)
def PS:Spec:=bB fun l=>match l with
 |[.int .i64 x,.int .i64 y]=>some (aI (.rat (BQ x y) 64) [])
 |_=>none
theorem aeJ:∀K args pre r,PS K args pre=some r→aA P C7 K args pre r:=by
 refine bS fun K args r hk hs _=>?_
 split at hs
 ·rename_i x y
  simp only[Option.some.injEq]at hs
  subst hs
  refine bF hT (aJ Nw (aJ A8 bn)) hm RC rfl (of_decide_eq_true (by kernel_rfl)) rfl 60 adu (fun _=>?_) K []
  unfold BQ
  have w1:=Int.emod_nonneg x (show(41:Int)≠0 by omega)
  have w2:=Int.emod_lt_of_pos x (show(0:Int)<41 by omega)
  have v1:=Int.emod_nonneg y (show(8:Int)≠0 by omega)
  have v2:=Int.emod_lt_of_pos y (show(0:Int)<8 by omega)
  generalize x%41=u at*
  generalize y%8=v at*
  have e1:IntKind.i64.wrap (u-20)=u-20:=wrap_i64 (by omega) (by omega)
  have e2:IntKind.i64.wrap (v+1)=v+1:=wrap_i64 (by omega) (by omega)
  rw[e1,e2]
  simp only[aa.all,ax]
  exact⟨⟨by omega,by omega,by omega,by omega,by omega,by omega,by omega,by omega⟩,by omega,.refl _⟩
 ·simp at hs
def kL (s:Nat):Kind (Nat×(Nat→Rat)):=⟨fun v=>match uF v with
 |some (n,f)=>some ((n,fun i=>aT (f i)),[bP f n s])
 |none=>none,fun a=>aV a.2 a.1 s,fun {v a q} h hq=>by
  split at h
  ·rename_i h1
   simp only[Option.some.injEq,Prod.mk.injEq]at h
   obtain⟨rfl,rfl⟩:=h
   exact aiT h1 hq
  ·simp at h⟩
def iG (s:Nat):Kind Rat:=⟨fun v=>match ic v with
 |some (q,n)=>some (q,[n≤s])
 |none=>none,fun a=>.rat a s,fun {v a q} h hq=>by
  split at h
  ·rename_i h1
   simp only[Option.some.injEq,Prod.mk.injEq]at h
   obtain⟨rfl,rfl⟩:=h
   exact(jg h1).trans (eW hq)
  ·simp at h⟩
structure pH (α:Type) where
 read:List AV→Option (α×List Prop)
 make:α→List AV
 ok:∀{l:List AV} {a:α} {q:List Prop},read l=some (a,q)→ax q→eo l (make a)
def kN:pH Unit:=⟨fun l=>match l with
 |[]=>some ((),[])
 |_=>none,fun _=>[],fun {l a q} h _=>by
  split at h
  ·trivial
  ·simp at h⟩
def kC {α β:Type} (k:Kind α) (kl:pH β):pH (α×β):=⟨fun l=>match l with
 |v::l=>match k.read v,kl.read l with
  |some (a,p),some (b,q)=>some ((a,b),p++q)
  |_,_=>none
 |[]=>none,fun a=>k.make a.1::kl.make a.2,fun {l a q} h hq=>by
  split at h
  ·split at h
   ·rename_i h1 h2
    simp only[Option.some.injEq,Prod.mk.injEq]at h
    obtain⟨rfl,rfl⟩:=h
    obtain⟨q1,q2⟩:=cE.1 hq
    exact⟨k.ok h1 q1,kl.ok h2 q2⟩
   ·simp at h
  ·simp at h⟩
def cJ {α:Type} (k:pH α) (g:α→AV) (need:α→List Prop):Spec:=bB fun l=>match k.read l with
 |some (a,p)=>some (aI (g a) (p++need a))
 |none=>none
theorem cz {α:Type} {f:FuncId} {k:pH α} {g:α→AV} {need:α→List Prop} (h:∀a K,ax (need a)→aA P f K (k.make a) [] (aI (g a) [])):∀K args pre r,cJ k g need K args pre=some r→aA P f K args pre r:=by
 refine bS fun K args r hk hs _=>?_
 split at hs
 ·rename_i h1
  simp only[Option.some.injEq]at hs
  subst hs
  intro hn
  obtain⟨n1,hn⟩:=cE.1 hn
  exact fN (h _ K hn) hk (k.ok h1 n1) [] trivial
 ·simp at hs
end Go.Am.B

/- fJ.Interval, ref08.Interval; numbers of pU. -/
namespace Go.Am.B
open Go Go.Am.N AV aa ak IntKind
theorem ahM:aO P ri xH (au xH):=aP SN (by kernel_rfl) (by kernel_rfl) (by kernel_rfl)
def fS:aR:=nG::vj
def Cp:aR:=nG::ny
abbrev sK:Nat:=4096
abbrev ls (k:Nat→Rat) (n:Nat):AV:=aV k n sK
abbrev tP (t:Rat) (s:Nat):ah:=⟨false,true,3,1,fun _=>.rat t s⟩
abbrev vQ:List Nat:=[0,5,8,9,6,7]
abbrev G3 (n:Nat) (k:Nat→Rat) (l i:Nat):List AV:=[ls k n,.ptr 0 0 3 0 [],.int .i64 l,.int .i64 i,.int .i64 0,.int .i64 0]
noncomputable abbrev xG:Code:=au xH
theorem aap {n:Nat} {k:Nat→Rat} {p:Int} {t:Rat}:aK T fS [200013,21,31] 60 vQ (before xG [1,1,1,0,1]) ⟨aN 0 [ls k n,.int .i64 p,.rat t sK],[],0⟩=
  let c11:Prop:=((↑n:Int)==(0:Int))=false;let c10:Prop:=0<1;let c9:AV:=aj 3 n fun i↦rat (k i) 4096;let c8:Nat:=Int.toNat (0:Int);let c7:AV:=ptr 0 0 (aU (rat t sK)).size 0 [];let c6:AV:=int i64 (0:Int);let c5:Nat×ah:=((0:Nat),ah.mk false true (aU (rat t sK)).size 1 fun x↦rat t 4096);let c4:Int:=(↑n:Int)-(1:Int);let c12:Prop:=(0:Int)≤(0:Int)∧c8<n;let c3:Bool:=bif false then true else decide (dZ t (k c8)<(0:Int));let c2:aa (List AV×aC):=leaf ret ([c9,c7,tuple [],tuple [],c6,int i64 (7:Int)],[c5]);let c1:aa (List AV×aC):=leaf normal ([c9,c7,c6,c6,c6,c6],[c5]);some (fork c3 (ag [c11,c10,c12,c3=true] (fork true c2 c1)) (ag [c11,c10,c12,c3=false,c10,-(2:Int)^63≤c4∧c4<(2:Int)^63,(0:Int)≤c4∧c4.toNat<n] (fork (bif false then true else decide (dZ t (k c4.toNat)>(0:Int))) c2 c1))):=by kernel_rfl
theorem agO {n l i:Nat} {k:Nat→Rat} {t:Rat}:aK T fS [36,49,58] 60 vQ [part xG [1,1,1,0,1,0,0]] ⟨aB vQ (G3 n k l i),[(0,tP t sK)],1⟩=
  let c7:Int:=(↑i:Int);let c6:List AV:=[int i64 (0:Int),int i64 (0:Int)];let c5:AV:=ptr 0 0 3 0 [];let c4:AV:=aj 3 n fun i↦rat (k i) 4096;let c2:Nat×ah:=((0:Nat),ah.mk false true 3 1 fun x↦rat t 4096);let c10:AV:=int i64 c7;let c1:Int:=c7+(1:Int);let c8:Int:=dZ (k c7.toNat) (k c1.toNat);let c3:Prop:=-(2:Int)^63≤c1∧c1<(2:Int)^63;let c9:List Prop:=[c3,(0:Int)≤c1∧c1.toNat<n];some (ag [c3] (fork (decide (c1<(↑n:Int))) (ag (((0:Int)≤c7∧c7.toNat<n)::c9) (fork (decide (c8≥(0:Int))) (ag [c3] (leaf normal (c4::c5::int i64 (↑l:Int)::int i64 c1::c6,[c2]))) (ag (((0:Nat)<1)::c9) (fork (decide (dZ t (k c1.toNat)<(0:Int))) (leaf (exit 0) (c4::c5::c10::c10::c6,[c2])) (ag [c3] (leaf normal (c4::c5::c10::int i64 c1::c6,[c2]))))))) (leaf (exit 0) (c4::c5::int i64 (↑l:Int)::c10::c6,[c2])))):=by kernel_rfl
theorem ahs {n l i:Nat} {k:Nat→Rat} {t:Rat}:bW T fS [] 60 xH [part xG [1,1,1,1]] ⟨aB vQ (G3 n k l i),[(0,tP t sK)],1⟩=
  some (leaf ret [int i64 (↑l:Int),int i64 (0:Int)]):=by kernel_rfl
abbrev Kj (n:Nat) (k:Nat→Rat) (i:Nat):List AV:=[ls k n,.ptr 0 0 3 0 [],.int .i64 i,.int .i64 0,.int .i64 0]
theorem jV:aX P fS:=cC A3
theorem aj7:aX P Cp:=cC o9
theorem wk {q:Rat} {n:Nat}:aT (.rat q n)=q:=rfl
theorem Wp:max 1 (br (Int.natAbs 1))=1:=by decide
theorem zq {a b:Rat}:dZ a b≥(0:Int)↔b≤a:=by
 have:=@nS a b
 constructor
 ·intro h
  have:¬a<b:=fun h'=>by have:=nS.2 h';omega
  grind
 ·intro h
  have:¬dZ a b<0:=fun h'=>by have:=nS.1 h';grind
  omega
theorem lZ {rl:List (Nat×Nat)} {l i s s' s2:Nat} {x y:Nat→Rat} {t:Rat} (hx:∀i,i<l→x i=y i) (ht:t=y l) (h1:s≤s2) (h2:s'≤s2) (hi:i<l+1):fc rl (if i<l then .rat (x i) s else nth [.rat t s'] (.rat 0 1) (i-l+0)) (.rat (y i) s2):=by
 by_cases h:i<l
 ·rw[if_pos h,hx i h];exact .inr ⟨rfl,bp rfl h1⟩
 ·have:i=l:=by omega
  subst this
  rw[if_neg h,Nat.sub_self,ht]
  exact .inr ⟨rfl,bp rfl h2⟩
def eE (n:Nat) (k:Nat→Rat) (t:Rat):Prop:=t<k 0∨k (n-1)<t
instance {n:Nat} {k:Nat→Rat} {t:Rat}:Decidable (eE n k t):=inferInstanceAs (Decidable (t<k 0∨k (n-1)<t))
def jx (n:Nat) (k:Nat→Rat) (t:Rat):Nat:=if eE n k t then 0 else cS n k t
def eA (n:Nat) (k:Nat→Rat) (t:Rat):Int:=if eE n k t then 7 else 0
abbrev vS (n:Nat) (k:Nat→Rat) (t:Rat):AV:=.tuple [.int .i64 (jx n k t),.int .i64 (eA n k t)]
theorem Mr {n:Nat} {k:Nat→Rat} {t:Rat} (h:eE n k t):dx [.int .i64 0,.int .i64 7] (vS n k t):=
 ⟨bt (by unfold jx;rw[if_pos h];rfl),bt (by unfold eA;rw[if_pos h]),trivial⟩
theorem R4 {n i:Nat} {k:Nat→Rat} {t:Rat} (h:¬eE n k t) (hi:i=cS n k t):dx [.int .i64 i,.int .i64 0] (vS n k t):=
 ⟨bt (by unfold jx;rw[if_neg h,hi]),bt (by unfold eA;rw[if_neg h]),trivial⟩
abbrev tY (k:Nat→Rat) (t:Rat) (i:Nat):Nat:=jN (fun i=>decide (k i<k (i+1))&&decide (k i≤t)) i
theorem Lp {g:Nat→Bool} {m:Nat}:jN g (m+1)=if g m then m else jN g m:=rfl
theorem Yv {n p0:Nat} {k:Nat→Rat} {p:Int} {t:Rat} (h:Kn n p0 k) (hn:n<2^40) (K:Nat):aA P ri K [ls k n,.int .i64 p,.rat t sK] [] (aI (vS n k t) []):=by
 have hp:=h.p1
 have hl:=h.len
 refine fK (r:=aI (vS n k t) []) hT jV hm ahM rfl (of_decide_eq_true (by kernel_rfl)) rfl [1,1,1,0,1] (i:=0) (y:=part xG [1,1,1,0,1,0,0]) (z:=part xG [1,1,1,1]) (by kernel_rfl) (by kernel_rfl) (by kernel_rfl) (f1:=[200013,21,31]) (f2:=[36,49,58]) (f3:=[]) 60 vQ 1
  (fun a:Nat×Nat=>G3 n k a.2 a.1) (fun _=>[(0,tP t sK)]) (fun a=>a.1+1≤n∧a.2=tY k t a.1∧k a.1≤t∧¬eE n k t) (fun a=>a.2=cS n k t∧¬eE n k t) (fun a=>n-a.1) (fun _=>⟨⟨_,aap,?_⟩,fun⟨i,l⟩ ⟨h1,h2,h3,h4⟩=>⟨_,agO,?_⟩,fun⟨i,l⟩ ⟨h1,h2⟩=>⟨_,ahs,R4 h2 h1⟩⟩) K []
 ·simp only[aa.all,ax,decide_eq_true_eq,decide_eq_false_iff_not,nS,ug,cond_false,Int.toNat_zero,beq_eq_false_iff_ne,ne_eq,show((n:Int)-1).toNat=n-1 by omega]
  (repeat' with_reducible first|refine And.intro ?_ ?_|intro _)
  all_goals first|omega|assumption|skip
  ·exact⟨_,by kernel_rfl,Mr (.inl ‹_›)⟩
  ·exact absurd ‹true=false› (by decide)
  ·exact⟨_,by kernel_rfl,Mr (.inr ‹_›)⟩
  ·rename_i a b
   have hin:¬eE n k t:=fun h=>h.elim (fun h=>a h) fun h=>b h
   exact⟨(0,0),⟨by omega,rfl,by show k 0≤t;grind,hin⟩,[(0,0)],rfl,rfl,rfl,aF rfl rfl (aD rfl rfl) trivial⟩
 ·have hs:∀i,i+1<n→k i≤k (i+1):=h.sorted
  simp only at h1 h2 h3
  simp only[aa.all,ax,decide_eq_true_eq,decide_eq_false_iff_not,nS,zq,Int.toNat_natCast,show((i:Int)+1).toNat=i+1 by omega]
  (repeat' with_reducible first|refine And.intro ?_ ?_|intro _)
  all_goals first|omega|assumption|skip
  ·rename_i hi hge
   have:=hs i (by omega)
   have e:tY k t (i+1)=tY k t i:=by
    have:¬k i<k (i+1):=by grind
    rw[tY,Lp,if_neg (by simp[this])]
   exact⟨(i+1,l),⟨by omega,h2.trans e.symm,by show k (i+1)≤t;grind,h4⟩,by dsimp only;omega,[(0,0)],rfl,rfl,rfl,aF rfl rfl (aD rfl rfl) trivial⟩
  ·rename_i hi hlt hb
   have:k i<k (i+1):=by grind
   have hiv:cS n k t=i:=Zk ⟨⟨by omega,hs,this⟩,h3,by grind,.inl hb⟩
   exact⟨rfl,(i,i),⟨hiv.symm,h4⟩,[(0,0)],rfl,rfl,rfl,aF rfl rfl (aD rfl rfl) trivial⟩
  ·rename_i hi hlt hb
   have:k i<k (i+1):=by grind
   have e:tY k t (i+1)=i:=by
    rw[tY,Lp,if_pos (by simp[this,h3])]
   exact⟨(i+1,i),⟨by omega,e.symm,by show k (i+1)≤t;grind,h4⟩,by dsimp only;omega,[(0,0)],rfl,rfl,rfl,aF rfl rfl (aD rfl rfl) trivial⟩
  ·have hin:i=n-1:=by omega
   subst hin
   exact⟨rfl,(n-1,l),⟨h2,h4⟩,[(0,0)],rfl,rfl,rfl,aF rfl rfl (aD rfl rfl) trivial⟩
abbrev Nu:pH ((Nat×(Nat→Rat))×Int×Rat×Unit):=kC (kL sK) (kC kI (kC (iG sK) kN))
def FC:Spec:=cJ Nu (fun a=>vS a.1.1 a.1.2 a.2.2.1) fun a=>[Kn a.1.1 a.2.1.toNat a.1.2,0≤a.2.1,a.1.1<2^40]
theorem MO:∀K args pre r,FC K args pre=some r→aA P ri K args pre r:=cz fun _ K hn=>Yv hn.1 hn.2.2 K
end Go.Am.B

/- basis.fraction, basis.Values. -/
namespace Go.Am.B
open Go Go.Am.N AV aa ak IntKind
theorem aa2:aO P xD yM (au yM):=aP acS (by kernel_rfl) (by kernel_rfl) (by kernel_rfl)
theorem M9:aO P yg rm (au rm):=aP Xx (by kernel_rfl) (by kernel_rfl) (by kernel_rfl)
def O0:aR:=(o4,gI kR kR sj mU)::eU
theorem ac1 {a b t:Rat} {n:Nat}:bC T O0 [] 60 yM (au yM) ⟨aN 0 [.rat a n,.rat b n,.rat t n],[],0⟩=
  let c3:Nat:=n+n+1;let c2:Nat:=2^42;let c1:Prop:=0<1;some (ag [c1,c1,n<c2,n<c2,c1,c1,n<c2,n<c2,c3<c2,c3<c2,c1] (ag [c1,c1] (ag [c1] (leaf ret [rat ((t-a)/(b-a)) (c3+c3)])))):=by kernel_rfl
abbrev sF:Nat:=16386
def DT:Spec:=cJ (kC (iG sK) (kC (iG sK) (kC (iG sK) kN))) (fun a=>.rat (fr a.1 a.2.1 a.2.2.1) sF) fun _=>[]
theorem R3:aX P O0:=aJ (gZ fun _ _ K hn=>vt hn.1 hn.2 K) fC
theorem P1:∀K args pre r,DT K args pre=some r→aA P xD K args pre r:=cz fun⟨a,b,t,_⟩ K _=>by
 refine bF (r:=aI (.rat (fr a b t) sF) []) hT R3 hm aa2 rfl (of_decide_eq_true (by kernel_rfl)) rfl 60 ac1 (fun _=>?_) K []
 simp only[aa.all,ax]
 have h1:sK=4096:=rfl
 (repeat' with_reducible refine And.intro ?_ ?_)
 all_goals first|omega|exact(bp rfl (show sK+sK+1+(sK+sK+1)≤sF by decide))
def pX:aR:=nG::(ri,FC)::(xD,DT)::(pE,A0)::eU
def SB (d:Nat):Nat:=65536*4^d
abbrev HB (d:Nat):Nat:=1+(sF+SB d)+1
abbrev lP:List Nat:=[0,1,5,9,11,12,6,7,8]
abbrev tT (n:Nat) (k:Nat→Rat) (p i d:Nat):List AV:=[ls k n,.int .i64 p,.ptr 0 0 3 0 [],.int .i64 i,.own 2 3 0 (d+1),.int .i64 ((d+1:Nat):Int),.int .i64 0,.nil,.int .i64 0]
abbrev jI (m:Nat) (x:Nat→Rat) (s:Nat→Nat):ah:=⟨true,true,3,m,fun i=>.rat (x i) (s i)⟩
noncomputable abbrev CH:Code:=au rm
noncomputable abbrev rX:Code:=part CH [1,1,1,1,1,0,1,0,0]
noncomputable abbrev qC:Code:=part rX [1,0,0]
abbrev zS:List Nat:=[0,1,5,9,12,13,54,55,56,6,7,8]
abbrev FT (n:Nat) (k:Nat→Rat) (p i d j:Nat):List AV:=[ls k n,.int .i64 p,.ptr 0 0 3 0 [],.int .i64 i,.int .i64 ((d+1:Nat):Int),.own 3 3 0 (d+2),.own 2 3 0 (d+1),.int .i64 ((d+1:Nat):Int),.int .i64 j,.int .i64 0,.nil,.int .i64 0]
theorem ZB {n p:Nat} {k:Nat→Rat} {t:Rat}:aK T pX [26,30,36,43] 60 lP (before CH [1,1,1,1,1,0,1]) ⟨aN 0 [ls k n,.int .i64 p,.rat t sK],[],0⟩=
  let c13 : Int := eA n (fun i ↦ aT (rat (k i) sK)) t; let c12 : AV := int i64 (0 : Int); let c9 : AV := aj 3 n fun i ↦ rat (k i) 4096; let c7 : AV := ptr 0 0 (aU (rat t sK)).size 0 []; let c6 : Int := (2 : Int) ^ 63; let c5 : Nat × ah := ((0 : Nat), ah.mk false true (aU (rat t sK)).size 1 fun x ↦ rat t 4096); let c4 : Int := (↑p : Int); let c3 : Int := (↑(jx n (fun i ↦ aT (rat (k i) sK)) t) : Int); let c15 : Prop := -c6 ≤ c3 - c4 ∧ c3 - c4 < c6; let c14 : Prop := -c6 ≤ c3 + c4 ∧ c3 + c4 < c6; let c11 : Bool := bif false then true else decide (c3 + c4 ≥ (↑n : Int)); let c10 : Bool := decide (c4 < (0 : Int)); let c8 : Bool := bif false then true else decide (c3 - c4 < (0 : Int)); let c2 : aa (List AV × aC) := leaf ret ([c9, int i64 c4, c7, int i64 c3, tuple [], tuple [], c12, nil, int i64 (7 : Int)], [c5]); let c1 : aa (List AV × aC) := ag [(1 : Nat) * 3 ≤ 2 ^ 24] (leaf normal ([c9, int i64 c4, c7, int i64 c3, own 131072 3 0 1, int i64 (1 : Int), c12, nil, c12], [((131072 : Nat), ah.mk true true 3 1 fun i ↦ nth [rat (↑(1 : Int) : Rat) (Max.max 1 (br (Int.natAbs (1 : Int))))] (rat 0 1) i), c5])); some (ag [(0 : Nat) < 1, bP (fun i ↦ rat (k i) sK) n sK, sK ≤ sK, Kn n c4.toNat fun i ↦ aT (rat (k i) sK), (0 : Int) ≤ c4, n < 2 ^ 40] (fork (c13 != (0 : Int)) (leaf ret ([c9, int i64 c4, c7, int i64 c3, tuple [], tuple [], c12, nil, int i64 c13], [c5])) (fork false (fork true (ag [c10 = true, true = true] (fork true c2 c1)) (ag [c10 = true, true = false, c14] (fork c11 c2 c1))) (fork c8 (ag [c10 = false, c15, c8 = true] (fork true c2 c1)) (ag [c10 = false, c15, c8 = false, c14] (fork c11 c2 c1)))))) := by kernel_rfl
theorem aha {n p i d:Nat} {k x:Nat→Rat} {t:Rat}:aK T pX [48] 60 lP (before rX [1,0]) ⟨aB lP (tT n k p i d),[(2,jI (d+1) x fun _=>SB d),(0,tP t sK)],3⟩=
  let c2:Int:=(↑(d+1):Int);let c1:List AV×aC:=([aj 3 n fun i↦rat (k i) 4096,int i64 (↑p:Int),ptr 0 0 3 0 [],int i64 (↑i:Int),own 2 3 0 (d+1),int i64 c2,int i64 (0:Int),nil,int i64 (0:Int)],[((2:Nat),ah.mk true true 3 (d+1) fun i↦rat (x i) (SB d)),((0:Nat),ah.mk false true 3 1 fun x↦rat t 4096)]);some (fork (decide (c2≤(↑p:Int))) (leaf normal c1) (leaf (exit 0) c1)):=by kernel_rfl
theorem ae1 {n p i d:Nat} {k x:Nat→Rat} {t:Rat}:aK T pX [] 60 zS (before qC [1,0,1]) ⟨aB lP (tT n k p i d),[(2,jI (d+1) x fun _=>SB d),(0,tP t sK)],3⟩=
  let c3:AV:=int i64 (0:Int);let c2:Int:=(↑(d+1):Int);let c1:Int:=c2+(1:Int);some (ag [-(2:Int)^63≤c1∧c1<(2:Int)^63,(0:Int)≤c1∧c1≤c1∧c1≤(2:Int)^47∧c1*(↑(56:Nat):Int)≤(2:Int)^47] (leaf normal ([aj 3 n fun i↦rat (k i) 4096,int i64 (↑p:Int),ptr 0 0 3 0 [],int i64 (↑i:Int),int i64 c2,own 8195 3 0 c1.toNat,own 2 3 0 (d+1),int i64 c2,c3,c3,nil,c3],[((2:Nat),ah.mk true true 3 (d+1) fun i↦rat (x i) (SB d)),((8195:Nat),ah.mk true true 3 c1.toNat fun x↦rat 0 1),((0:Nat),ah.mk false true 3 1 fun x↦rat t 4096)]))):=by kernel_rfl
theorem ZR {n p i d j:Nat} {k x y:Nat→Rat} {s:Nat→Nat} {t:Rat}:aK T pX [57] 60 zS [part qC [1,0,1,0,0]] ⟨aB zS (FT n k p i d j),[(3,jI (d+2) y s),(2,jI (d+1) x fun _=>SB d),(0,tP t sK)],4⟩=
  let c20:AV:=int i64 (0:Int);let c19:AV:=ptr 0 0 3 0 [];let c18:AV:=aj 3 n fun i↦rat (k i) 4096;let c16:Nat:=d+1;let c13:Nat×ah:=((0:Nat),ah.mk false true 3 1 fun x↦rat t 4096);let c11:Int:=(↑j:Int);let c10:Prop:=0<1;let c9:Nat:=d+2;let c8:Nat:=Max.max 1 (br (Int.natAbs (1:Int)));let c7:Nat:=2^42;let c5:Int:=(2:Int)^63;let c25:Prop:=(0:Int)≤c11∧c11.toNat<c9;let c23:Nat:=c8+sF+1;let c22:AV:=own 3 3 0 c9;let c21:AV:=own 2 3 0 c16;let c12:Nat×ah:=((2:Nat),ah.mk true true 3 c16 fun i↦rat (x i) (SB d));let c6:Int:=c11+(1:Int);let c4:Nat:=c11.toNat+0;let c3:Int:=(↑c16:Int);let c29:AV:=int i64 c3;let c27:Prop:=(0:Int)≤c6∧c6.toNat<c9;let c24:Prop:=-c5≤c6∧c6<c5;let c17:Int:=(↑i:Int)-c3;let c2:Nat:=c6.toNat+0;let c28:Int:=c17+(1:Int);let c26:Nat:=s c2+(sF+SB d)+1;let c15:Nat:=bif c4==c2 then c26 else s c4;let c1:Int:=c28+c11;let c14:Rat:=fr (k c1.toNat) (k (c1+c3).toNat) t;some (fork (decide (c11<c3)) (ag [(0:Int)≤c11∧c11.toNat<c16,c4<c16,c10] (ag [-c5≤c17∧c17<c5,-c5≤c28∧c28<c5,-c5≤c1∧c1<c5] (ag [(0:Int)≤c1∧c1.toNat<n,-c5≤c1+c3∧c1+c3<c5,(0:Int)≤c1+c3∧(c1+c3).toNat<n,c10,sK≤sK,sK≤sK,sK≤sK,c10] (ag [c24,c24,c27,c2<c9,c10,c10,sF<c7,SB d<c7,s c2<c7,sF+SB d<c7,c27,c2<c9] (ag [c25,c4<c9,c10,c8<c7,sF<c7,c10,c23<c7,SB d<c7,c15<c7,c23+SB d<c7,c25,c4<c9] (ag [c24] (leaf normal ([c18,int i64 (↑p:Int),c19,int i64 (↑i:Int),c29,c22,c21,c29,int i64 c6,c20,nil,c20],[c12,((3:Nat),ah.mk true true 3 c9 fun j↦rat (bif j==c4 then(bif c4==c2 then y c2+c14*x c4 else y c4)+((↑(1:Int):Rat)-c14)*x c4 else bif j==c2 then y c2+c14*x c4 else y j) (bif j==c4 then c15+(c23+SB d)+1 else bif j==c2 then c26 else s j)),c13])))))))) (leaf (exit 2) ([c18,int i64 (↑p:Int),c19,int i64 (↑i:Int),c29,c22,c21,c29,int i64 c11,c20,nil,c20],[c12,((3:Nat),ah.mk true true 3 c9 fun i↦rat (y i) (s i)),c13]))):=by kernel_rfl
theorem abW {n p i d j:Nat} {k x y:Nat→Rat} {s:Nat→Nat} {t:Rat}:aK T pX [] 60 lP [part qC [1,1],part rX [1,1]] ⟨aB zS (FT n k p i d j),[(3,jI (d+2) y s),(2,jI (d+1) x fun _=>SB d),(0,tP t sK)],4⟩=
  let c1:Int:=(↑(d+1):Int)+(1:Int);some (ag [-(2:Int)^63≤c1∧c1<(2:Int)^63] (leaf normal ([aj 3 n fun i↦rat (k i) 4096,int i64 (↑p:Int),ptr 0 0 3 0 [],int i64 (↑i:Int),own 3 3 0 (d+2),int i64 c1,int i64 (0:Int),nil,int i64 (0:Int)],[((3:Nat),ah.mk true true 3 (d+2) fun i↦rat (y i) (s i)),((0:Nat),ah.mk false true 3 1 fun x↦rat t 4096)]))):=by kernel_rfl
theorem ahN {n p i d:Nat} {k x:Nat→Rat} {t:Rat}:bW T pX [] 60 rm [part CH [1,1,1,1,1,1]] ⟨aB lP (tT n k p i d),[(2,jI (d+1) x fun _=>SB d),(0,tP t sK)],3⟩=
  let c1:Int:=(↑i:Int)-(↑p:Int);some (ag [-(2:Int)^63≤c1∧c1<(2:Int)^63] (leaf ret [int i64 c1,aj 3 (d+1) fun i↦rat (x (i+0)) (SB d),int i64 (0:Int)])):=by kernel_rfl
theorem Cz {d:Nat}:SB (d+1)=4*SB d:=by unfold SB;rw[Nat.pow_succ];omega
theorem sx:∀{d:Nat},65536≤SB d
 |0=>by unfold SB;omega
 |d+1=>by rw[Cz];have:=sx (d:=d);omega
theorem Dz:sF=16386:=rfl
theorem adK {d e:Nat} (h:d≤e):SB d≤SB e:=Nat.mul_le_mul_left _ (Nat.pow_le_pow_right (by omega) h)
abbrev sV:Nat:=268435456
theorem vH {d:Nat} (h:d≤6):SB d≤sV:=Nat.le_trans (adK h) (by decide)
def zI (n:Nat) (k:Nat→Rat) (p:Nat) (t:Rat) (f:Nat→Rat):AV:=.tuple [.int .i64 (if eE n k t then 0 else(cS n k t:Int)-p),.aj 3 (if eE n k t then 0 else p+1) (fun j=>.rat (f j) sV),.int .i64 (eA n k t)]
abbrev BB (n:Nat) (k:Nat→Rat) (p:Nat) (t:Rat):AV:=zI n k p t (vB k (cS n k t) t p)
theorem aaJ {n p:Nat} {k f:Nat→Rat} {t:Rat} (h:eE n k t):dx [.int .i64 0,.nil,.int .i64 7] (zI n k p t f):=by
 unfold zI eA
 rw[if_pos h,if_pos h,if_pos h]
 exact⟨.refl _,iJ (by omega),.refl _,trivial⟩
theorem ajv {n p:Nat} {k f:Nat→Rat} {t:Rat} {g:Nat→AV} (h:¬eE n k t) (hg:∀j,j<p+1→bA (g j) (.rat (f j) sV)):dx [.int .i64 ((cS n k t:Int)-p),.aj 3 (p+1) g,.int .i64 0] (zI n k p t f):=by
 unfold zI eA
 rw[if_neg h,if_neg h,if_neg h]
 exact⟨.refl _,jh hg,.refl _,trivial⟩
theorem vZ:aX P pX:=cC (aJ MO (aJ P1 (aJ (Fo E2) fC)))
def vM (k:Nat→Rat) (i:Nat) (t:Rat) (d j:Nat):Rat:=if j=0 then 0 else fr (k (i-d+(j-1))) (k (i-d+(j-1)+(d+1))) t*vB k i t d (j-1)
def kX (k:Nat→Rat) (i:Nat) (t:Rat) (d j x:Nat):Rat:=if x<j then vB k i t (d+1) x else if x=j then vM k i t d j else 0
def iT (d j x:Nat):Nat:=if x<j then SB (d+1)else if x=j then HB d else 1
theorem X7 {rl:List (Nat×Nat)} {k:Nat→Rat} {i d j x:Nat} {t:Rat} (hj:j≤d):
  fc rl (.rat (bif x==j then(bif j==j+1 then kX k i t d j (j+1)+fr (k (i-d+j)) (k (i-d+j+(d+1))) t*vB k i t d j else kX k i t d j j)+(((1:Int):Rat)-fr (k (i-d+j)) (k (i-d+j+(d+1))) t)*vB k i t d j
   else bif x==j+1 then kX k i t d j (j+1)+fr (k (i-d+j)) (k (i-d+j+(d+1))) t*vB k i t d j else kX k i t d j x)
   (bif x==j then(bif j==j+1 then iT d j (j+1)+(sF+SB d)+1 else iT d j j)+(1+sF+1+SB d)+1 else bif x==j+1 then iT d j (j+1)+(sF+SB d)+1 else iT d j x))
   (.rat (kX k i t d (j+1) x) (iT d (j+1) x)):=by
 have h1:=Cz (d:=d)
 have h2:=sx (d:=d)
 have h3:=Dz
 have hjj:(j==j+1)=false:=by simp
 rw[hjj]
 refine .inr ⟨rfl,?_⟩
 by_cases hx:x=j
 ·subst hx
  simp only[beq_self_eq_true,cond_true,cond_false]
  refine bp ?_ ?_
  ·unfold kX
   rw[if_neg (by omega),if_pos rfl,if_pos (by omega),vB,if_pos hj]
   have:((1:Int):Rat)=1:=rfl
   rw[this];rfl
  ·unfold iT HB
   rw[if_neg (by omega),if_pos rfl,if_pos (by omega)];omega
 ·have hb:(x==j)=false:=by simpa using hx
  rw[hb]
  by_cases hx2:x=j+1
  ·subst hx2
   simp only[beq_self_eq_true,cond_true,cond_false]
   refine bp ?_ ?_
   ·unfold kX vM
    rw[if_neg (by omega),if_neg (by omega),if_neg (by omega),if_pos rfl,if_neg (by omega),Nat.add_sub_cancel,Rat.zero_add]
   ·unfold iT HB
    rw[if_neg (by omega),if_neg (by omega),if_neg (by omega),if_pos rfl];omega
  ·have hb2:(x==j+1)=false:=by simpa using hx2
   rw[hb2]
   simp only[cond_false]
   refine bp ?_ ?_
   ·unfold kX
    by_cases hlt:x<j
    ·rw[if_pos hlt,if_pos (by omega)]
    ·rw[if_neg hlt,if_neg hx,if_neg (by omega),if_neg hx2]
   ·unfold iT
    by_cases hlt:x<j
    ·rw[if_pos hlt,if_pos (by omega)];omega
    ·rw[if_neg hlt,if_neg hx,if_neg (by omega),if_neg hx2];omega
theorem ajc {n p:Nat} {k:Nat→Rat} {t:Rat} (h:Kn n p k) (hp6:p≤6) (hn:n<2^40) (K:Nat):aA P yg K [ls k n,.int .i64 p,.rat t sK] [] (aI (BB n k p t) []):=by
 refine gz (r:=aI (BB n k p t) []) hT M9 rfl (of_decide_eq_true (by kernel_rfl)) rfl (fun _ c h0=>?_) K []
 have hk:=nW h0
 have hiv:¬eE n k t→p≤cS n k t∧cS n k t+p+1<n:=fun hin=>by
  have h1:¬t<k 0:=fun h=>hin (.inl h)
  have h2:¬k (n-1)<t:=fun h=>hin (.inr h)
  exact(h.MT (by grind) (by grind)).2
 have hp1:=h.p1
 have hl:=h.len
 refine aq.Bc hT vZ hm [1,1,1,1,1,0,1] (i:=0) (y:=rX) (z:=part CH [1,1,1,1,1,1]) (by kernel_rfl) (by kernel_rfl) (by kernel_rfl) M9.dst hk (f1:=[26,30,36,43]) 60 lP 3 (fun d:Nat=>tT n k p (cS n k t) d) (fun d=>[(2,jI (d+1) (vB k (cS n k t) t d) fun _=>SB d),(0,tP t sK)])
  (fun d=>d≤p∧¬eE n k t) (fun d=>d=p∧¬eE n k t) (fun d=>p-d) (ng rm lP (BB n k p t)) ⟨_,ZB,?_⟩ (fun d ⟨hd,hin⟩=>?_) (fun d ⟨hd,hin⟩=>?_) (fun v s' hv hs'=>hv.fin hs')
 ·simp only[aa.all,ax,wk,bne_iff_ne,ne_eq,bne_eq_false_iff_eq,decide_eq_true_eq,decide_eq_false_iff_not,cond_false,Int.toNat_natCast]
  refine⟨⟨by omega,cU (Nat.le_refl _),Nat.le_refl _,h,by omega,hn⟩,fun hout=>?_,fun hin=>?_⟩
  ·have hout:eE n k t:=by
    unfold eA at hout
    by_cases ho:eE n k t
    ·exact ho
    ·rw[if_neg ho]at hout;exact absurd rfl hout
   refine⟨[.int .i64 0,.nil,.int .i64 7],?_,aaJ hout⟩
   unfold eA
   rw[if_pos hout]
   kernel_rfl
  ·have hin:¬eE n k t:=fun ho=>by unfold eA at hin;rw[if_pos ho]at hin;omega
   have hii:jx n k t=cS n k t:=by unfold jx;rw[if_neg hin]
   have hv:=hiv hin
   simp only[hii,decide_eq_true_eq,decide_eq_false_iff_not]
   (repeat' with_reducible first|refine And.intro ?_ ?_|intro _)
   all_goals first|omega|(exfalso;omega)|exact absurd ‹false=true› (by decide)|exact absurd ‹true=false› (by decide)|skip
   refine⟨0,⟨by omega,hin⟩,[(0,0),(2,131072)],rfl,rfl,rfl,aW rfl rfl rfl (fun i hi=>?_) (aF rfl rfl (aD rfl rfl) trivial)⟩
   have:i=0:=by omega
   subst this
   exact .inr ⟨rfl,bp rfl (by have:=sx (d:=0);exact Nat.le_trans (by decide) this)⟩
 ·have hv:=hiv hin
  refine aq.xj hT vZ hm (y:=rX) (x1:=qC) (zb:=part rX [1,1]) [1,0] (j:=1) (by kernel_rfl) (by kernel_rfl) (by kernel_rfl) (by kernel_rfl) hk (f1:=[48]) 60 lP 3 (fun _:Unit=>tT n k p (cS n k t) d) (fun _=>[(2,jI (d+1) (vB k (cS n k t) t d) fun _=>SB d),(0,tP t sK)]) (fun _=>d+1≤p) ⟨_,aha,?_⟩ (fun _ hd'=>?_)
  ·simp only[aa.all,ax,decide_eq_true_eq,decide_eq_false_iff_not]
   have re:eH [] ([aj 3 n fun i=>rat (k i) sK,int i64 p,ptr 0 0 3 0 [],int i64 (cS n k t),own 2 3 0 (d+1),int i64 ((d+1:Nat):Int),int i64 (0:Int),nil,int i64 (0:Int)],[((2:Nat),ah.mk true true 3 (d+1) fun i↦rat (vB k (cS n k t) t d i) (SB d)),((0:Nat),ah.mk false true 3 1 fun x↦rat t sK)]) (tT n k p (cS n k t) d) [(2,jI (d+1) (vB k (cS n k t) t d) fun _=>SB d),(0,tP t sK)] 3:=
    ⟨[(0,0),(2,2)],rfl,rfl,rfl,aW rfl rfl rfl (fun i hi=>aD rfl rfl) (aF rfl rfl (aD rfl rfl) trivial)⟩
   exact⟨fun h1=>⟨(),by omega,re⟩,fun h1 s' hs'=>⟨rfl,d,⟨by omega,hin⟩,re.le hs' hk⟩⟩
  refine aq.iM hT vZ hm (x:=qC) (z:=part qC [1,1]) [1,0,1] (i:=2) (y:=part qC [1,0,1,0,0]) (by kernel_rfl) (by kernel_rfl) (by kernel_rfl) (by kernel_rfl) hk (f1:=[]) (f2:=[57]) 60 zS 4 (fun j:Nat=>FT n k p (cS n k t) d j)
   (fun j=>[(3,jI (d+2) (kX k (cS n k t) t d j) (iT d j)),(2,jI (d+1) (vB k (cS n k t) t d) fun _=>SB d),(0,tP t sK)]) (fun j=>j≤d+1) (fun j=>j=d+1) (fun j=>d+1-j) (fun _=>False) ⟨_,ae1,?_⟩ (fun j hj=>⟨_,ZR,?_⟩) (fun j hj=>?_) (fun _ _ h=>h.elim)
  ·simp only[aa.all,ax]
   rw[show(((d+1:Nat):Int)+1).toNat=d+2 by omega]
   refine⟨⟨by omega,by omega⟩,0,by omega,[(0,0),(2,2),(3,8195)],rfl,rfl,rfl,aW rfl rfl rfl (fun i hi=>?_) (aW rfl rfl rfl (fun i hi=>aD rfl rfl) (aF rfl rfl (aD rfl rfl) trivial))⟩
   refine .inr ⟨rfl,bp ?_ ?_⟩
   ·unfold kX vM;rw[if_neg (by omega)];split<;>rfl
   ·unfold iT HB;rw[if_neg (by omega)];split<;>omega
  ·have hF:=Dz
   have h1:=sx (d:=d)
   have h2:=vH (d:=d) (by omega)
   have h3:=vH (d:=d+1) (by omega)
   have h5:sV=268435456:=rfl
   have s0:iT d j j=HB d:=by unfold iT;rw[if_neg (by omega),if_pos rfl]
   have s1:iT d j (j+1)=1:=by unfold iT;rw[if_neg (by omega),if_neg (by omega)]
   have e0:((cS n k t:Int)-((d+1:Nat):Int)+1+(j:Int)).toNat=cS n k t-d+j:=by omega
   have e1:((cS n k t:Int)-((d+1:Nat):Int)+1+(j:Int)+((d+1:Nat):Int)).toNat=cS n k t-d+j+(d+1):=by omega
   have e2:((j:Int)+1).toNat=j+1:=by omega
   simp only[aa.all,ax,decide_eq_true_eq,decide_eq_false_iff_not,Int.toNat_natCast,Nat.add_zero,e0,e1,e2,Wp]
   have hjj:(j==j+1)=false:=by simp
   refine⟨fun h4=>?_,fun h4=>⟨rfl,j,by omega,[(0,0),(2,2),(3,3)],rfl,rfl,rfl,aW rfl rfl rfl (fun i hi=>aD rfl rfl) (aW rfl rfl rfl (fun i hi=>aD rfl rfl) (aF rfl rfl (aD rfl rfl) trivial))⟩⟩
   (repeat' with_reducible refine And.intro ?_ ?_)
   all_goals first|omega|(rw[s1];omega)|(rw[hjj,cond_false,s0];unfold HB;omega)|skip
   refine⟨j+1,by omega,by dsimp only;omega,[(0,0),(2,2),(3,3)],rfl,rfl,rfl,aW rfl rfl rfl (fun x hx=>X7 (by omega)) (aW rfl rfl rfl (fun i hi=>aD rfl rfl) (aF rfl rfl (aD rfl rfl) trivial))⟩
  ·subst hj
   refine aq.tail (fun s' hh=>by have:=hh.1;omega) (aE.bk hT vZ hm 60 lP abW (by kernel_rfl) ?_)
   simp only[aa.all,ax]
   refine⟨by omega,fun s' hs'=>⟨d+1,⟨hd',hin⟩,by dsimp only;omega,eH.le ⟨[(0,0),(2,3)],rfl,rfl,rfl,aW rfl rfl rfl (fun x hx=>?_) (aF rfl rfl (aD rfl rfl) trivial)⟩ hs' hk⟩⟩
   refine .inr ⟨rfl,bp ?_ ?_⟩
   ·unfold kX
    by_cases hlt:x<d+1
    ·rw[if_pos hlt]
    ·have:x=d+1:=by omega
     subst this
     rw[if_neg (by omega),if_pos rfl,vB,if_neg (show¬d+1≤d by omega),Rat.add_zero];rfl
   ·have h1:=Cz (d:=d)
    have h2:=sx (d:=d)
    have hF:=Dz
    show _≤SB (d+1)
    unfold iT HB
    split
    ·omega
    ·split<;>omega
 ·subst hd
  refine aq.ni ((aE.fin hT vZ hm 60 ahN (by kernel_rfl) ?_).mono fun _ _ h=>.inl h)
  simp only[aa.all,ax]
  exact⟨by have:=hiv hin;omega,ajv hin fun j _=>eW (vH hp6)⟩
end Go.Am.B

/- basis.Sum; numbers of pU. -/
namespace Go.Am.B
open Go Go.Am.N AV aa ak IntKind
theorem ajl:aO P qq vF (au vF):=aP ajT (by kernel_rfl) (by kernel_rfl) (by kernel_rfl)
def JD:Spec:=cJ Nu (fun a=>BB a.1.1 a.1.2 a.2.1.toNat a.2.2.1) fun a=>[Kn a.1.1 a.2.1.toNat a.1.2,0≤a.2.1,a.2.1≤6,a.1.1<2^40]
theorem ag3:∀K args pre r,JD K args pre=some r→aA P yg K args pre r:=cz fun⟨⟨n,k⟩,p,t,_⟩ K hn=>by
 obtain⟨h1,h2,h3,h4⟩:=hn
 have h3:p≤6:=h3
 have:=ajc h1 (by simp only;omega) h4 K (t:=t)
 rw[Int.toNat_of_nonneg h2]at this
 exact this
def wK:Spec:=cJ (kC (kL sK) (kC kI kN)) (fun a=>.int .i64 ((a.1.1:Int)-a.2.1-1)) fun a=>[a.1.1<2^40,-2^40<a.2.1,a.2.1<2^40]
theorem ag6 {n:Nat} {k:Nat→Rat} {p:Int}:bC T [nG] [] 60 vF (au vF) ⟨aN 0 [ls k n,.int .i64 p],[],0⟩=
  let c3:Int:=(↑n:Int)-p;let c1:Int:=(2:Int)^63;let c2:Int:=c3-(1:Int);some (ag [-c1≤c3∧c3<c1,-c1≤c2∧c2<c1] (leaf ret [int i64 c2])):=by kernel_rfl
theorem C5:∀K args pre r,wK K args pre=some r→aA P qq K args pre r:=cz fun⟨⟨n,k⟩,p,_⟩ K hn=>by
 obtain⟨h1,h2,h3⟩:=hn
 have h3:p<2^40:=h3
 simp only at h1 h2
 refine bF (r:=aI (.int .i64 ((n:Int)-p-1)) []) hT (cC bn) hm ajl rfl (of_decide_eq_true (by kernel_rfl)) rfl 60 ag6 (fun _=>?_) K []
 simp only[aa.all,ax]
 exact⟨by omega,.refl _⟩
abbrev zO:ah:=⟨false,true,3,1,fun _=>.rat 0 1⟩
abbrev sU:Nat:=4294967296
theorem Mi {n:Nat} {k:Nat→Rat} {t:Rat} (h:eA n k t≠0):eE n k t:=by
 unfold eA at h
 by_cases ho:eE n k t
 ·exact ho
 ·rw[if_neg ho]at h;exact absurd rfl h
theorem HW {n:Nat} {k:Nat→Rat} {t:Rat} (h:eA n k t=0):¬eE n k t:=fun ho=>by unfold eA at h;rw[if_pos ho]at h;omega
theorem Kn.Gh {n p:Nat} {k:Nat→Rat} (h:Kn n p k) {t:Rat} (hin:¬eE n k t):p≤cS n k t∧cS n k t+p+1<n:=by
 have h1:¬t<k 0:=fun h=>hin (.inl h)
 have h2:¬k (n-1)<t:=fun h=>hin (.inr h)
 exact(h.MT (by grind) (by grind)).2
end Go.Am.B
