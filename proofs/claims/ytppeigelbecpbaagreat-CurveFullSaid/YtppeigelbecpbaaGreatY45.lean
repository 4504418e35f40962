/- brepkernelmade: Rat, Within; lists of numbers as arguments. -/
import Derived.Test.YtppeigelbecpbaaGreatB43
import Derived.Test.YtppeigelbecpbaaGreatY39
import Derived.Test.YtppeigelbecpbaaGreatZ2
import Derived.Test.YtppeigelbecpbaaGreatC4
import Derived.Test.YtppeigelbecpbaaGreatD1
set_option linter.unusedVariables false
namespace Go.Am.B
open Go Go.Am.N AV
def kL (s:Nat):Kind (Nat×(Nat→Rat)):=⟨fun v=>match wW v with
 |some (n,f)=>some ((n,fun i=>aZ (f i)),[cj f n s])
 |none=>none,fun a=>bM a.2 a.1 s,fun {v a q} h hq=>by
  split at h
  ·rename_i h1
   simp only[Option.some.injEq,Prod.mk.injEq]at h
   obtain⟨rfl,rfl⟩:=h
   exact IY h1 hq
  ·simp at h⟩
def jo (s:Nat):Kind Rat:=⟨fun v=>match gv v with
 |some (q,n)=>some (q,[n≤s])
 |none=>none,fun a=>.rat a s,fun {v a q} h hq=>by
  split at h
  ·rename_i h1
   simp only[Option.some.injEq,Prod.mk.injEq]at h
   obtain⟨rfl,rfl⟩:=h
   exact(ij h1).trans (en hq)
  ·simp at h⟩
structure nB (α:Type) where
 read:List AV→Option (α×List Prop)
 make:α→List AV
 ok:∀{l:List AV} {a:α} {q:List Prop},read l=some (a,q)→az q→dD l (make a)
def kN:nB Unit:=⟨fun l=>match l with
 |[]=>some ((),[])
 |_=>none,fun _=>[],fun {l a q} h _=>by
  split at h
  ·trivial
  ·simp at h⟩
def kC {α β:Type} (k:Kind α) (kl:nB β):nB (α×β):=⟨fun l=>match l with
 |v::l=>match k.read v,kl.read l with
  |some (a,p),some (b,q)=>some ((a,b),p++q)
  |_,_=>none
 |[]=>none,fun a=>k.make a.1::kl.make a.2,fun {l a q} h hq=>by
  split at h
  ·split at h
   ·rename_i h1 h2
    simp only[Option.some.injEq,Prod.mk.injEq]at h
    obtain⟨rfl,rfl⟩:=h
    obtain⟨q1,q2⟩:=dA.1 hq
    exact⟨k.ok h1 q1,kl.ok h2 q2⟩
   ·simp at h
  ·simp at h⟩
def cS {α:Type} (k:nB α) (g:α→AV) (need:α→List Prop):Spec:=bq fun l=>match k.read l with
 |some (a,p)=>some (aG (g a) (p++need a))
 |none=>none
theorem cZ {α:Type} {f:FuncId} {k:nB α} {g:α→AV} {need:α→List Prop} (h:∀a K,az (need a)→aB P f K (k.make a) [] (aG (g a) [])):∀K args pre r,cS k g need K args pre=some r→aB P f K args pre r:=by
 refine bL fun K args r hk hs _=>?_
 split at hs
 ·rename_i h1
  simp only[Option.some.injEq]at hs
  subst hs
  intro hn
  obtain⟨n1,hn⟩:=dA.1 hn
  exact eO (h _ K hn) hk (k.ok h1 n1) [] trivial
 ·simp at hs
end Go.Am.B

/- knots.Interval, ref08.Interval; numbers of poles. -/
namespace Go.Am.B
open Go Go.Am.N AV aa ah IntKind
theorem O5:aN P qb qp (au qp):=aO QI (by kernel_rfl) (by kernel_rfl) (by kernel_rfl)
def fh:aT:=nG::B2
abbrev sK:Nat:=4096
abbrev ls (k:Nat→Rat) (n:Nat):AV:=bM k n sK
abbrev tP (t:Rat) (s:Nat):ak:=⟨false,true,3,1,fun _=>.rat t s⟩
abbrev vv:List Nat:=[0,5,8,9,6,7]
abbrev Bn (n:Nat) (k:Nat→Rat) (l i:Nat):List AV:=[ls k n,.ptr 0 0 3 0 [],.int .i64 l,.int .i64 i,.int .i64 0,.int .i64 0]
noncomputable abbrev uF:Code:=au qp
theorem MY {n:Nat} {k:Nat→Rat} {p:Int} {t:Rat}:aJ T fh [200013,21,31] 60 vv (before uF [1,1,1,0,1]) ⟨aM 0 [ls k n,.int .i64 p,.rat t sK],[],0⟩=
  let c11:Prop:=((↑n:Int)==(0:Int))=false;let c10:Prop:=0<1;let c9:AV:=aq 3 n fun i↦rat (k i) 4096;let c8:Nat:=Int.toNat (0:Int);let c7:AV:=ptr 0 0 (bH (rat t sK)).size 0 [];let c6:AV:=int i64 (0:Int);let c5:Nat×ak:=((0:Nat),ak.mk false true (bH (rat t sK)).size 1 fun x↦rat t 4096);let c4:Int:=(↑n:Int)-(1:Int);let c12:Prop:=(0:Int)≤(0:Int)∧c8<n;let c3:Bool:=bif false then true else decide (dS t (k c8)<(0:Int));let c2:aa (List AV×aA):=leaf ret ([c9,c7,tuple [],tuple [],c6,int i64 (7:Int)],[c5]);let c1:aa (List AV×aA):=leaf normal ([c9,c7,c6,c6,c6,c6],[c5]);some (fork c3 (ag [c11,c10,c12,c3=true] (fork true c2 c1)) (ag [c11,c10,c12,c3=false,c10,-(2:Int)^63≤c4∧c4<(2:Int)^63,(0:Int)≤c4∧c4.toNat<n] (fork (bif false then true else decide (dS t (k c4.toNat)>(0:Int))) c2 c1))):=by kernel_rfl
theorem Kp {n l i:Nat} {k:Nat→Rat} {t:Rat}:aJ T fh [36,49,58] 60 vv [part uF [1,1,1,0,1,0,0]] ⟨aD vv (Bn n k l i),[(0,tP t sK)],1⟩=
  let c7:Int:=(↑i:Int);let c6:List AV:=[int i64 (0:Int),int i64 (0:Int)];let c5:AV:=ptr 0 0 3 0 [];let c4:AV:=aq 3 n fun i↦rat (k i) 4096;let c2:Nat×ak:=((0:Nat),ak.mk false true 3 1 fun x↦rat t 4096);let c10:AV:=int i64 c7;let c1:Int:=c7+(1:Int);let c8:Int:=dS (k c7.toNat) (k c1.toNat);let c3:Prop:=-(2:Int)^63≤c1∧c1<(2:Int)^63;let c9:List Prop:=[c3,(0:Int)≤c1∧c1.toNat<n];some (ag [c3] (fork (decide (c1<(↑n:Int))) (ag (((0:Int)≤c7∧c7.toNat<n)::c9) (fork (decide (c8≥(0:Int))) (ag [c3] (leaf normal (c4::c5::int i64 (↑l:Int)::int i64 c1::c6,[c2]))) (ag (((0:Nat)<1)::c9) (fork (decide (dS t (k c1.toNat)<(0:Int))) (leaf (exit 0) (c4::c5::c10::c10::c6,[c2])) (ag [c3] (leaf normal (c4::c5::c10::int i64 c1::c6,[c2]))))))) (leaf (exit 0) (c4::c5::int i64 (↑l:Int)::c10::c6,[c2])))):=by kernel_rfl
theorem YB {n l i:Nat} {k:Nat→Rat} {t:Rat}:b7 T fh [] 60 qp [part uF [1,1,1,1]] ⟨aD vv (Bn n k l i),[(0,tP t sK)],1⟩=
  some (leaf ret [int i64 (↑l:Int),int i64 (0:Int)]):=by kernel_rfl
abbrev EM (n:Nat) (k:Nat→Rat) (i:Nat):List AV:=[ls k n,.ptr 0 0 3 0 [],.int .i64 i,.int .i64 0,.int .i64 0]
theorem iL:bp P fh:=dN F4
theorem tS {q:Rat} {n:Nat}:aZ (.rat q n)=q:=rfl
theorem RL:max 1 (aY (Int.natAbs 1))=1:=by decide
theorem zN {a b:Rat}:dS a b≥(0:Int)↔b≤a:=by
 have:=@lG a b
 constructor
 ·intro h
  have:¬a<b:=fun h'=>by have:=lG.2 h';omega
  grind
 ·intro h
  have:¬dS a b<0:=fun h'=>by have:=lG.1 h';grind
  omega
theorem qW {rl:List (Nat×Nat)} {l i s s' s2:Nat} {x y:Nat→Rat} {t:Rat} (hx:∀i,i<l→x i=y i) (ht:t=y l) (h1:s≤s2) (h2:s'≤s2) (hi:i<l+1):fP rl (if i<l then .rat (x i) s else nth [.rat t s'] (.rat 0 1) (i-l+0)) (.rat (y i) s2):=by
 by_cases h:i<l
 ·rw[if_pos h,hx i h];exact .inr ⟨rfl,bP rfl h1⟩
 ·have:i=l:=by omega
  subst this
  rw[if_neg h,Nat.sub_self,ht]
  exact .inr ⟨rfl,bP rfl h2⟩
def dQ (n:Nat) (k:Nat→Rat) (t:Rat):Prop:=t<k 0∨k (n-1)<t
instance {n:Nat} {k:Nat→Rat} {t:Rat}:Decidable (dQ n k t):=inferInstanceAs (Decidable (t<k 0∨k (n-1)<t))
def gT (n:Nat) (k:Nat→Rat) (t:Rat):Nat:=if dQ n k t then 0 else cy n k t
def dU (n:Nat) (k:Nat→Rat) (t:Rat):Int:=if dQ n k t then 7 else 0
abbrev sk (n:Nat) (k:Nat→Rat) (t:Rat):AV:=.tuple [.int .i64 (gT n k t),.int .i64 (dU n k t)]
theorem ID {n:Nat} {k:Nat→Rat} {t:Rat} (h:dQ n k t):dY [.int .i64 0,.int .i64 7] (sk n k t):=
 ⟨bh (by unfold gT;rw[if_pos h];rfl),bh (by unfold dU;rw[if_pos h]),trivial⟩
theorem LY {n i:Nat} {k:Nat→Rat} {t:Rat} (h:¬dQ n k t) (hi:i=cy n k t):dY [.int .i64 i,.int .i64 0] (sk n k t):=
 ⟨bh (by unfold gT;rw[if_neg h,hi]),bh (by unfold dU;rw[if_neg h]),trivial⟩
abbrev oR (k:Nat→Rat) (t:Rat) (i:Nat):Nat:=iW (fun i=>decide (k i<k (i+1))&&decide (k i≤t)) i
theorem G0 {g:Nat→Bool} {m:Nat}:iW g (m+1)=if g m then m else iW g m:=rfl
theorem SC {n p0:Nat} {k:Nat→Rat} {p:Int} {t:Rat} (h:Kn n p0 k) (hn:n<2^40) (K:Nat):aB P qb K [ls k n,.int .i64 p,.rat t sK] [] (aG (sk n k t) []):=by
 have hp:=h.p1
 have hl:=h.len
 refine gJ (r:=aG (sk n k t) []) hT iL hm O5 rfl (of_decide_eq_true (by kernel_rfl)) rfl [1,1,1,0,1] (i:=0) (y:=part uF [1,1,1,0,1,0,0]) (z:=part uF [1,1,1,1]) (by kernel_rfl) (by kernel_rfl) (by kernel_rfl) (f1:=[200013,21,31]) (f2:=[36,49,58]) (f3:=[]) 60 vv 1
  (fun a:Nat×Nat=>Bn n k a.2 a.1) (fun _=>[(0,tP t sK)]) (fun a=>a.1+1≤n∧a.2=oR k t a.1∧k a.1≤t∧¬dQ n k t) (fun a=>a.2=cy n k t∧¬dQ n k t) (fun a=>n-a.1) (fun _=>⟨⟨_,MY,?_⟩,fun⟨i,l⟩ ⟨h1,h2,h3,h4⟩=>⟨_,Kp,?_⟩,fun⟨i,l⟩ ⟨h1,h2⟩=>⟨_,YB,LY h2 h1⟩⟩) K []
 ·simp only[aa.all,az,decide_eq_true_eq,decide_eq_false_iff_not,lG,uW,cond_false,Int.toNat_zero,beq_eq_false_iff_ne,ne_eq,show((n:Int)-1).toNat=n-1 by omega]
  (repeat' with_reducible first|refine And.intro ?_ ?_|intro _)
  all_goals first|omega|assumption|skip
  ·exact⟨_,by kernel_rfl,ID (.inl ‹_›)⟩
  ·exact absurd ‹true=false› (by decide)
  ·exact⟨_,by kernel_rfl,ID (.inr ‹_›)⟩
  ·rename_i a b
   have hin:¬dQ n k t:=fun h=>h.elim (fun h=>a h) fun h=>b h
   exact⟨(0,0),⟨by omega,rfl,by show k 0≤t;grind,hin⟩,[(0,0)],rfl,rfl,rfl,bk rfl rfl (aP rfl rfl) trivial⟩
 ·have hs:∀i,i+1<n→k i≤k (i+1):=h.sorted
  simp only at h1 h2 h3
  simp only[aa.all,az,decide_eq_true_eq,decide_eq_false_iff_not,lG,zN,Int.toNat_natCast,show((i:Int)+1).toNat=i+1 by omega]
  (repeat' with_reducible first|refine And.intro ?_ ?_|intro _)
  all_goals first|omega|assumption|skip
  ·rename_i hi hge
   have:=hs i (by omega)
   have e:oR k t (i+1)=oR k t i:=by
    have:¬k i<k (i+1):=by grind
    rw[oR,G0,if_neg (by simp[this])]
   exact⟨(i+1,l),⟨by omega,h2.trans e.symm,by show k (i+1)≤t;grind,h4⟩,by dsimp only;omega,[(0,0)],rfl,rfl,rfl,bk rfl rfl (aP rfl rfl) trivial⟩
  ·rename_i hi hlt hb
   have:k i<k (i+1):=by grind
   have hiv:cy n k t=i:=KE ⟨⟨by omega,hs,this⟩,h3,by grind,.inl hb⟩
   exact⟨rfl,(i,i),⟨hiv.symm,h4⟩,[(0,0)],rfl,rfl,rfl,bk rfl rfl (aP rfl rfl) trivial⟩
  ·rename_i hi hlt hb
   have:k i<k (i+1):=by grind
   have e:oR k t (i+1)=i:=by
    rw[oR,G0,if_pos (by simp[this,h3])]
   exact⟨(i+1,i),⟨by omega,e.symm,by show k (i+1)≤t;grind,h4⟩,by dsimp only;omega,[(0,0)],rfl,rfl,rfl,bk rfl rfl (aP rfl rfl) trivial⟩
  ·have hin:i=n-1:=by omega
   subst hin
   exact⟨rfl,(n-1,l),⟨h2,h4⟩,[(0,0)],rfl,rfl,rfl,bk rfl rfl (aP rfl rfl) trivial⟩
abbrev GO:nB ((Nat×(Nat→Rat))×Int×Rat×Unit):=kC (kL sK) (kC kI (kC (jo sK) kN))
def zl:Spec:=cS GO (fun a=>sk a.1.1 a.1.2 a.2.2.1) fun a=>[Kn a.1.1 a.2.1.toNat a.1.2,0≤a.2.1,a.1.1<2^40]
theorem HP:∀K args pre r,zl K args pre=some r→aB P qb K args pre r:=cZ fun _ K hn=>SC hn.1 hn.2.2 K
end Go.Am.B

/- basis.fraction, basis.Values. -/
namespace Go.Am.B
open Go Go.Am.N AV aa ah IntKind
theorem U6:aN P rO uK (au uK):=aO Wn (by kernel_rfl) (by kernel_rfl) (by kernel_rfl)
theorem Db:aN P qI pW (au pW):=aO MW (by kernel_rfl) (by kernel_rfl) (by kernel_rfl)
def HQ:aT:=(pU,k9 kR kR B3 nJ)::fN
theorem NF {a b t:Rat} {n:Nat}:bu T HQ [] 60 uK (au uK) ⟨aM 0 [.rat a n,.rat b n,.rat t n],[],0⟩=
  let c3:Nat:=n+n+1;let c2:Nat:=2^42;let c1:Prop:=0<1;some (ag [c1,c1,n<c2,n<c2,c1,c1,n<c2,n<c2,c3<c2,c3<c2,c1] (ag [c1,c1] (ag [c1] (leaf ret [rat ((t-a)/(b-a)) (c3+c3)])))):=by kernel_rfl
abbrev sF:Nat:=16386
def Aj:Spec:=cS (kC (jo sK) (kC (jo sK) (kC (jo sK) kN))) (fun a=>.rat (fr a.1 a.2.1 a.2.2.1) sF) fun _=>[]
theorem N8:bp P HQ:=aK (mL fun _ _ K hn=>Bx hn.1 hn.2 K) gM
theorem Ex:∀K args pre r,Aj K args pre=some r→aB P rO K args pre r:=cZ fun⟨a,b,t,_⟩ K _=>by
 refine bE (r:=aG (.rat (fr a b t) sF) []) hT N8 hm U6 rfl (of_decide_eq_true (by kernel_rfl)) rfl 60 NF (fun _=>?_) K []
 simp only[aa.all,az]
 have h1:sK=4096:=rfl
 (repeat' with_reducible refine And.intro ?_ ?_)
 all_goals first|omega|exact(bP rfl (show sK+sK+1+(sK+sK+1)≤sF by decide))
def m9:aT:=nG::(qb,zl)::(rO,Aj)::(oe,x4)::fN
def SB (d:Nat):Nat:=65536*4^d
abbrev HB (d:Nat):Nat:=1+(sF+SB d)+1
abbrev jA:List Nat:=[0,1,5,9,11,12,6,7,8]
abbrev oS (n:Nat) (k:Nat→Rat) (p i d:Nat):List AV:=[ls k n,.int .i64 p,.ptr 0 0 3 0 [],.int .i64 i,.own 2 3 0 (d+1),.int .i64 ((d+1:Nat):Int),.int .i64 0,.nil,.int .i64 0]
abbrev iE (m:Nat) (x:Nat→Rat) (s:Nat→Nat):ak:=⟨true,true,3,m,fun i=>.rat (x i) (s i)⟩
noncomputable abbrev xP:Code:=au pW
noncomputable abbrev p4:Code:=part xP [1,1,1,1,1,0,1,0,0]
noncomputable abbrev nF:Code:=part p4 [1,0,0]
abbrev u5:List Nat:=[0,1,5,9,12,13,54,55,56,6,7,8]
abbrev Ax (n:Nat) (k:Nat→Rat) (p i d j:Nat):List AV:=[ls k n,.int .i64 p,.ptr 0 0 3 0 [],.int .i64 i,.int .i64 ((d+1:Nat):Int),.own 3 3 0 (d+2),.own 2 3 0 (d+1),.int .i64 ((d+1:Nat):Int),.int .i64 j,.int .i64 0,.nil,.int .i64 0]
theorem Ui {n p:Nat} {k:Nat→Rat} {t:Rat}:aJ T m9 [26,30,36,43] 60 jA (before xP [1,1,1,1,1,0,1]) ⟨aM 0 [ls k n,.int .i64 p,.rat t sK],[],0⟩=
  let c13 : Int := dU n (fun i ↦ aZ (rat (k i) sK)) t; let c12 : AV := int i64 (0 : Int); let c9 : AV := aq 3 n fun i ↦ rat (k i) 4096; let c7 : AV := ptr 0 0 (bH (rat t sK)).size 0 []; let c6 : Int := (2 : Int) ^ 63; let c5 : Nat × ak := ((0 : Nat), ak.mk false true (bH (rat t sK)).size 1 fun x ↦ rat t 4096); let c4 : Int := (↑p : Int); let c3 : Int := (↑(gT n (fun i ↦ aZ (rat (k i) sK)) t) : Int); let c15 : Prop := -c6 ≤ c3 - c4 ∧ c3 - c4 < c6; let c14 : Prop := -c6 ≤ c3 + c4 ∧ c3 + c4 < c6; let c11 : Bool := bif false then true else decide (c3 + c4 ≥ (↑n : Int)); let c10 : Bool := decide (c4 < (0 : Int)); let c8 : Bool := bif false then true else decide (c3 - c4 < (0 : Int)); let c2 : aa (List AV × aA) := leaf ret ([c9, int i64 c4, c7, int i64 c3, tuple [], tuple [], c12, nil, int i64 (7 : Int)], [c5]); let c1 : aa (List AV × aA) := ag [(1 : Nat) * 3 ≤ 2 ^ 24] (leaf normal ([c9, int i64 c4, c7, int i64 c3, own 131072 3 0 1, int i64 (1 : Int), c12, nil, c12], [((131072 : Nat), ak.mk true true 3 1 fun i ↦ nth [rat (↑(1 : Int) : Rat) (Max.max 1 (aY (Int.natAbs (1 : Int))))] (rat 0 1) i), c5])); some (ag [(0 : Nat) < 1, cj (fun i ↦ rat (k i) sK) n sK, sK ≤ sK, Kn n c4.toNat fun i ↦ aZ (rat (k i) sK), (0 : Int) ≤ c4, n < 2 ^ 40] (fork (c13 != (0 : Int)) (leaf ret ([c9, int i64 c4, c7, int i64 c3, tuple [], tuple [], c12, nil, int i64 c13], [c5])) (fork false (fork true (ag [c10 = true, true = true] (fork true c2 c1)) (ag [c10 = true, true = false, c14] (fork c11 c2 c1))) (fork c8 (ag [c10 = false, c15, c8 = true] (fork true c2 c1)) (ag [c10 = false, c15, c8 = false, c14] (fork c11 c2 c1)))))) := by kernel_rfl
theorem Si {n p i d:Nat} {k x:Nat→Rat} {t:Rat}:aJ T m9 [48] 60 jA (before p4 [1,0]) ⟨aD jA (oS n k p i d),[(2,iE (d+1) x fun _=>SB d),(0,tP t sK)],3⟩=
  let c2:Int:=(↑(d+1):Int);let c1:List AV×aA:=([aq 3 n fun i↦rat (k i) 4096,int i64 (↑p:Int),ptr 0 0 3 0 [],int i64 (↑i:Int),own 2 3 0 (d+1),int i64 c2,int i64 (0:Int),nil,int i64 (0:Int)],[((2:Nat),ak.mk true true 3 (d+1) fun i↦rat (x i) (SB d)),((0:Nat),ak.mk false true 3 1 fun x↦rat t 4096)]);some (fork (decide (c2≤(↑p:Int))) (leaf normal c1) (leaf (exit 0) c1)):=by kernel_rfl
theorem Yk {n p i d:Nat} {k x:Nat→Rat} {t:Rat}:aJ T m9 [] 60 u5 (before nF [1,0,1]) ⟨aD jA (oS n k p i d),[(2,iE (d+1) x fun _=>SB d),(0,tP t sK)],3⟩=
  let c3:AV:=int i64 (0:Int);let c2:Int:=(↑(d+1):Int);let c1:Int:=c2+(1:Int);some (ag [-(2:Int)^63≤c1∧c1<(2:Int)^63,(0:Int)≤c1∧c1≤c1∧c1≤(2:Int)^47∧c1*(↑(56:Nat):Int)≤(2:Int)^47] (leaf normal ([aq 3 n fun i↦rat (k i) 4096,int i64 (↑p:Int),ptr 0 0 3 0 [],int i64 (↑i:Int),int i64 c2,own 8195 3 0 c1.toNat,own 2 3 0 (d+1),int i64 c2,c3,c3,nil,c3],[((2:Nat),ak.mk true true 3 (d+1) fun i↦rat (x i) (SB d)),((8195:Nat),ak.mk true true 3 c1.toNat fun x↦rat 0 1),((0:Nat),ak.mk false true 3 1 fun x↦rat t 4096)]))):=by kernel_rfl
theorem NL {n p i d j:Nat} {k x y:Nat→Rat} {s:Nat→Nat} {t:Rat}:aJ T m9 [57] 60 u5 [part nF [1,0,1,0,0]] ⟨aD u5 (Ax n k p i d j),[(3,iE (d+2) y s),(2,iE (d+1) x fun _=>SB d),(0,tP t sK)],4⟩=
  let c20:AV:=int i64 (0:Int);let c19:AV:=ptr 0 0 3 0 [];let c18:AV:=aq 3 n fun i↦rat (k i) 4096;let c16:Nat:=d+1;let c13:Nat×ak:=((0:Nat),ak.mk false true 3 1 fun x↦rat t 4096);let c11:Int:=(↑j:Int);let c10:Prop:=0<1;let c9:Nat:=d+2;let c8:Nat:=Max.max 1 (aY (Int.natAbs (1:Int)));let c7:Nat:=2^42;let c5:Int:=(2:Int)^63;let c25:Prop:=(0:Int)≤c11∧c11.toNat<c9;let c23:Nat:=c8+sF+1;let c22:AV:=own 3 3 0 c9;let c21:AV:=own 2 3 0 c16;let c12:Nat×ak:=((2:Nat),ak.mk true true 3 c16 fun i↦rat (x i) (SB d));let c6:Int:=c11+(1:Int);let c4:Nat:=c11.toNat+0;let c3:Int:=(↑c16:Int);let c29:AV:=int i64 c3;let c27:Prop:=(0:Int)≤c6∧c6.toNat<c9;let c24:Prop:=-c5≤c6∧c6<c5;let c17:Int:=(↑i:Int)-c3;let c2:Nat:=c6.toNat+0;let c28:Int:=c17+(1:Int);let c26:Nat:=s c2+(sF+SB d)+1;let c15:Nat:=bif c4==c2 then c26 else s c4;let c1:Int:=c28+c11;let c14:Rat:=fr (k c1.toNat) (k (c1+c3).toNat) t;some (fork (decide (c11<c3)) (ag [(0:Int)≤c11∧c11.toNat<c16,c4<c16,c10] (ag [-c5≤c17∧c17<c5,-c5≤c28∧c28<c5,-c5≤c1∧c1<c5] (ag [(0:Int)≤c1∧c1.toNat<n,-c5≤c1+c3∧c1+c3<c5,(0:Int)≤c1+c3∧(c1+c3).toNat<n,c10,sK≤sK,sK≤sK,sK≤sK,c10] (ag [c24,c24,c27,c2<c9,c10,c10,sF<c7,SB d<c7,s c2<c7,sF+SB d<c7,c27,c2<c9] (ag [c25,c4<c9,c10,c8<c7,sF<c7,c10,c23<c7,SB d<c7,c15<c7,c23+SB d<c7,c25,c4<c9] (ag [c24] (leaf normal ([c18,int i64 (↑p:Int),c19,int i64 (↑i:Int),c29,c22,c21,c29,int i64 c6,c20,nil,c20],[c12,((3:Nat),ak.mk true true 3 c9 fun j↦rat (bif j==c4 then(bif c4==c2 then y c2+c14*x c4 else y c4)+((↑(1:Int):Rat)-c14)*x c4 else bif j==c2 then y c2+c14*x c4 else y j) (bif j==c4 then c15+(c23+SB d)+1 else bif j==c2 then c26 else s j)),c13])))))))) (leaf (exit 2) ([c18,int i64 (↑p:Int),c19,int i64 (↑i:Int),c29,c22,c21,c29,int i64 c11,c20,nil,c20],[c12,((3:Nat),ak.mk true true 3 c9 fun i↦rat (y i) (s i)),c13]))):=by kernel_rfl
theorem T6 {n p i d j:Nat} {k x y:Nat→Rat} {s:Nat→Nat} {t:Rat}:aJ T m9 [] 60 jA [part nF [1,1],part p4 [1,1]] ⟨aD u5 (Ax n k p i d j),[(3,iE (d+2) y s),(2,iE (d+1) x fun _=>SB d),(0,tP t sK)],4⟩=
  let c1:Int:=(↑(d+1):Int)+(1:Int);some (ag [-(2:Int)^63≤c1∧c1<(2:Int)^63] (leaf normal ([aq 3 n fun i↦rat (k i) 4096,int i64 (↑p:Int),ptr 0 0 3 0 [],int i64 (↑i:Int),own 3 3 0 (d+2),int i64 c1,int i64 (0:Int),nil,int i64 (0:Int)],[((3:Nat),ak.mk true true 3 (d+2) fun i↦rat (y i) (s i)),((0:Nat),ak.mk false true 3 1 fun x↦rat t 4096)]))):=by kernel_rfl
theorem Yz {n p i d:Nat} {k x:Nat→Rat} {t:Rat}:b7 T m9 [] 60 pW [part xP [1,1,1,1,1,1]] ⟨aD jA (oS n k p i d),[(2,iE (d+1) x fun _=>SB d),(0,tP t sK)],3⟩=
  let c1:Int:=(↑i:Int)-(↑p:Int);some (ag [-(2:Int)^63≤c1∧c1<(2:Int)^63] (leaf ret [int i64 c1,aq 3 (d+1) fun i↦rat (x (i+0)) (SB d),int i64 (0:Int)])):=by kernel_rfl
theorem wh {d:Nat}:SB (d+1)=4*SB d:=by unfold SB;rw[Nat.pow_succ];omega
theorem oT:∀{d:Nat},65536≤SB d
 |0=>by unfold SB;omega
 |d+1=>by rw[wh];have:=oT (d:=d);omega
theorem wz:sF=16386:=rfl
theorem Y6 {d e:Nat} (h:d≤e):SB d≤SB e:=Nat.mul_le_mul_left _ (Nat.pow_le_pow_right (by omega) h)
abbrev sV:Nat:=268435456
theorem tD {d:Nat} (h:d≤6):SB d≤sV:=Nat.le_trans (Y6 h) (by decide)
def tQ (n:Nat) (k:Nat→Rat) (p:Nat) (t:Rat) (f:Nat→Rat):AV:=.tuple [.int .i64 (if dQ n k t then 0 else(cy n k t:Int)-p),.aq 3 (if dQ n k t then 0 else p+1) (fun j=>.rat (f j) sV),.int .i64 (dU n k t)]
abbrev wZ (n:Nat) (k:Nat→Rat) (p:Nat) (t:Rat):AV:=tQ n k p t (vB k (cy n k t) t p)
theorem R3 {n p:Nat} {k f:Nat→Rat} {t:Rat} (h:dQ n k t):dY [.int .i64 0,.nil,.int .i64 7] (tQ n k p t f):=by
 unfold tQ dU
 rw[if_pos h,if_pos h,if_pos h]
 exact⟨.refl _,iT (by omega),.refl _,trivial⟩
theorem Xt {n p:Nat} {k f:Nat→Rat} {t:Rat} {g:Nat→AV} (h:¬dQ n k t) (hg:∀j,j<p+1→bt (g j) (.rat (f j) sV)):dY [.int .i64 ((cy n k t:Int)-p),.aq 3 (p+1) g,.int .i64 0] (tQ n k p t f):=by
 unfold tQ dU
 rw[if_neg h,if_neg h,if_neg h]
 exact⟨.refl _,kG hg,.refl _,trivial⟩
theorem qq:bp P m9:=dN (aK HP (aK Ex (aK (AQ BY) gM)))
def sR (k:Nat→Rat) (i:Nat) (t:Rat) (d j:Nat):Rat:=if j=0 then 0 else fr (k (i-d+(j-1))) (k (i-d+(j-1)+(d+1))) t*vB k i t d (j-1)
def jw (k:Nat→Rat) (i:Nat) (t:Rat) (d j x:Nat):Rat:=if x<j then vB k i t (d+1) x else if x=j then sR k i t d j else 0
def gR (d j x:Nat):Nat:=if x<j then SB (d+1)else if x=j then HB d else 1
theorem Wt {rl:List (Nat×Nat)} {k:Nat→Rat} {i d j x:Nat} {t:Rat} (hj:j≤d):
  fP rl (.rat (bif x==j then(bif j==j+1 then jw k i t d j (j+1)+fr (k (i-d+j)) (k (i-d+j+(d+1))) t*vB k i t d j else jw k i t d j j)+(((1:Int):Rat)-fr (k (i-d+j)) (k (i-d+j+(d+1))) t)*vB k i t d j
   else bif x==j+1 then jw k i t d j (j+1)+fr (k (i-d+j)) (k (i-d+j+(d+1))) t*vB k i t d j else jw k i t d j x)
   (bif x==j then(bif j==j+1 then gR d j (j+1)+(sF+SB d)+1 else gR d j j)+(1+sF+1+SB d)+1 else bif x==j+1 then gR d j (j+1)+(sF+SB d)+1 else gR d j x))
   (.rat (jw k i t d (j+1) x) (gR d (j+1) x)):=by
 have h1:=wh (d:=d)
 have h2:=oT (d:=d)
 have h3:=wz
 have hjj:(j==j+1)=false:=by simp
 rw[hjj]
 refine .inr ⟨rfl,?_⟩
 by_cases hx:x=j
 ·subst hx
  simp only[beq_self_eq_true,cond_true,cond_false]
  refine bP ?_ ?_
  ·unfold jw
   rw[if_neg (by omega),if_pos rfl,if_pos (by omega),vB,if_pos hj]
   have:((1:Int):Rat)=1:=rfl
   rw[this];rfl
  ·unfold gR HB
   rw[if_neg (by omega),if_pos rfl,if_pos (by omega)];omega
 ·have hb:(x==j)=false:=by simpa using hx
  rw[hb]
  by_cases hx2:x=j+1
  ·subst hx2
   simp only[beq_self_eq_true,cond_true,cond_false]
   refine bP ?_ ?_
   ·unfold jw sR
    rw[if_neg (by omega),if_neg (by omega),if_neg (by omega),if_pos rfl,if_neg (by omega),Nat.add_sub_cancel,Rat.zero_add]
   ·unfold gR HB
    rw[if_neg (by omega),if_neg (by omega),if_neg (by omega),if_pos rfl];omega
  ·have hb2:(x==j+1)=false:=by simpa using hx2
   rw[hb2]
   simp only[cond_false]
   refine bP ?_ ?_
   ·unfold jw
    by_cases hlt:x<j
    ·rw[if_pos hlt,if_pos (by omega)]
    ·rw[if_neg hlt,if_neg hx,if_neg (by omega),if_neg hx2]
   ·unfold gR
    by_cases hlt:x<j
    ·rw[if_pos hlt,if_pos (by omega)];omega
    ·rw[if_neg hlt,if_neg hx,if_neg (by omega),if_neg hx2];omega
theorem UG {n p:Nat} {k:Nat→Rat} {t:Rat} (h:Kn n p k) (hp6:p≤6) (hn:n<2^40) (K:Nat):aB P qI K [ls k n,.int .i64 p,.rat t sK] [] (aG (wZ n k p t) []):=by
 refine fZ (r:=aG (wZ n k p t) []) hT Db rfl (of_decide_eq_true (by kernel_rfl)) rfl (fun _ c h0=>?_) K []
 have hk:=um h0
 have hiv:¬dQ n k t→p≤cy n k t∧cy n k t+p+1<n:=fun hin=>by
  have h1:¬t<k 0:=fun h=>hin (.inl h)
  have h2:¬k (n-1)<t:=fun h=>hin (.inr h)
  exact(h.Gj (by grind) (by grind)).2
 have hp1:=h.p1
 have hl:=h.len
 refine aj.xR hT qq hm [1,1,1,1,1,0,1] (i:=0) (y:=p4) (z:=part xP [1,1,1,1,1,1]) (by kernel_rfl) (by kernel_rfl) (by kernel_rfl) Db.dst hk (f1:=[26,30,36,43]) 60 jA 3 (fun d:Nat=>oS n k p (cy n k t) d) (fun d=>[(2,iE (d+1) (vB k (cy n k t) t d) fun _=>SB d),(0,tP t sK)])
  (fun d=>d≤p∧¬dQ n k t) (fun d=>d=p∧¬dQ n k t) (fun d=>p-d) (lD pW jA (wZ n k p t)) ⟨_,Ui,?_⟩ (fun d ⟨hd,hin⟩=>?_) (fun d ⟨hd,hin⟩=>?_) (fun v s' hv hs'=>hv.fin hs')
 ·simp only[aa.all,az,tS,bne_iff_ne,ne_eq,bne_eq_false_iff_eq,decide_eq_true_eq,decide_eq_false_iff_not,cond_false,Int.toNat_natCast]
  refine⟨⟨by omega,dc (Nat.le_refl _),Nat.le_refl _,h,by omega,hn⟩,fun hout=>?_,fun hin=>?_⟩
  ·have hout:dQ n k t:=by
    unfold dU at hout
    by_cases ho:dQ n k t
    ·exact ho
    ·rw[if_neg ho]at hout;exact absurd rfl hout
   refine⟨[.int .i64 0,.nil,.int .i64 7],?_,R3 hout⟩
   unfold dU
   rw[if_pos hout]
   kernel_rfl
  ·have hin:¬dQ n k t:=fun ho=>by unfold dU at hin;rw[if_pos ho]at hin;omega
   have hii:gT n k t=cy n k t:=by unfold gT;rw[if_neg hin]
   have hv:=hiv hin
   simp only[hii,decide_eq_true_eq,decide_eq_false_iff_not]
   (repeat' with_reducible first|refine And.intro ?_ ?_|intro _)
   all_goals first|omega|(exfalso;omega)|exact absurd ‹false=true› (by decide)|exact absurd ‹true=false› (by decide)|skip
   refine⟨0,⟨by omega,hin⟩,[(0,0),(2,131072)],rfl,rfl,rfl,bF rfl rfl rfl (fun i hi=>?_) (bk rfl rfl (aP rfl rfl) trivial)⟩
   have:i=0:=by omega
   subst this
   exact .inr ⟨rfl,bP rfl (by have:=oT (d:=0);exact Nat.le_trans (by decide) this)⟩
 ·have hv:=hiv hin
  refine aj.vC hT qq hm (y:=p4) (x1:=nF) (zb:=part p4 [1,1]) [1,0] (j:=1) (by kernel_rfl) (by kernel_rfl) (by kernel_rfl) (by kernel_rfl) hk (f1:=[48]) 60 jA 3 (fun _:Unit=>oS n k p (cy n k t) d) (fun _=>[(2,iE (d+1) (vB k (cy n k t) t d) fun _=>SB d),(0,tP t sK)]) (fun _=>d+1≤p) ⟨_,Si,?_⟩ (fun _ hd'=>?_)
  ·simp only[aa.all,az,decide_eq_true_eq,decide_eq_false_iff_not]
   have re:eu [] ([aq 3 n fun i=>rat (k i) sK,int i64 p,ptr 0 0 3 0 [],int i64 (cy n k t),own 2 3 0 (d+1),int i64 ((d+1:Nat):Int),int i64 (0:Int),nil,int i64 (0:Int)],[((2:Nat),ak.mk true true 3 (d+1) fun i↦rat (vB k (cy n k t) t d i) (SB d)),((0:Nat),ak.mk false true 3 1 fun x↦rat t sK)]) (oS n k p (cy n k t) d) [(2,iE (d+1) (vB k (cy n k t) t d) fun _=>SB d),(0,tP t sK)] 3:=
    ⟨[(0,0),(2,2)],rfl,rfl,rfl,bF rfl rfl rfl (fun i hi=>aP rfl rfl) (bk rfl rfl (aP rfl rfl) trivial)⟩
   exact⟨fun h1=>⟨(),by omega,re⟩,fun h1 s' hs'=>⟨rfl,d,⟨by omega,hin⟩,re.le hs' hk⟩⟩
  refine aj.rj hT qq hm (x:=nF) (z:=part nF [1,1]) [1,0,1] (i:=2) (y:=part nF [1,0,1,0,0]) (by kernel_rfl) (by kernel_rfl) (by kernel_rfl) (by kernel_rfl) hk (f1:=[]) (f2:=[57]) 60 u5 4 (fun j:Nat=>Ax n k p (cy n k t) d j)
   (fun j=>[(3,iE (d+2) (jw k (cy n k t) t d j) (gR d j)),(2,iE (d+1) (vB k (cy n k t) t d) fun _=>SB d),(0,tP t sK)]) (fun j=>j≤d+1) (fun j=>j=d+1) (fun j=>d+1-j) (fun _=>False) ⟨_,Yk,?_⟩ (fun j hj=>⟨_,NL,?_⟩) (fun j hj=>?_) (fun _ _ h=>h.elim)
  ·simp only[aa.all,az]
   rw[show(((d+1:Nat):Int)+1).toNat=d+2 by omega]
   refine⟨⟨by omega,by omega⟩,0,by omega,[(0,0),(2,2),(3,8195)],rfl,rfl,rfl,bF rfl rfl rfl (fun i hi=>?_) (bF rfl rfl rfl (fun i hi=>aP rfl rfl) (bk rfl rfl (aP rfl rfl) trivial))⟩
   refine .inr ⟨rfl,bP ?_ ?_⟩
   ·unfold jw sR;rw[if_neg (by omega)];split<;>rfl
   ·unfold gR HB;rw[if_neg (by omega)];split<;>omega
  ·have hF:=wz
   have h1:=oT (d:=d)
   have h2:=tD (d:=d) (by omega)
   have h3:=tD (d:=d+1) (by omega)
   have h5:sV=268435456:=rfl
   have s0:gR d j j=HB d:=by unfold gR;rw[if_neg (by omega),if_pos rfl]
   have s1:gR d j (j+1)=1:=by unfold gR;rw[if_neg (by omega),if_neg (by omega)]
   have e0:((cy n k t:Int)-((d+1:Nat):Int)+1+(j:Int)).toNat=cy n k t-d+j:=by omega
   have e1:((cy n k t:Int)-((d+1:Nat):Int)+1+(j:Int)+((d+1:Nat):Int)).toNat=cy n k t-d+j+(d+1):=by omega
   have e2:((j:Int)+1).toNat=j+1:=by omega
   simp only[aa.all,az,decide_eq_true_eq,decide_eq_false_iff_not,Int.toNat_natCast,Nat.add_zero,e0,e1,e2,RL]
   have hjj:(j==j+1)=false:=by simp
   refine⟨fun h4=>?_,fun h4=>⟨rfl,j,by omega,[(0,0),(2,2),(3,3)],rfl,rfl,rfl,bF rfl rfl rfl (fun i hi=>aP rfl rfl) (bF rfl rfl rfl (fun i hi=>aP rfl rfl) (bk rfl rfl (aP rfl rfl) trivial))⟩⟩
   (repeat' with_reducible refine And.intro ?_ ?_)
   all_goals first|omega|(rw[s1];omega)|(rw[hjj,cond_false,s0];unfold HB;omega)|skip
   refine⟨j+1,by omega,by dsimp only;omega,[(0,0),(2,2),(3,3)],rfl,rfl,rfl,bF rfl rfl rfl (fun x hx=>Wt (by omega)) (bF rfl rfl rfl (fun i hi=>aP rfl rfl) (bk rfl rfl (aP rfl rfl) trivial))⟩
  ·subst hj
   refine aj.tail (fun s' hh=>by have:=hh.1;omega) (aC.aV hT qq hm 60 jA T6 (by kernel_rfl) ?_)
   simp only[aa.all,az]
   refine⟨by omega,fun s' hs'=>⟨d+1,⟨hd',hin⟩,by dsimp only;omega,eu.le ⟨[(0,0),(2,3)],rfl,rfl,rfl,bF rfl rfl rfl (fun x hx=>?_) (bk rfl rfl (aP rfl rfl) trivial)⟩ hs' hk⟩⟩
   refine .inr ⟨rfl,bP ?_ ?_⟩
   ·unfold jw
    by_cases hlt:x<d+1
    ·rw[if_pos hlt]
    ·have:x=d+1:=by omega
     subst this
     rw[if_neg (by omega),if_pos rfl,vB,if_neg (show¬d+1≤d by omega),Rat.add_zero];rfl
   ·have h1:=wh (d:=d)
    have h2:=oT (d:=d)
    have hF:=wz
    show _≤SB (d+1)
    unfold gR HB
    split
    ·omega
    ·split<;>omega
 ·subst hd
  refine aj.p6 ((aC.fin hT qq hm 60 Yz (by kernel_rfl) ?_).mono fun _ _ h=>.inl h)
  simp only[aa.all,az]
  exact⟨by have:=hiv hin;omega,Xt hin fun j _=>en (tD hp6)⟩
end Go.Am.B

/- basis.Sum; numbers of poles. -/
namespace Go.Am.B
open Go Go.Am.N AV aa ah IntKind
theorem SU:aN P nV uG (au uG):=aO Jv (by kernel_rfl) (by kernel_rfl) (by kernel_rfl)
def G6:Spec:=cS GO (fun a=>wZ a.1.1 a.1.2 a.2.1.toNat a.2.2.1) fun a=>[Kn a.1.1 a.2.1.toNat a.1.2,0≤a.2.1,a.2.1≤6,a.1.1<2^40]
theorem Zq:∀K args pre r,G6 K args pre=some r→aB P qI K args pre r:=cZ fun⟨⟨n,k⟩,p,t,_⟩ K hn=>by
 obtain⟨h1,h2,h3,h4⟩:=hn
 have h3:p≤6:=h3
 have:=UG h1 (by simp only;omega) h4 K (t:=t)
 rw[Int.toNat_of_nonneg h2]at this
 exact this
def uv:Spec:=cS (kC (kL sK) (kC kI kN)) (fun a=>.int .i64 ((a.1.1:Int)-a.2.1-1)) fun a=>[a.1.1<2^40,-2^40<a.2.1,a.2.1<2^40]
theorem VX {n:Nat} {k:Nat→Rat} {p:Int}:bu T [nG] [] 60 uG (au uG) ⟨aM 0 [ls k n,.int .i64 p],[],0⟩=
  let c3:Int:=(↑n:Int)-p;let c1:Int:=(2:Int)^63;let c2:Int:=c3-(1:Int);some (ag [-c1≤c3∧c3<c1,-c1≤c2∧c2<c1] (leaf ret [int i64 c2])):=by kernel_rfl
theorem yu:∀K args pre r,uv K args pre=some r→aB P nV K args pre r:=cZ fun⟨⟨n,k⟩,p,_⟩ K hn=>by
 obtain⟨h1,h2,h3⟩:=hn
 have h3:p<2^40:=h3
 simp only at h1 h2
 refine bE (r:=aG (.int .i64 ((n:Int)-p-1)) []) hT (dN br) hm SU rfl (of_decide_eq_true (by kernel_rfl)) rfl 60 VX (fun _=>?_) K []
 simp only[aa.all,az]
 exact⟨by omega,.refl _⟩
abbrev zO:ak:=⟨false,true,3,1,fun _=>.rat 0 1⟩
theorem DT {n:Nat} {k:Nat→Rat} {t:Rat} (h:dU n k t≠0):dQ n k t:=by
 unfold dU at h
 by_cases ho:dQ n k t
 ·exact ho
 ·rw[if_neg ho]at h;exact absurd rfl h
theorem HG {n:Nat} {k:Nat→Rat} {t:Rat} (h:dU n k t=0):¬dQ n k t:=fun ho=>by unfold dU at h;rw[if_pos ho]at h;omega
theorem Kn.AZ {n p:Nat} {k:Nat→Rat} (h:Kn n p k) {t:Rat} (hin:¬dQ n k t):p≤cy n k t∧cy n k t+p+1<n:=by
 have h1:¬t<k 0:=fun h=>hin (.inl h)
 have h2:¬k (n-1)<t:=fun h=>hin (.inr h)
 exact(h.Gj (by grind) (by grind)).2
end Go.Am.B
