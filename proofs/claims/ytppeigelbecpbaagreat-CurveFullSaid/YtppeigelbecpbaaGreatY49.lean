/- slices.Insert of one number vC a list of just its capacity; knots.Insert, ref08.Insert. -/
import Derived.Test.YtppeigelbecpbaaGreatY48
import Derived.Test.YtppeigelbecpbaaGreatY45
import Derived.Test.YtppeigelbecpbaaGreatB33
set_option linter.unusedVariables false
namespace Go.Am.B
open Go Go.Am.N AV aa ah IntKind
theorem Tg {c:Nat} {u v:AV} (hv:v.isAgg=false) (h:bt u v):bt (.bn c u) (.bn c v):=by
 refine⟨rfl,fun M w cs hc=>?_⟩
 cases hc with
 |bn _ h1 h2=>cases h2;exact .bn hv (h.2 _ _ _ h1) .nil
def Mn (s:Nat):Kind (Nat×(Nat→Rat)):=⟨fun v=>match v with
 |.bn c v=>match(kL s).read v with
  |some (a,q)=>some (a,(c=a.1)::q)
  |none=>none
 |_=>none,fun a=>.bn a.1 (bM a.2 a.1 s),fun {v a q} h hq=>by
  split at h
  ·split at h
   ·rename_i h1
    simp only[Option.some.injEq,Prod.mk.injEq]at h
    obtain⟨rfl,rfl⟩:=h
    obtain⟨q1,q2⟩:=yE.1 hq
    subst q1
    exact Tg rfl ((kL s).ok h1 q2)
   ·simp at h
  ·simp at h⟩
abbrev yD:FuncId:=Ei
noncomputable abbrev xT:Func:=CB
def eo (k:Nat→Rat) (t:Rat):Nat→Nat
 |0=>0
 |n+1=>if eo k t n=n∧k n≤t then n+1 else eo k t n
def fG (k:Nat→Rat) (t:Rat) (p j:Nat):Rat:=if j<p then k j else if j=p then t else k (j-1)
abbrev qC:List Nat:=[3,9,10,11]
abbrev AA (n:Nat) (k:Nat→Rat) (s i:Nat):List AV:=[.bn n (.own 0 3 0 i),bM k n s,.int .i64 n,.int .i64 i]
abbrev xz:aT:=cG::fN
abbrev uM:List Nat:=[0,3,5]
abbrev Ay (n:Nat) (k:Nat→Rat) (s i:Nat):List AV:=[bM k n s,.ptr 0 0 3 0 [],.int .i64 i]
noncomputable abbrev vJ:Code:=au uQ
def G4 (w:Nat):Spec:=cS (kC (Mn w) (kC kI (kC (kL w) kN))) (fun a=>bM (fG a.1.2 (a.2.2.1.2 0) a.2.1.toNat) (a.1.1+1) w) fun a=>[0≤a.2.1,a.2.1≤a.1.1,a.2.2.1.1=1,a.1.1<2^40]
def Fc (s w:Nat):Spec:=cS (kC (kL s) kN) (fun a=>.bn a.1.1 (bM a.1.2 a.1.1 w)) fun a=>[a.1.1<2^40]
def wu (s w:Nat):aT:=cG::(lV,Fc s w)::(yD,G4 w)::fN
theorem KA:aN P yD xT (au xT):=aO PG (by kernel_rfl) (by kernel_rfl) (by kernel_rfl)
theorem LU:aN P qS uQ (au uQ):=aO WT (by kernel_rfl) (by kernel_rfl) (by kernel_rfl)
theorem O9 {n i s:Nat} {k:Nat→Rat} {t:Rat}:bu T [cG] [22,100031] 60 xT (au xT) ⟨aM 0 [.bn n (bM k n s),.int .i64 i,bM (fun _=>t) 1 s],[],0⟩=
  let c11:Nat:=Int.toNat (0:Int);let c9:Int:=(↑n:Int);let c7:Int:=(2:Int)^63;let c4:Int:=(↑i:Int);let c14:Nat:=c4.toNat-c11;let c13:Prop:=(0:Int)≤c4;let c12:Nat:=0+c4.toNat;let c3:Int:=c9+(↑(1:Nat):Int);let c2:Int:=c4+(↑(1:Nat):Int);let c10:Nat:=0+c2.toNat;let c1:Nat:=c14+(c3-c4).toNat;let c8:Int:=(↑c1:Int);let c6:Nat:=c12+Min.min 1 (c8.toNat-c4.toNat);let c5:Nat:=c10+Min.min (c9.toNat-c4.toNat) (c8.toNat-c2.toNat);some (ag [c13∧c4≤c9∧c9≤c9] (fork (c4==c9) (ag [n<n+1∧(n+1)*((56:Nat)+1)*2≤2^47] (leaf ret [aq 3 (n+1) fun i↦if i+0<n then rat (k (i+0)) s else rat t s])) (ag [-c7≤c3∧c3<c7] (ag [decide (c3>c9)=true] (ag [(0:Int)≤(0:Int)∧c13∧c4≤c9,-c7≤c3∧c3<c7,-c7≤c3-c4∧c3-c4<c7,(0:Int)<c3-c4∧n-c11<c1∧c1*((56:Nat)+1)*2≤2^47] (ag [c13∧c4≤c8∧c8≤c8∧c8≤c8] (ag [-c7≤c2∧c2<c7,(0:Int)≤c2∧c2≤c8∧c8≤c8∧c8≤c8,c13∧c4≤c9∧c9≤c9] (leaf ret [aq 3 c1 fun i↦if c10≤i+0∧i+0<c5 then rat (k (i+0-c10+c4.toNat)) s else if c12≤i+0∧i+0<c6 then rat t s else if i+0<c14 then rat (k (i+0+c11)) s else rat 0 1])))))))):=by kernel_rfl
theorem Vi {n s:Nat} {k:Nat→Rat}:aJ T xz [] 60 qC (before jG [1,1,0,1]) ⟨aM 0 [bM k n s],[],0⟩=
  let c1:Int:=(↑n:Int);some (ag [(0:Int)≤(0:Int)∧(0:Int)≤c1∧c1≤(2:Int)^47∧c1*(↑(56:Nat):Int)≤(2:Int)^47] (leaf normal ([bn c1.toNat (own 12288 3 0 0),aq 3 n fun i↦rat (k i) s,int i64 c1,int i64 (0:Int)],[((12288:Nat),ak.mk true true 3 0 fun x↦rat 0 1)]))):=by kernel_rfl
theorem MS {n i s w:Nat} {k x:Nat→Rat}:aJ T xz [12] 60 qC [part jG [1,1,0,1,0,0]] ⟨aD qC (AA n k s i),[(0,BE i x w)],1⟩=
  let c5:Int:=(↑n:Int);let c3:Nat:=i+1;let c2:AV:=aq 3 n fun i↦rat (k i) s;let c1:Int:=(↑i:Int);let c4:Int:=c1+(1:Int);some (fork (decide (c1<c5)) (ag [(0:Int)≤c1∧c1.toNat<n,(0:Nat)<1] (ag [(0:Nat)<1,s<2^42,(1:Nat)<2^42,(1:Nat)*3≤2^24,c3≤n,c3*((56:Nat)+1)*2≤2^47] (ag [-(2:Int)^63≤c4∧c4<(2:Int)^63] (leaf normal ([bn n (own 40961 3 0 c3),c2,int i64 c5,int i64 c4],[((40961:Nat),ak.mk true true 3 c3 fun i_1↦if i_1<i then rat (x i_1) w else nth [rat (k c1.toNat+0) (s+1+1)] (rat 0 1) (i_1-i+0))]))))) (leaf (exit 0) ([bn n (own 0 3 0 i),c2,int i64 c5,int i64 c1],[((0:Nat),ak.mk true true 3 i fun i↦rat (x i) w)]))):=by kernel_rfl
theorem P8 {n i s w:Nat} {k x:Nat→Rat}:b7 T xz [] 60 s9 [part jG [1,1,1]] ⟨aD qC (AA n k s i),[(0,BE i x w)],1⟩=
  some (leaf ret [bn n (aq 3 i fun i↦rat (x (i+0)) w)]):=by kernel_rfl
theorem OA {n s r w:Nat} {k:Nat→Rat} {t:Rat}:aJ T (wu s w) [] 60 uM (before vJ [1,1,0]) ⟨aM 0 [bM k n s,.rat t r],[],0⟩=
  some (leaf normal ([aq 3 n fun i↦rat (k i) s,ptr 0 0 (bH (rat t r)).size 0 [],int i64 (0:Int)],[((0:Nat),ak.mk false true (bH (rat t r)).size 1 fun x↦rat t r)])):=by kernel_rfl
theorem Pa {n i s r w:Nat} {k:Nat→Rat} {t:Rat}:aJ T (wu s w) [10,18] 60 uM [part vJ [1,1,0,0,0]] ⟨aD uM (Ay n k s i),[(0,tP t r)],1⟩=
  let c7:AV:=aq 3 n fun i↦rat (k i) s;let c5:AV:=ptr 0 0 3 0 [];let c4:Nat×ak:=((0:Nat),ak.mk false true 3 1 fun x↦rat t r);let c3:Int:=(↑i:Int);let c8:Int:=c3+(1:Int);let c6:Bool:=decide (c3<(↑n:Int));let c2:aa (List AV×aA):=leaf (exit 0) ([c7,c5,int i64 c3],[c4]);let c1:aa (List AV×aA):=ag [-(2:Int)^63≤c8∧c8<(2:Int)^63] (leaf normal ([c7,c5,int i64 c8],[c4]));some (fork c6 (ag [c6=true,(0:Int)≤c3∧c3.toNat<n,(0:Nat)<1,s<2^42,r<2^42] (fork (bif true then decide (dS (k c3.toNat) t≤(0:Int))else false) c1 c2)) (ag [c6=false] (fork false c1 c2))):=by kernel_rfl
theorem QC {n i s r w:Nat} {k:Nat→Rat} {t:Rat}:b7 T (wu s w) [] 60 uQ [part vJ [1,1,1]] ⟨aD uM (Ay n k s i),[(0,tP t r)],1⟩=
  let c3:AV:=rat 0 1;let c2:Prop:=n<2^40;let c1:AV:=rat (t+0) (r+1+1);some (ag [cj (fun i↦rat (k i) s) n s,c2,(0:Nat)<1,r<2^42,(1:Nat)<2^42,(1:Nat)*3≤2^24,n=n,cj (fun i↦rat (aZ (rat (k i) s)) w) n w,cj (fun i↦nth [c1] c3 (i+0)) 1 w,(0:Int)≤(↑i:Int),(↑i:Int)≤(↑n:Int),(1:Nat)=1,c2] (leaf ret [aq 3 (n+1) fun i_1↦rat (fG (fun i↦aZ (rat (aZ (rat (k i) s)) w)) (aZ (nth [c1] c3 ((0:Nat)+0))) (↑i:Int).toNat i_1) w])):=by kernel_rfl
theorem zS {Γ:aT} (h:bp P Γ):bp P (cG::Γ):=aK (fun _ _ _ _ h=>nomatch h) h
theorem W6 {a b:Rat}:dS a b≤(0:Int)↔a≤b:=by
 have:=@uW a b
 constructor
 ·intro h
  exact Rat.not_lt.1 fun h'=>by have:=uW.2 h';omega
 ·intro h
  have:¬dS a b>0:=fun h'=>Rat.not_lt.2 h (uW.1 h')
  omega
theorem SA {k:Nat→Rat} {t:Rat} {n:Nat} (h:eo k t n=n) (h2:k n≤t):eo k t (n+1)=n+1:=by unfold eo;rw[if_pos ⟨h,h2⟩]
theorem Eh {k:Nat→Rat} {t:Rat} {i:Nat} (h:eo k t i=i) (h2:t<k i):∀{n:Nat},i≤n→eo k t n=i
 |0,hn=>by
    have:i=0:=by omega
    subst this;rfl
 |n+1,hn=>by
  by_cases he:i=n+1
  ·subst he;exact h
  ·have ih:=Eh h h2 (n:=n) (by omega)
   unfold eo
   rw[if_neg,ih]
   rintro⟨g1,g2⟩
   have:i=n:=by omega
   subst this
   exact absurd h2 (Rat.not_lt.2 g2)
theorem Qf {n i s:Nat} {k:Nat→Rat} {t:Rat} (hi:i≤n) (hn:n<2^40) (K:Nat):aB P yD K [.bn n (bM k n s),.int .i64 i,bM (fun _=>t) 1 s] [] (aG (bM (fG k t i) (n+1) s) []):=by
 refine bE (r:=aG (bM (fG k t i) (n+1) s) []) hT (zS br) hm KA rfl (of_decide_eq_true (by kernel_rfl)) rfl 60 O9 (fun _=>?_) K []
 simp only[aa.all,az,decide_eq_true_eq,decide_eq_false_iff_not]
 have w1:((1:Nat):Int)=1:=rfl
 simp only[w1,Int.toNat_natCast,Int.toNat_zero,Nat.sub_zero,Nat.zero_add,Nat.add_zero,beq_iff_eq,beq_eq_false_iff_ne,ne_eq,Int.ofNat_inj]
 refine⟨by omega,fun h=>⟨by omega,kG fun j hj=>cD ?_⟩,fun h=>?_⟩
 ·subst h
  unfold fG
  by_cases h1:j<i
  ·rw[if_pos h1,if_pos h1]
  ·rw[if_neg h1,if_neg h1,if_pos (by omega)]
 ·have eN:i+((n:Int)+1-i).toNat=n+1:=by omega
  have e2:((i:Int)+1).toNat=i+1:=by omega
  simp only[eN,e2]
  refine⟨by omega,by omega,by omega,by omega,by omega,kG fun j hj=>cD ?_⟩
  unfold fG
  by_cases h1:j<i
  ·rw[if_neg (by omega),if_neg (by omega),if_pos h1,if_pos h1]
  ·by_cases h2:j=i
   ·rw[if_neg (by omega),if_pos (by omega),if_neg h1,if_pos h2]
   ·rw[if_pos (by omega),if_neg h1,if_neg h2,show j-(i+1)+i=j-1 by omega]
theorem My:bp P xz:=zS gM
theorem Tc {n s w:Nat} {k:Nat→Rat} (h:s+2≤w) (hw:w<2^40) (hn:n<2^40) (K:Nat):aB P lV K [bM k n s] [] (aG (.bn n (bM k n w)) []):=by
 refine gJ (r:=aG (.bn n (bM k n w)) []) hT My hm Bo rfl (of_decide_eq_true (by kernel_rfl)) rfl [1,1,0,1] (i:=0) (y:=part jG [1,1,0,1,0,0]) (z:=part jG [1,1,1]) (by kernel_rfl) (by kernel_rfl) (by kernel_rfl) (f1:=[]) (f2:=[12]) (f3:=[]) 60 qC 1
  (fun i:Nat=>AA n k s i) (fun i=>[(0,BE i k w)]) (fun i=>i≤n) (fun i=>i=n) (fun i=>n-i) (fun _=>⟨⟨_,Vi,?_⟩,fun i hi=>⟨_,MS,?_⟩,fun i hi=>⟨_,P8,?_⟩⟩) K []
 ·simp only[aa.all,az]
  exact⟨by omega,0,Nat.zero_le _,[(0,12288)],rfl,by rw[Int.toNat_natCast];rfl,rfl,bF rfl rfl rfl (fun j hj=>absurd hj (Nat.not_lt_zero j)) trivial⟩
 ·simp only[aa.all,az,decide_eq_true_eq,decide_eq_false_iff_not,Int.toNat_natCast,Nat.add_zero]
  exact⟨fun h1=>⟨by omega,by omega,by omega,i+1,by omega,by dsimp only;omega,[(0,40961)],rfl,rfl,rfl,bF rfl rfl rfl (fun j hj=>qW (fun _ _=>rfl) (Rat.add_zero _) (Nat.le_refl _) (by omega) hj) trivial⟩,
   fun h1=>⟨rfl,i,by omega,[(0,0)],rfl,rfl,rfl,bF rfl rfl rfl (fun _ _=>aP rfl rfl) trivial⟩⟩
 ·subst hi
  simp only[aa.all,az]
  exact .refl _
theorem XL {s w:Nat} (h:s+2≤w) (hw:w<2^40):∀K args pre r,Fc s w K args pre=some r→aB P lV K args pre r:=cZ fun⟨⟨n,k⟩,_⟩ K hn=>Tc h hw hn K
theorem O7 {w:Nat}:∀K args pre r,G4 w K args pre=some r→aB P yD K args pre r:=cZ fun⟨⟨n,k⟩,i,⟨m,g⟩,_⟩ K hn=>by
 obtain⟨h1,h2,h3,h4⟩:=hn
 simp only at h1 h2 h3 h4
 subst h3
 have:=eO (Qf (k:=k) (t:=g 0) (s:=w) (i:=i.toNat) (n:=n) (by omega) h4 K) (args:=[.bn n (bM k n w),.int .i64 i,bM g 1 w]) rfl ⟨.refl _,bh (by omega),kG fun j hj=>cD (by rw[Nat.lt_one_iff.1 hj]),trivial⟩ []
 exact this
theorem VB {s w:Nat} (h:s+2≤w) (hw:w<2^40):bp P (wu s w):=zS (aK (XL h hw) (aK O7 gM))
theorem Th {n s r w:Nat} {k:Nat→Rat} {t:Rat} (h:s+2≤w) (h2:r+2≤w) (hw:w<2^40) (hn:n<2^40) (K:Nat):aB P qS K [bM k n s,.rat t r] [] (aG (bM (fG k t (eo k t n)) (n+1) w) []):=by
 refine gJ (r:=aG (bM (fG k t (eo k t n)) (n+1) w) []) hT (VB h hw) hm LU rfl (of_decide_eq_true (by kernel_rfl)) rfl [1,1,0] (i:=0) (y:=part vJ [1,1,0,0,0]) (z:=part vJ [1,1,1]) (by kernel_rfl) (by kernel_rfl) (by kernel_rfl) (f1:=[]) (f2:=[10,18]) (f3:=[]) 60 uM 1
  (fun i:Nat=>Ay n k s i) (fun _=>[(0,tP t r)]) (fun i=>i≤n∧eo k t i=i) (fun i=>i≤n∧i=eo k t n) (fun i=>n-i) (fun _=>⟨⟨_,OA,?_⟩,fun i hi=>⟨_,Pa,?_⟩,fun i hi=>⟨_,QC,?_⟩⟩) K []
 ·simp only[aa.all,az]
  exact⟨0,⟨Nat.zero_le _,rfl⟩,[(0,0)],rfl,rfl,rfl,bk rfl rfl (aP rfl rfl) trivial⟩
 ·simp only[aa.all,az,decide_eq_true_eq,decide_eq_false_iff_not,Int.toNat_natCast]
  simp only[cond_true,decide_eq_true_eq,decide_eq_false_iff_not,W6]
  exact⟨fun h1=>⟨⟨h1,by omega,by omega,by omega,by omega⟩,fun h2=>⟨by omega,i+1,⟨by omega,SA hi.2 h2⟩,by dsimp only;omega,[(0,0)],rfl,rfl,rfl,bk rfl rfl (aP rfl rfl) trivial⟩,
    fun h2=>⟨rfl,i,⟨by omega,(Eh hi.2 (Rat.not_le.1 h2) (by omega)).symm⟩,[(0,0)],rfl,rfl,rfl,bk rfl rfl (aP rfl rfl) trivial⟩⟩,
   fun h1=>⟨h1,fun h=>absurd h (by decide),fun _=>⟨rfl,i,⟨hi.1,by rw[show n=i by omega];exact hi.2.symm⟩,[(0,0)],rfl,rfl,rfl,bk rfl rfl (aP rfl rfl) trivial⟩⟩⟩
 ·obtain⟨hi,rfl⟩:=hi
  simp only[aa.all,az]
  refine⟨⟨dc (Nat.le_refl _),by omega,by omega,by omega,by omega,by omega,trivial,dc (Nat.le_refl _),fun j hj=>?_,by omega,by omega,trivial,by omega⟩,kG fun j hj=>cD ?_⟩
  ·rw[Nat.lt_one_iff.1 hj];exact en (by omega)
  ·show AV.rat (fG k (t+0) ((eo k t n:Nat):Int).toNat j) w=_
   rw[Rat.add_zero,Int.toNat_natCast]
def Ce (s w:Nat):Spec:=cS (kC (kL s) (kC (jo s) kN)) (fun a=>bM (fG a.1.2 a.2.1 (eo a.1.2 a.2.1 a.1.1)) (a.1.1+1) w) fun a=>[a.1.1<2^40]
theorem Pj {s w:Nat} (h:s+2≤w) (hw:w<2^40):∀K args pre r,Ce s w K args pre=some r→aB P qS K args pre r:=cZ fun⟨⟨n,k⟩,t,_⟩ K hn=>Th h h hw hn K
end Go.Am.B

/- shapes.ints, ref14.ints. -/
namespace Go.Am.B
open Go Go.Am.N AV aa ah IntKind
end Go.Am.B

/- spline.Copied, shapes.clamped, shapes.Revolve. -/
namespace Go.Am.B
open Go Go.Am.N AV aa ah IntKind
theorem R1:aN P s7 uq (au uq):=aO VC (by kernel_rfl) (by kernel_rfl) (by kernel_rfl)
abbrev AR (y m:Nat) (k:Nat→Rat):ak:=⟨true,true,3,m,fun i=>.rat (k i) y⟩
noncomputable abbrev uf:Code:=au uq
abbrev sI:List Nat:=[3,9,10,11]
abbrev y6 (x n:Nat) (k:Nat→Rat) (i:Nat):List AV:=[.own 0 3 0 i,bM k n x,.int .i64 n,.int .i64 i]
noncomputable def xY:aT:=nG::fN
theorem LL {x n:Nat} {k:Nat→Rat}:aJ T xY [] 60 sI (before uf [1,1,0,1]) ⟨aM 0 [bM k n x],[],0⟩=
  let c1:Int:=(↑n:Int);some (ag [(0:Int)≤(0:Int)∧(0:Int)≤c1∧c1≤(2:Int)^47∧c1*(↑(56:Nat):Int)≤(2:Int)^47] (leaf normal ([own 12288 3 0 0,aq 3 n fun i↦rat (k i) x,int i64 c1,int i64 (0:Int)],[((12288:Nat),ak.mk true true 3 0 fun x↦rat 0 1)]))):=by kernel_rfl
theorem Pn {x y n i:Nat} {k:Nat→Rat}:aJ T xY [12] 60 sI [part uf [1,1,0,1,0,0]] ⟨aD sI (y6 x n k i),[(0,AR y i k)],1⟩=
  let c4:Int:=(↑n:Int);let c2:AV:=aq 3 n fun i↦rat (k i) x;let c1:Int:=(↑i:Int);let c3:Int:=c1+(1:Int);some (fork (decide (c1<c4)) (ag [(0:Int)≤c1∧c1.toNat<n,(0:Nat)<1] (ag [(0:Nat)<1,x<2^42,(1:Nat)<2^42,(1:Nat)*3≤2^24,(i+1)*((56:Nat)+1)*2≤2^47] (ag [-(2:Int)^63≤c3∧c3<(2:Int)^63] (leaf normal ([own 40961 3 0 (i+1),c2,int i64 c4,int i64 c3],[((40961:Nat),ak.mk true true 3 (i+1) fun i_1↦if i_1<i then rat (k i_1) y else nth [rat (k c1.toNat+0) (x+1+1)] (rat 0 1) (i_1-i+0))]))))) (leaf (exit 0) ([own 0 3 0 i,c2,int i64 c4,int i64 c1],[((0:Nat),ak.mk true true 3 i fun i↦rat (k i) y)]))):=by kernel_rfl
theorem JR {x y n i:Nat} {k:Nat→Rat}:b7 T xY [] 60 uq [part uf [1,1,1]] ⟨aD sI (y6 x n k i),[(0,AR y i k)],1⟩=
  some (leaf ret [aq 3 i fun i↦rat (k (i+0)) y]):=by kernel_rfl
theorem Yc:bp P xY:=dN gM
theorem VS {x y n:Nat} {k:Nat→Rat} (hxy:x+10≤y) (hy:y<2^40) (hn:n<2^40) (K:Nat):aB P s7 K [bM k n x] [] (aG (bM k n y) []):=by
 refine gJ (r:=aG (bM k n y) []) hT Yc hm R1 rfl (of_decide_eq_true (by kernel_rfl)) rfl [1,1,0,1] (i:=0) (y:=part uf [1,1,0,1,0,0]) (z:=part uf [1,1,1]) (by kernel_rfl) (by kernel_rfl) (by kernel_rfl) (f1:=[]) (f2:=[12]) (f3:=[]) 60 sI 1
  (fun i:Nat=>y6 x n k i) (fun i=>[(0,AR y i k)]) (fun i=>i≤n) (fun i=>i=n) (fun i=>n-i) (fun _=>⟨⟨_,LL,?_⟩,fun i hi=>⟨_,Pn,?_⟩,fun i hi=>⟨_,JR,?_⟩⟩) K []
 ·simp only[aa.all,az]
  exact⟨by omega,0,Nat.zero_le _,[(0,12288)],rfl,rfl,rfl,bF rfl rfl rfl (fun i hi=>absurd hi (Nat.not_lt_zero i)) trivial⟩
 ·simp only[aa.all,az,decide_eq_true_eq,decide_eq_false_iff_not,Int.toNat_natCast,Nat.add_zero]
  exact⟨fun h2=>⟨by omega,by omega,by omega,i+1,by omega,by dsimp only;omega,[(0,40961)],rfl,rfl,rfl,bF rfl rfl rfl (fun j hj=>qW (fun _ _=>rfl) (Rat.add_zero _) (Nat.le_refl _) (by omega) hj) trivial⟩,fun h2=>⟨rfl,i,by omega,[(0,0)],rfl,rfl,rfl,bF rfl rfl rfl (fun j hj=>aP rfl rfl) trivial⟩⟩
 ·subst hi
  simp only[aa.all,az]
  exact v9 rfl fun j hj=>rfl
def Di (x y:Nat):Spec:=cS (kC (kL x) kN) (fun a=>bM a.1.2 a.1.1 y) fun a=>[x+10≤y,y<2^40,a.1.1<2^40]
theorem Wa (x y:Nat):∀K args pre r,Di x y K args pre=some r→aB P s7 K args pre r:=cZ fun⟨⟨n,k⟩,_⟩ K hn=>VS hn.1 hn.2.1 hn.2.2 K
end Go.Am.B

/- Spline.Over, Spline.Insert, curve.back. -/
namespace Go.Am.B
open Go Go.Am.N AV aa ah IntKind
theorem Ll:aN P tK sn (au sn):=aO KB (by kernel_rfl) (by kernel_rfl) (by kernel_rfl)
theorem Xq:aN P xo tR (au tR):=aO LS (by kernel_rfl) (by kernel_rfl) (by kernel_rfl)
theorem Ts:aN P tN vc (au vc):=aO Wr (by kernel_rfl) (by kernel_rfl) (by kernel_rfl)
def wL (c:Cu) (n:Nat) (k:Nat→Rat) (j:Nat):Pl:=nM c (gT c.n c.k (k (fu k n j))) c.p.toNat (fun q=>k (q+(j+1)))
def wY (c:Cu) (n:Nat) (k:Nat→Rat):Cu:=⟨c.p,n,k,n-c.p.toNat-1,wL c n k⟩
noncomputable def xd:aT:=nG::(nV,uv)::(vX,Ho)::(qb,zl)::(rK,Gb)::fN
abbrev td:List Nat:=[1,2,4,5,17,18]
abbrev B9 (n m:Nat) (k:Nat→Rat) (j:Nat):List AV:=[ls k n,.ptr 0 0 3 0 [],.ptr 1 0 3 0 [],.ptr 2 0 3 0 [],.int .i64 m,.int .i64 j]
abbrev Bd (c:Cu) (n:Nat) (k:Nat→Rat) (h:Nat→Pl) (j:Nat):aA:=[(3,⟨true,true,12,j,fun i=>cP (h i) sB⟩),(2,⟨false,true,3,1,fun _=>.agg [.int .i64 c.p,ls k n,.own 3 12 0 j]⟩),(1,⟨false,true,3,1,fun _=>.agg [.int .i64 0,.nil,.nil]⟩),(0,mc c sK)]
noncomputable abbrev vG:Code:=au sn
theorem Et {f:Nat→Pl} {m s s':Nat} (h:s≤s'):me (fun i=>cP (f i) s) m s':=fun _ _=>wo rfl h
noncomputable def Dk:Spec:=cS (kC (qP sK sK) (kC (kL sK) kN)) (fun a=>eJ (wY a.1 a.2.1.1 a.2.1.2) sK sB) fun a=>[Kn a.1.n a.1.p.toNat a.1.k,1≤a.1.p,a.1.p≤6,a.1.n<2^40,a.1.m<2^40,a.2.1.1<2^29,a.1.p+1≤a.2.1.1]
def uu (c:Cu) (t:Rat):Cu:=wY c (c.n+1) (fG c.k t (eo c.k t c.n))
noncomputable def Fx:aT:=nG::(qS,Ce 2000 2002)::(tK,Dk)::[]
abbrev rD:List Nat:=[2,3,13,14,15]
abbrev AW (c:Cu) (i:Nat):List AV:=[.ptr 0 0 3 0 [],.ptr 1 0 3 0 [],nj c.f c.m sB,.int .i64 c.m,.int .i64 i]
abbrev B6 (c:Cu) (i:Nat):aA:=[(2,⟨true,true,12,i,fun j=>cz (gD (c.f j)) (sB+sB)⟩),(1,⟨false,true,3,1,fun _=>.agg [.int .i64 c.p,bM c.k c.n (sK+10),.own 2 12 0 i]⟩),(0,⟨false,true,3,1,fun _=>.agg [.int .i64 0,.nil,.nil]⟩)]
noncomputable abbrev ru:Code:=au vc
def HX:Spec:=cS (kC (DA sB) kN) (fun a=>cz (gD a.1) (sB+sB)) fun _=>[]
def xE:aT:=nG::(s7,Di sK (sK+10))::(nk,HX)::[]
theorem Ji {c:Cu} {n:Nat} {k:Nat→Rat}:aJ T xd [] 60 td (before vG [1,1,0,1]) ⟨aM 0 [eJ c sK sK,ls k n],[],0⟩=
  let c3:Nat:=(bH (eJ c sK sK)).size;let c2:Prop:=0<1;let c1:AV:=agg [int i64 (0:Int),nil,nil];some (ag [c2,c2] (ag [c2,cj (fun i↦rat (k i) sK) n sK,n<2^40,-(2:Int)^40<c.p,c.p<(2:Int)^40] (leaf normal ([aq 3 n fun i↦rat (k i) 4096,ptr 0 0 c3 0 [],ptr 4096 0 3 0 [],ptr 24576 0 3 0 [],int i64 ((↑n:Int)-c.p-(1:Int)),int i64 (0:Int)],[((24576:Nat),ak.mk false true 3 1 fun j↦if(j==0)=true then bH (agg ((c1.kids.set 0 (bH (int i64 c.p))).set 1 (bH (ls k n))))else c1),((4096:Nat),ak.mk false true 3 1 fun x↦c1),((0:Nat),ak.mk false true c3 1 fun x↦agg [int i64 c.p,aq 3 c.n fun i↦rat (c.k i) 4096,aq 12 c.m fun i↦agg [rat (c.f i).n.x 4096,rat (c.f i).n.y 4096,rat (c.f i).n.z 4096,rat (c.f i).d 4096]])])))):=by kernel_rfl
theorem N3 {c:Cu} {n m j:Nat} {k:Nat→Rat} {h:Nat→Pl}:aJ T xd [19] 60 td [part vG [1,1,0,1,0,0]] ⟨aD td (B9 n m k j),Bd c n k h j,4⟩=
  let c20:Int:=(↑m:Int);let c18:Prop:=cj (fun i↦rat (c.k i) sK) c.n sK;let c17:AV:=ptr 2 0 3 0 [];let c16:AV:=ptr 1 0 3 0 [];let c15:AV:=ptr 0 0 3 0 [];let c14:Nat:=2^40;let c13:AV:=rat 0 1;let c12:Int:=(↑j:Int);let c10:AV:=own 3 12 0 j;let c9:AV:=aq 3 n fun i↦rat (k i) 4096;let c8:Prop:=0<1;let c6:Int:=(2:Int)^63;let c5:Cu:=Cu.mk c.p c.n (fun i↦aZ (rat (c.k i) sK)) c.m fun i↦s6 (cP (c.f i) sK);let c2:List (Nat×ak):=[((1:Nat),ak.mk false true 3 1 fun x↦agg [int i64 (0:Int),nil,nil]),((0:Nat),ak.mk false true 3 1 fun x↦agg [int i64 c.p,aq 3 c.n fun i↦rat (c.k i) 4096,aq 12 c.m fun i↦agg [rat (c.f i).n.x 4096,rat (c.f i).n.y 4096,rat (c.f i).n.z 4096,rat (c.f i).d 4096]])];let c19:AV:=agg [int i64 c.p,ls k n,c10];let c7:Int:=(↑(fu (fun i↦aZ (rat (k i) sK)) n c12.toNat):Int);let c4:Int:=c12+c.p+(1:Int);let c3:Int:=c12+(1:Int);let c11:Nat:=c4.toNat-c3.toNat;let c1:Int:=(↑(gT c.n (fun i↦aZ (rat (c.k i) sK)) (k c7.toNat)):Int);some (fork (decide (c12<c20)) (ag [cj (fun i↦rat (k i) sK) n sK,(0:Int)≤c12,c12≤(↑n:Int),n<c14] (ag [c8,c8,(0:Int)≤c7∧c7.toNat<n,c18,sK≤sK,Kn c.n c.p.toNat fun i↦aZ (rat (c.k i) sK),(0:Int)≤c.p,c.n<c14] (ag [c8,c8,-c6≤c3∧c3<c6,c8,-c6≤c12+c.p∧c12+c.p<c6,-c6≤c4∧c4<c6,(0:Int)≤c3∧c3≤c4∧c4≤c4∧c4≤(↑n:Int),c18,me (fun i↦cP (c.f i) sK) c.m sK,cj (fun i↦rat (k (i+c3.toNat)) sK) c11 sK,(1:Int)≤c.p,c.p≤(6:Int),c.n<c14,c.m<c14,-(2:Int)^40<c1,c1<(2:Int)^40,(1:Nat)*12≤2^24,(j+1)*((224:Nat)+1)*2≤2^47,c8] (ag [-c6≤c3∧c3<c6] (leaf normal ([c9,c15,c16,c17,int i64 c20,int i64 c3],((147460:Nat),ak.mk true true 12 (j+1) fun i↦if i<j then cP (h i) sB else nth [agg [rat (gF c5 c1 c11 (fun i↦aZ (rat (k (i+c3.toNat)) sK)) 0) sB,rat (gF c5 c1 c11 (fun i↦aZ (rat (k (i+c3.toNat)) sK)) 1) sB,rat (gF c5 c1 c11 (fun i↦aZ (rat (k (i+c3.toNat)) sK)) 2) sB,rat (gF c5 c1 c11 (fun i↦aZ (rat (k (i+c3.toNat)) sK)) 3) sB]] (agg [c13,c13,c13,c13]) (i-j+0))::((2:Nat),ak.mk false true 3 1 fun j_1↦if(j_1==0)=true then agg (c19.kids.set 2 (bH (own (nat_lit 147459+1) 12 0 (j+1))))else c19)::c2)))))) (leaf (exit 0) ([c9,c15,c16,c17,int i64 c20,int i64 c12],((3:Nat),ak.mk true true 12 j fun i↦agg [rat (h i).n.x 536870912,rat (h i).n.y 536870912,rat (h i).n.z 536870912,rat (h i).d 536870912])::((2:Nat),ak.mk false true 3 1 fun x↦agg [int i64 c.p,c9,c10])::c2))):=by kernel_rfl
theorem KP {c:Cu} {n m j:Nat} {k:Nat→Rat} {h:Nat→Pl}:b7 T xd [] 60 sn [part vG [1,1,1]] ⟨aD td (B9 n m k j),Bd c n k h j,4⟩=
  let c1:Prop:=0<1;some (ag [c1,c1] (ag [c1] (leaf ret [agg [int i64 c.p,aq 3 n fun i↦rat (k i) 4096,aq 12 j fun i↦agg [rat (h (i+0)).n.x 536870912,rat (h (i+0)).n.y 536870912,rat (h (i+0)).n.z 536870912,rat (h (i+0)).d 536870912]]]))):=by kernel_rfl
theorem K0 {c:Cu} {t:Rat}:bu T Fx [] 60 tR (au tR) ⟨aM 0 [eJ c 2000 4000,.rat t 2000],[],0⟩=
  some (ag [0<1,0<1,0<1,cj (fun i=>.rat (c.k i) 2000) c.n 2000,2000≤2000,c.n<2^40,cj (fun i=>.rat (c.k i) 2000) c.n sK,me (fun i=>cP (c.f i) 4000) c.m sK,cj (fun i=>.rat (fG c.k t (eo c.k t c.n) i) 2002) (c.n+1) sK,Kn c.n c.p.toNat c.k,1≤c.p,c.p≤6,c.n<2^40,c.m<2^40,c.n+1<2^29,c.p+1≤(c.n+1:Nat),0<1]
   (ag [0<1] (leaf .ret [eJ (uu c t) sK sB]))):=by kernel_rfl
theorem UC {c:Cu}:aJ T xE [] 60 rD (before ru [1,1,0,1]) ⟨aM 0 [eJ c sK sB],[],0⟩=
  let c3:Nat:=sK+10;let c2:Prop:=0<1;let c1:AV:=agg [int i64 (0:Int),nil,nil];some (ag [c2,c2,cj (fun i↦rat (c.k i) sK) c.n sK,c3≤c3,c3<2^40,c.n<2^40,c2] (ag [c2] (leaf normal ([ptr 4096 0 3 0 [],ptr 32768 0 3 0 [],aq 12 c.m fun i↦agg [rat (c.f i).n.x 536870912,rat (c.f i).n.y 536870912,rat (c.f i).n.z 536870912,rat (c.f i).d 536870912],int i64 (↑c.m:Int),int i64 (0:Int)],[((32768:Nat),ak.mk false true 3 1 fun j↦if(j==0)=true then bH (agg ((c1.kids.set 0 (bH (int i64 c.p))).set 1 (bH (bM (fun i↦aZ (rat (c.k i) sK)) c.n c3))))else c1),((4096:Nat),ak.mk false true 3 1 fun x↦c1)])))):=by kernel_rfl
theorem Yy {c:Cu} {i:Nat}:aJ T xE [16] 60 rD [part ru [1,1,0,1,0,0]] ⟨aD rD (AW c i),B6 c i,3⟩=
  let c11:Int:=(↑c.m:Int);let c10:AV:=own 2 12 0 i;let c9:AV:=ptr 1 0 3 0 [];let c8:AV:=ptr 0 0 3 0 [];let c7:Prop:=0<1;let c6:Int:=(↑i:Int);let c5:AV:=rat 0 1;let c4:Nat×ak:=((0:Nat),ak.mk false true 3 1 fun x↦agg [int i64 (0:Int),nil,nil]);let c1:AV:=aq 12 c.m fun i↦agg [rat (c.f i).n.x 536870912,rat (c.f i).n.y 536870912,rat (c.f i).n.z 536870912,rat (c.f i).d 536870912];let c12:Int:=c6+(1:Int);let c3:AV:=agg [int i64 c.p,bM c.k c.n (sK+10),c10];let c2:Pl:=c.f c6.toNat;some (fork (decide (c6<c11)) (ag [(0:Int)≤c6∧c6.toNat<c.m,c7] (ag [c7,c7,sB≤sB,sB≤sB,sB≤sB,sB≤sB,(1:Nat)*12≤2^24,(i+1)*((224:Nat)+1)*2≤2^47,c7] (ag [-(2:Int)^63≤c12∧c12<(2:Int)^63] (leaf normal ([c8,c9,c1,int i64 c11,int i64 c12],[((40963:Nat),ak.mk true true 12 (i+1) fun i_1↦if i_1<i then cz (gD (c.f i_1)) (sB+sB)else nth [agg [agg [rat (c2.n.x/c2.d) (sB+sB),rat (c2.n.y/c2.d) (sB+sB),rat (c2.n.z/c2.d) (sB+sB)],rat c2.d (sB+sB)]] (agg [agg [c5,c5,c5],c5]) (i_1-i+0)),((1:Nat),ak.mk false true 3 1 fun j↦if(j==0)=true then agg (c3.kids.set 2 (bH (own (nat_lit 40962+1) 12 0 (i+1))))else c3),c4]))))) (leaf (exit 0) ([c8,c9,c1,int i64 c11,int i64 c6],[((2:Nat),ak.mk true true 12 i fun j↦agg [agg [rat ((c.f j).n.x/(c.f j).d) 1073741824,rat ((c.f j).n.y/(c.f j).d) 1073741824,rat ((c.f j).n.z/(c.f j).d) 1073741824],rat (c.f j).d 1073741824]),((1:Nat),ak.mk false true 3 1 fun x↦agg [int i64 c.p,aq 3 c.n fun i↦rat (c.k i) 4106,c10]),c4]))):=by kernel_rfl
theorem KW {c:Cu} {i:Nat}:b7 T xE [] 60 vc [part ru [1,1,1]] ⟨aD rD (AW c i),B6 c i,3⟩=
  let c1:Prop:=0<1;some (ag [c1,c1] (ag [c1] (leaf ret [agg [int i64 c.p,aq 3 c.n fun i↦rat (c.k i) 4106,aq 12 i fun i↦agg [agg [rat ((c.f (i+0)).n.x/(c.f (i+0)).d) 1073741824,rat ((c.f (i+0)).n.y/(c.f (i+0)).d) 1073741824,rat ((c.f (i+0)).n.z/(c.f (i+0)).d) 1073741824],rat (c.f (i+0)).d 1073741824]]]))):=by kernel_rfl
theorem Hl {k:Nat→Rat} {n:Nat}:∀{f i:Nat},i<n→pB k n f i<n
 |0,_,h=>h
 |f+1,i,h=>by
  unfold pB
  split
  ·exact Hl (by omega)
  ·exact h
theorem Ld {k:Nat→Rat} {n i:Nat} (h:i<n):fu k n i<n:=Hl h
theorem L6 {n p:Nat} {k:Nat→Rat} (h:Kn n p k) {t:Rat}:gT n k t<n:=by
 have hl:=h.len
 unfold gT
 split
 ·omega
 ·have:=h.AZ ‹_›
  omega
theorem JC:bp P xd:=dN (aK yu (aK Po (aK HP (aK Wz gM))))
theorem Vf {c:Cu} {n:Nat} {k:Nat→Rat} (hk:Kn c.n c.p.toNat c.k) (hp1:1≤c.p) (hp6:c.p≤6) (hn:c.n<2^40) (hm2:c.m<2^40) (hn2:n<2^29) (hpn:c.p+1≤n) (K:Nat):aB P tK K [eJ c sK sK,ls k n] [] (aG (eJ (wY c n k) sK sB) []):=by
 obtain⟨q,hq⟩:∃q,q=c.p.toNat:=⟨_,rfl⟩
 have hqp:c.p=(q:Int):=by omega
 refine gJ (r:=aG (eJ (wY c n k) sK sB) []) hT JC hm Ll rfl (of_decide_eq_true (by kernel_rfl)) rfl [1,1,0,1] (i:=0) (y:=part vG [1,1,0,1,0,0]) (z:=part vG [1,1,1]) (by kernel_rfl) (by kernel_rfl) (by kernel_rfl) (f1:=[]) (f2:=[19]) (f3:=[]) 60 td 4
  (fun j:Nat=>B9 n (n-c.p.toNat-1) k j) (fun j=>Bd c n k (wL c n k) j) (fun j=>j≤n-c.p.toNat-1) (fun j=>j=n-c.p.toNat-1) (fun j=>n-c.p.toNat-1-j) (fun _=>⟨⟨_,Ji,?_⟩,fun j hj=>⟨_,N3,?_⟩,fun j hj=>⟨_,KP,?_⟩⟩) K []
 ·have e1:(n:Int)-c.p-1=((n-c.p.toNat-1:Nat):Int):=by omega
  simp only[aa.all,az,e1]
  exact⟨⟨by omega,by omega⟩,⟨by omega,dc (Nat.le_refl _),by omega,by omega,by omega⟩,0,Nat.zero_le _,[(0,0),(1,4096),(2,24576)],rfl,rfl,rfl,wK rfl (by omega) (by omega) (bk rfl rfl (pD ⟨⟨rfl,aF rfl⟩,⟨rfl,aF rfl⟩,⟨rfl,sy (by omega)⟩,trivial⟩) (bk rfl rfl (aP rfl rfl) (bk rfl rfl (aP rfl rfl) trivial)))⟩
 ·have e1:((j:Int)+1).toNat=j+1:=by omega
  have e2:((j:Int)+c.p+1).toNat=j+q+1:=by omega
  have e3:j+q+1-(j+1)=q:=by omega
  simp only[aa.all,az,decide_eq_true_eq,decide_eq_false_iff_not,Int.toNat_natCast,e1,e2,e3,Nat.add_zero]
  have h7:fu (fun i=>aZ (rat (k i) sK)) n j=fu k n j:=rfl
  have h8:∀t,gT c.n (fun i=>aZ (rat (c.k i) sK)) t=gT c.n c.k t:=fun _=>rfl
  simp only[h7,h8]
  refine⟨fun h=>?_,fun h=>⟨rfl,j,by omega,[(0,0),(1,1),(2,2),(3,3)],rfl,rfl,rfl,bF rfl rfl rfl (fun _ _=>aP rfl rfl) (bk rfl rfl (qd rfl rfl rfl) (bk rfl rfl (aP rfl rfl) (bk rfl rfl (aP rfl rfl) trivial)))⟩⟩
  have h1:=Ld (k:=k) (n:=n) (i:=j) (by omega)
  have h2:=L6 hk (t:=k (fu k n j))
  (repeat' with_reducible refine And.intro ?_ ?_)
  all_goals first|omega|exact dc (Nat.le_refl _)|exact hk|exact fun _ _=>.refl _|skip
  refine⟨j+1,by omega,by dsimp only;omega,[(0,0),(1,1),(2,2),(3,147460)],rfl,rfl,rfl,bF rfl rfl rfl (fun j' hj'=>BJ (g:=fun j=>cP (wL c n k j) sB) (fun _ _=>⟨rfl,rfl⟩) rfl ?_ hj') (bk rfl rfl (qd rfl rfl rfl) (bk rfl rfl (aP rfl rfl) (bk rfl rfl (aP rfl rfl) trivial)))⟩
  exact wo (h:=nM c (gT c.n c.k (k (fu k n j))) q (fun q=>k (q+(j+1)))) (by unfold wL;rw[hq]) (Nat.le_refl _)
 ·subst hj
  simp only[aa.all,az]
  exact⟨⟨by omega,by omega⟩,by omega,.refl _⟩
theorem W1:∀K args pre r,Dk K args pre=some r→aB P tK K args pre r:=cZ fun⟨c,⟨n,k⟩,_⟩ K hn=>Vf hn.1 hn.2.1 hn.2.2.1 hn.2.2.2.1 hn.2.2.2.2.1 hn.2.2.2.2.2.1 hn.2.2.2.2.2.2 K
theorem Xv:bp P Fx:=dN (aK (Pj (by decide) (by decide)) (aK W1 br))
noncomputable def Cr:Spec:=cS (kC (qP 2000 4000) (kC (jo 2000) kN)) (fun a=>eJ (uu a.1 a.2.1) sK sB) fun a=>[Kn a.1.n a.1.p.toNat a.1.k,1≤a.1.p,a.1.p≤6,a.1.n<2^28,a.1.m<2^40]
theorem VL:∀K args pre r,Cr K args pre=some r→aB P xo K args pre r:=cZ fun⟨c,t,_⟩ K hn=>by
 obtain⟨h1,h2,h3,h4,h5⟩:Kn c.n c.p.toNat c.k∧1≤c.p∧c.p≤6∧c.n<2^28∧c.m<2^40:=hn
 have hl:=h1.len
 refine bE (r:=aG (eJ (uu c t) sK sB) []) hT Xv hm Xq rfl (of_decide_eq_true (by kernel_rfl)) rfl 60 K0 (fun _=>?_) K []
 simp only[aa.all,az]
 (repeat' with_reducible refine And.intro ?_ ?_)
 all_goals first|omega|exact dc (by decide)|exact h1|exact Et (by decide)|skip
 exact .refl _
theorem Zh:∀K args pre r,HX K args pre=some r→aB P nk K args pre r:=cZ fun⟨h,_⟩ K _=>H8 (by decide) (by decide) (by decide) K
theorem Ti:bp P xE:=dN (aK (Wa _ _) (aK Zh br))
theorem J5 {c:Cu} (hn:c.n<2^40) (hm2:c.m<2^29) (K:Nat):aB P tN K [eJ c sK sB] [] (aG (eM ⟨c.p,c.n,c.k,c.m,fun i=>gD (c.f i)⟩ (sK+10) (sB+sB)) []):=by
 refine gJ (r:=aG (eM ⟨c.p,c.n,c.k,c.m,fun i=>gD (c.f i)⟩ (sK+10) (sB+sB)) []) hT Ti hm Ts rfl (of_decide_eq_true (by kernel_rfl)) rfl [1,1,0,1] (i:=0) (y:=part ru [1,1,0,1,0,0]) (z:=part ru [1,1,1]) (by kernel_rfl) (by kernel_rfl) (by kernel_rfl) (f1:=[]) (f2:=[16]) (f3:=[]) 60 rD 3
  (fun i:Nat=>AW c i) (fun i=>B6 c i) (fun i=>i≤c.m) (fun i=>i=c.m) (fun i=>c.m-i) (fun _=>⟨⟨_,UC,?_⟩,fun i hi=>⟨_,Yy,?_⟩,fun i hi=>⟨_,KW,?_⟩⟩) K []
 ·simp only[aa.all,az]
  exact⟨⟨by omega,by omega,dc (Nat.le_refl _),by omega,by decide,by omega,by omega⟩,by omega,0,Nat.zero_le _,[(0,4096),(1,32768)],rfl,rfl,rfl,wK rfl (by omega) (by omega) (bk rfl rfl (pD ⟨⟨rfl,aF rfl⟩,⟨rfl,aF rfl⟩,⟨rfl,sy (by omega)⟩,trivial⟩) (bk rfl rfl (aP rfl rfl) trivial))⟩
 ·simp only[aa.all,az,decide_eq_true_eq,decide_eq_false_iff_not,Int.toNat_natCast,Nat.add_zero]
  refine⟨fun h=>?_,fun h=>⟨rfl,i,by omega,[(0,0),(1,1),(2,2)],rfl,rfl,rfl,bF rfl rfl rfl (fun _ _=>aP rfl rfl) (bk rfl rfl (qd rfl rfl rfl) (bk rfl rfl (aP rfl rfl) trivial))⟩⟩
  (repeat' with_reducible refine And.intro ?_ ?_)
  all_goals first|omega|exact Nat.le_refl _|skip
  exact⟨i+1,by omega,by dsimp only;omega,[(0,0),(1,1),(2,40963)],rfl,rfl,rfl,bF rfl rfl rfl (fun j hj=>BJ (g:=fun j=>cz (gD (c.f j)) (sB+sB)) (fun _ _=>⟨rfl,rfl⟩) rfl (.refl _) hj) (bk rfl rfl (qd rfl rfl rfl) (bk rfl rfl (aP rfl rfl) trivial))⟩
 ·subst hi
  simp only[aa.all,az]
  exact⟨⟨by omega,by omega⟩,by omega,.refl _⟩
def D9:Spec:=cS (kC (qP sK sB) kN) (fun a=>eM ⟨a.1.p,a.1.n,a.1.k,a.1.m,fun i=>gD (a.1.f i)⟩ (sK+10) (sB+sB)) fun a=>[a.1.n<2^40,a.1.m<2^29]
theorem Vy:∀K args pre r,D9 K args pre=some r→aB P tN K args pre r:=cZ fun⟨c,_⟩ K hn=>J5 hn.1 hn.2 K
end Go.Am.B

/- curve.inner, curve.Insert. -/
namespace Go.Am.B
open Go Go.Am.N AV aa ah IntKind
theorem Om:aN P xW tq (au tq):=aO JP (by kernel_rfl) (by kernel_rfl) (by kernel_rfl)
theorem JH:aN P qX tM (au tM):=aO R9 (by kernel_rfl) (by kernel_rfl) (by kernel_rfl)
noncomputable def HH:aT:=nG::(oP,wF)::fN
def Gw:Spec:=cS (kC (kV 2000 2000) (kC (jo 2000) kN)) (fun a=>.bool (decide (a.1.k 0<a.2.1)&&decide (a.2.1<a.1.k (a.1.n-1)))) fun a=>[ek a.1]
def EN:Spec:=cS (kC (kV 2000 2000) kN) (fun a=>eJ ⟨a.1.p,a.1.n,a.1.k,a.1.m,fun i=>gQ (a.1.f i)⟩ 2000 4000) fun a=>[a.1.n<2^40,a.1.m<2^30]
noncomputable def Ed:aT:=nG::(xW,Gw)::(oA,A6)::(nC,EN)::(xo,Cr)::(tN,D9)::[]
def gl (c:Cu) (t:Rat):Int:=if¬(c.k 0<t∧t<c.k (c.n-1))then 7 else if c.p≤(de c.k t c.n:Int)then 5 else if 40≤c.m then 2 else 0
def yy (c:Cu) (t:Rat):Cu:=⟨c.p,c.n+1,fG c.k t (eo c.k t c.n),c.n+1-c.p.toNat-1,fun i=>gD ((uu ⟨c.p,c.n,c.k,c.m,fun i=>gQ (c.f i)⟩ t).f i)⟩
def o7:Cu:=⟨0,0,fun _=>0,0,fun _=>⟨⟨0,0,0⟩,0⟩⟩
def kX (c:Cu) (t:Rat):Cu:=if gl c t=0 then yy c t else o7
theorem KH {c:Cu} {t:Rat}:bu T HH [16] 60 tq (au tq) ⟨aM 0 [eM c 2000 2000,.rat t 2000],[],0⟩=
  let c9:Prop:=gO (fun i↦cz (c.f i) 2000) c.m sJ;let c8:Prop:=cj (fun i↦rat (c.k i) 2000) c.n sJ;let c7:Prop:=(0:Int)≤(0:Int)∧Int.toNat (0:Int)<c.n;let c5:Prop:=ek (Cu.mk c.p c.n (fun i↦aZ (rat (c.k i) 2000)) c.m fun i↦ic (cz (c.f i) 2000));let c4:Int:=(↑c.n:Int)-(1:Int);let c3:Prop:=0<1;let c2:Int:=dS (c.k (Int.toNat (0:Int))) t;let c1:Prop:=2000<2^42;let c6:Bool:=bif true then decide (c2<(0:Int))else false;some (fork c6 (ag [c3,c8,c9,c5,c3,c7,c3,c1,c1,c6=true,c3,c3,c3,-(2:Int)^63≤c4∧c4<(2:Int)^63,(0:Int)≤c4∧c4.toNat<c.n,c1,c1] (leaf ret [AV.bool (bif true then decide (dS t (c.k c4.toNat)<(0:Int))else false)])) (ag [c3,c8,c9,c5,c3,c7,c3,c1,c1,c6=false] (leaf ret [AV.bool false]))):=by kernel_rfl
theorem NN {c:Cu} {t:Rat}:bu T Ed [6,12,21] 60 tM (au tM) ⟨aM 0 [eM c 2000 2000,.rat t 2000],[],0⟩=
  let no:Int→aa (List AV):=fun e=>ag [0<1] (ag [0<1] (leaf .ret [.agg [.int .i64 0,.nil,.nil],.int .i64 e]));let k:Prop:=cj (fun i=>.rat (c.k i) 2000) c.n 2000;let f:Prop:=gO (fun i=>cz (c.f i) 2000) c.m 2000
  some (ag [0<1,0<1,k,f,2000≤2000,ek c] (fork (!(decide (c.k 0<t)&&decide (t<c.k (c.n-1)))) (no 7) (ag [0<1,0<1,cj (fun i=>.rat (c.k i) 2000) c.n sK,2000≤sK,c.n<2^40,0<1] (fork (decide ((de c.k t c.n:Int)≥c.p)) (no 5) (ag [0<1] (fork (decide ((c.m:Int)≥40)) (no 2)
   (ag [0<1,k,f,c.n<2^40,c.m<2^30,0<1,k,me (fun i=>cP (gQ (c.f i)) 4000) c.m 4000,2000≤2000,Kn c.n c.p.toNat c.k,1≤c.p,c.p≤6,c.n<2^28,c.m<2^40,cj (fun i=>.rat (fG c.k t (eo c.k t c.n) i) sK) (c.n+1) sK,me (fun i=>cP ((uu ⟨c.p,c.n,c.k,c.m,fun i=>gQ (c.f i)⟩ t).f i) sB) (c.n+1-c.p.toNat-1) sB,c.n+1<2^40,c.n+1-c.p.toNat-1<2^29,0<1] (ag [0<1] (leaf .ret [eM (yy c t) (sK+10) (sB+sB),.int .i64 0]))))))))):=by kernel_rfl
theorem Pc:bp P HH:=dN (aK B0 gM)
theorem Mk {a b:Rat}:dS a b<(0:Int)↔a<b:=lG
theorem JD:∀K args pre r,Gw K args pre=some r→aB P xW K args pre r:=cZ fun⟨c,t,_⟩ K hn=>by
 have hc:ek c:=hn
 obtain⟨h1,h2,h3,h4,h5⟩:=id hc
 have hl:=h1.len
 refine bE (r:=aG (.bool (decide (c.k 0<t)&&decide (t<c.k (c.n-1)))) []) hT Pc hm Om rfl (of_decide_eq_true (by kernel_rfl)) rfl 60 KH (fun _=>?_) K []
 have e1:((c.n:Int)-1).toNat=c.n-1:=by omega
 simp only[aa.all,az,e1,Int.toNat_zero,cond_true,cond_false,decide_eq_true_eq,decide_eq_false_iff_not,Mk]
 refine⟨fun h=>?_,fun h=>?_⟩
 ·(repeat' with_reducible refine And.intro ?_ ?_)
  all_goals first|omega|exact dc (by decide)|exact iC (by decide)|exact hc|exact h|decide|skip
  exact eI (by rw[decide_eq_true h,Bool.true_and])
 ·(repeat' with_reducible refine And.intro ?_ ?_)
  all_goals first|omega|exact dc (by decide)|exact iC (by decide)|exact hc|exact h|decide|skip
  exact eI (by rw[decide_eq_false h,Bool.false_and])
theorem YT:∀K args pre r,EN K args pre=some r→aB P nC K args pre r:=cZ fun⟨c,_⟩ K hn=>Iw (by decide) (by decide) (by decide) hn.1 hn.2 K
theorem NP:bp P Ed:=dN (aK JD (aK Dz (aK YT (aK VL (aK Vy br)))))
theorem H9 {x y:Nat}:bt (.agg [.int .i64 0,.nil,.nil]) (eM o7 x y):=dJ ⟨.refl _,iT (by decide),iT (by decide),trivial⟩
def zC:Spec:=cS (kC (kV 2000 2000) (kC (jo 2000) kN)) (fun a=>.tuple [eM (kX a.1 a.2.1) (sK+10) (sB+sB),.int .i64 (gl a.1 a.2.1)]) fun a=>[ek a.1]
theorem EH:∀K args pre r,zC K args pre=some r→aB P qX K args pre r:=cZ fun⟨c,t,_⟩ K hn=>by
 have hc:ek c:=hn
 obtain⟨h1,h2,h3,h4,h5⟩:=id hc
 have hl:=h1.len
 refine bE (r:=aG (.tuple [eM (kX c t) (sK+10) (sB+sB),.int .i64 (gl c t)]) []) hT NP hm JH rfl (of_decide_eq_true (by kernel_rfl)) rfl 60 NN (fun _=>?_) K []
 have no:∀{e:Int},gl c t=e→e≠0→dY [.agg [.int .i64 0,.nil,.nil],.int .i64 e] (.tuple [eM (kX c t) (sK+10) (sB+sB),.int .i64 (gl c t)]):=fun {e} he h0=>by
  refine⟨?_,bh he.symm,trivial⟩
  rw[show kX c t=o7 from if_neg (by rw[he];exact h0)]
  exact H9
 simp only[aa.all,az,decide_eq_true_eq,decide_eq_false_iff_not,Bool.not_eq_true',Bool.not_eq_false',Bool.and_eq_true,Bool.and_eq_false_iff]
 refine⟨⟨by omega,by omega,dc (Nat.le_refl _),iC (Nat.le_refl _),Nat.le_refl _,hc⟩,fun ho=>⟨by omega,by omega,no ?_ (by decide)⟩,fun hi=>⟨?_,fun h6=>⟨by omega,by omega,no ?_ (by decide)⟩,fun h6=>⟨by omega,fun h7=>⟨by omega,by omega,no ?_ (by decide)⟩,fun h7=>⟨?_,by omega,?_⟩⟩⟩⟩
 ·unfold gl;rw[if_pos fun h=>ho.elim (fun g=>g h.1) fun g=>g h.2]
 ·exact⟨by omega,by omega,dc (by decide),by decide,by omega,by omega⟩
 ·unfold gl;rw[if_neg (fun g=>g hi),if_pos h6]
 ·unfold gl;rw[if_neg (fun g=>g hi),if_neg h6,if_pos (by omega)]
 ·(repeat' with_reducible refine And.intro ?_ ?_)
  all_goals first|omega|exact dc (by decide)|exact iC (Nat.le_refl _)|exact Et (Nat.le_refl _)|exact h1|exact Nat.le_refl _|skip
 ·have he:gl c t=0:=by unfold gl;rw[if_neg (fun g=>g hi),if_neg h6,if_neg (by omega)]
  refine⟨?_,bh he.symm,trivial⟩
  rw[show kX c t=yy c t from if_pos he]
  exact .refl _
end Go.Am.B

/- rational.Valid, rational.Bits; the closures of curve.Check; slices.Clone, curve.numbers, curve.Check. -/
namespace Go.Am.B
open Go Go.Am.N AV aa ah IntKind
theorem LV:aN P r8 rm (au rm):=aO Sm (by kernel_rfl) (by kernel_rfl) (by kernel_rfl)
theorem Zt:aN P qV rW (au rW):=aO Vs (by kernel_rfl) (by kernel_rfl) (by kernel_rfl)
theorem La:aN P rJ rq (au rq):=aO Vv (by kernel_rfl) (by kernel_rfl) (by kernel_rfl)
theorem XM:aN P oQ xk (au xk):=aO JO (by kernel_rfl) (by kernel_rfl) (by kernel_rfl)
theorem Nn:aN P gu vD (au vD):=aO Qw (by kernel_rfl) (by kernel_rfl) (by kernel_rfl)
theorem Kc:aN P eZ qE (au qE):=aO P6 (by kernel_rfl) (by kernel_rfl) (by kernel_rfl)
theorem T0:aN P fV vM (au vM):=aO Yw (by kernel_rfl) (by kernel_rfl) (by kernel_rfl)
theorem DQ:aN P uk vg (au vg):=aO Pm (by kernel_rfl) (by kernel_rfl) (by kernel_rfl)
theorem Tp:aN P qT s8 (au s8):=aO Xi (by kernel_rfl) (by kernel_rfl) (by kernel_rfl)
theorem YD:aN P xL uJ (au uJ):=aO Od (by kernel_rfl) (by kernel_rfl) (by kernel_rfl)
theorem YO:aN P wO rY (au rY):=aO LA (by kernel_rfl) (by kernel_rfl) (by kernel_rfl)
theorem Zp:aN P ug tY (au tY):=aO Y4 (by kernel_rfl) (by kernel_rfl) (by kernel_rfl)
theorem JQ:aN P vQ vP (au vP):=aO Oy (by kernel_rfl) (by kernel_rfl) (by kernel_rfl)
def GJ:Spec:=bq fun l=>match l with
 |[.mag N]=>some (aG (.bool true) [nl N<2^40])
 |_=>none
def yV:aT:=nG::(r8,GJ)::(pI,bq (jb BG))::(pL,bq (fI AS))::(p7,Bb)::[]
def Cb:Spec:=bq fun l=>match l with
 |[.rat q n]=>some (aG (.bool true) [n<2^44])
 |_=>none
def Cj:Spec:=bq fun l=>match l with
 |[.rat q n]=>some (aG (.int .i64 (bV q:Nat)) [n<2^44])
 |_=>none
def wH:Spec:=bq fun l=>match l with
 |[.rat q n]=>some (aG (.bool false) [n≤2048])
 |_=>none
def yo:aT:=nG::(qV,Cb)::(rJ,Cj)::fN
def Lz (s:Nat):Kind Pl:=⟨fun v=>match yO v with
 |some (a,q)=>some (a.1,q++[a.2≤s])
 |none=>none,fun a=>cz a s,fun {v a q} h hq=>by
  split at h
  ·rename_i b q' hb
   simp only[Option.some.injEq,Prod.mk.injEq]at h
   obtain⟨rfl,rfl⟩:=h
   obtain⟨q1,q2⟩:=dA.1 hq
   refine bt.trans (XU.ok hb q1) ?_
   show bt (cz b.1 b.2) (cz b.1 s)
   exact dJ ⟨dJ ⟨en q2,en q2,en q2,trivial⟩,en q2,trivial⟩
  ·simp at h⟩
def He:Spec:=cS (kC (Lz 2048) kN) (fun _=>.bool false) fun a=>[0<a.1.d]
def wP:Kind FuncId:=⟨fun v=>match v with
 |.func f []=>some (f,[])
 |_=>none,fun g=>.func g [],fun {v a q} h _=>by
  split at h
  ·simp only[Option.some.injEq,Prod.mk.injEq]at h
   obtain⟨rfl,rfl⟩:=h
   exact .refl _
  ·simp at h⟩
noncomputable def GX:aT:=nG::(gu,wH)::(fV,wH)::(eZ,He)::[]
abbrev iH:List Nat:=[4,0,1,7,8]
abbrev tJ (n i:Nat) (k:Nat→Rat) (g:FuncId):List AV:=[.int .i64 0,bM k n 2048,.func g [],.int .i64 n,.int .i64 i]
abbrev zF (n i:Nat) (f:Nat→Pl) (g:FuncId):List AV:=[.int .i64 0,kB f n 2048,.func g [],.int .i64 n,.int .i64 i]
noncomputable abbrev mw:Code:=au vg
noncomputable abbrev uX:Code:=au s8
noncomputable def Fq:Spec:=cS (kC (kL 2048) (kC wP kN)) (fun _=>.int .i64 (-1)) fun a=>[a.1.1<2^40,a.2.1=gu∨a.2.1=fV]
noncomputable def D1:Spec:=cS (kC (kL 2048) (kC wP kN)) (fun _=>.bool false) fun a=>[a.1.1<2^40,a.2.1=gu∨a.2.1=fV]
noncomputable def GY:aT:=nG::(uk,Fq)::[]
def En:Spec:=qU fun K l=>match l with
 |[v]=>match(kL 2048).read v with
  |some ((n,k),q)=>some ⟨.own K 3 0 n,[(K,⟨true,true,3,n,fun i=>.rat (k i) 2048⟩)],q++[1≤n,n<2^30]⟩
  |none=>none
 |_=>none
def iG (c:Cu) (j:Nat):Rat:=if j<c.n then c.k j else lJ (c.f ((j-c.n)/4)) ((j-c.n)%4)
def wU:aT:=nG::(oQ,En)::[]
abbrev qy:List Nat:=[2,3,10,11,12]
abbrev A9 (c:Cu) (i:Nat):List AV:=[.nil,.own 0 3 0 (c.n+4*i),kB c.f c.m 2048,.int .i64 c.m,.int .i64 i]
abbrev By (c:Cu) (i:Nat):aA:=[(0,⟨true,true,3,c.n+4*i,fun j=>.rat (iG c j) 2048⟩)]
noncomputable abbrev s5:Code:=au tY
def Ia:Spec:=cS (kC (kV 2048 2048) kN) (fun a=>bM (iG a.1) (a.1.n+4*a.1.m) 2048) fun a=>[1≤a.1.n,a.1.n<2^30,a.1.m<2^28]
theorem Ud {N:Nat}:bu T [nG] [6] 60 rm (au rm) ⟨aM 0 [.mag N],[],0⟩=
  let c2:Bool:=(↑(nl N):Int)==(0:Int);let c1:Int:=(↑(nl N):Int)-(1:Int);some (fork c2 (ag [c2=true] (leaf ret [AV.bool true])) (ag [c2=false,-(2:Int)^63≤c1∧c1<(2:Int)^63,(0:Int)≤c1∧c1.toNat<nl N] (leaf ret [AV.bool (bif false then true else(↑(ay N c1.toNat):Int)!=(0:Int))]))):=by kernel_rfl
theorem Sv {q:Rat} {n:Nat}:bu T yV [18,25,29,33,43] 60 rW (au rW) ⟨aM 0 [.rat q n],[],0⟩=
  let c9:aa (List AV):=leaf ret [AV.bool false];let c7:Bool:=!decide (q<0);let c6:Nat:=q.num.natAbs;let c4:Nat:=2^40;let c3:Prop:=0<1;let c2:Nat:=if q.den=1 then 0 else q.den;let c5:Int:=(↑(nl c2):Int);let c10:Bool:=c5==(1:Int);let c8:Bool:=c5==(0:Int);let c1:aa (List AV):=ag [c3] (fork ((↑(nl c6):Int)==(0:Int)) (fork c7 (ag [c3,c7=true,c3] (leaf ret [AV.bool (bif true then c8 else false)])) (ag [c3,c7=false] c9)) (fork c8 (ag [c3,c8=true] (leaf ret [AV.bool true])) (ag [c3,c8=false,c3,c3,nl c6<c4,nl c2<c4,nl (c6.gcd c2)<c4] (leaf ret [AV.bool (bif false then true else(↑(aY (c6.gcd c2)):Int)==(1:Int))]))));some (fork c10 (ag [c3,nl c6<c4,c3,nl c2<c4,c3,c10=true,c3,(0:Int)≤(0:Int)∧Int.toNat (0:Int)<nl c2] (fork (bif bif !true then true else !true then true else bif true then(↑(ay c2 (Int.toNat (0:Int))):Int)==(1:Int)else false) c9 c1)) (ag [c3,nl c6<c4,c3,nl c2<c4,c3,c10=false] (fork false c9 c1))):=by kernel_rfl
theorem Vo {q:Rat} {n:Nat}:bu T yV [] 60 rq (au rq) ⟨aM 0 [.rat q n],[],0⟩=
  let c2:Int:=(↑(aY q.den):Int);let c1:Int:=(↑(aY q.num.natAbs):Int);some (ag [(0:Nat)<1,nl q.num.natAbs<2^40,(0:Nat)<1,nl q.den<2^40] (leaf ret [int i64 (if c1<c2 then c2 else c1)])):=by kernel_rfl
theorem VV {q:Rat} {n:Nat}:bu T yo [] 60 vD (au vD) ⟨aM 0 [.rat q n],[],0⟩=
  some (ag [(0:Nat)<1,n<2^44] (leaf ret [AV.bool false])):=by kernel_rfl
theorem LZ {q:Rat} {n:Nat}:bu T yo [] 60 vM (au vM) ⟨aM 0 [.rat q n],[],0⟩=
  some (ag [(0:Nat)<1,n<2^44] (leaf ret [AV.bool (decide ((↑(bV q):Int)>(2048:Int)))])):=by kernel_rfl
theorem On {p:Pl}:bu T yo [] 60 qE (au qE) ⟨aM 0 [cz p 2048],[],0⟩=
  some (ag [(0:Nat)<1,(2048:Nat)<2^42] (leaf ret [AV.bool (decide (dx p.d≤(0:Int)))])):=by kernel_rfl
theorem WB {n s:Nat} {k:Nat→Rat}:aJ T [nG] [] 60 [2] [au xk] ⟨aM 0 [.cE false 3 n (fun i=>.rat (k i) s)],[],0⟩=
  some (ag [(0:Nat)*3≤2^24,((0:Nat)+n)*((56:Nat)+1)*2≤2^47] (leaf ret ([own 20480 3 0 ((0:Nat)+n)],[((20480:Nat),ak.mk true true 3 ((0:Nat)+n) fun i↦rat (k (i-0)) s)]))):=by kernel_rfl
theorem F7 {n:Nat} {k:Nat→Rat} {g:FuncId}:aJ T GX [] 60 iH (before mw [1,0,1]) ⟨aM 0 [bM k n 2048,.func g []],[],0⟩=
  some (leaf normal ([int i64 (0:Int),aq 3 n fun i↦rat (k i) 2048,func g [],int i64 (↑n:Int),int i64 (0:Int)],[])):=by kernel_rfl
theorem XR {n i:Nat} {k:Nat→Rat}:aJ T GX [9] 60 iH [part mw [1,0,1,0,0]] ⟨aD iH (tJ n i k gu),[],0⟩=
  let c4:Int:=(↑n:Int);let c2:AV:=aq 3 n fun i↦rat (k i) 2048;let c1:Int:=(↑i:Int);let c3:Int:=c1+(1:Int);some (fork (decide (c1<c4)) (ag [(0:Int)≤c1∧c1.toNat<n,(2048:Nat)≤2048] (ag [-(2:Int)^63≤c3∧c3<(2:Int)^63] (leaf normal ([int i64 (0:Int),c2,func gu [],int i64 c4,int i64 c3],[])))) (leaf (exit 0) ([int i64 (0:Int),c2,func gu [],int i64 c4,int i64 c1],[]))):=by kernel_rfl
theorem UA {n i:Nat} {k:Nat→Rat}:aJ T GX [9] 60 iH [part mw [1,0,1,0,0]] ⟨aD iH (tJ n i k fV),[],0⟩=
  let c4:Int:=(↑n:Int);let c2:AV:=aq 3 n fun i↦rat (k i) 2048;let c1:Int:=(↑i:Int);let c3:Int:=c1+(1:Int);some (fork (decide (c1<c4)) (ag [(0:Int)≤c1∧c1.toNat<n,(2048:Nat)≤2048] (ag [-(2:Int)^63≤c3∧c3<(2:Int)^63] (leaf normal ([int i64 (0:Int),c2,func fV [],int i64 c4,int i64 c3],[])))) (leaf (exit 0) ([int i64 (0:Int),c2,func fV [],int i64 c4,int i64 c1],[]))):=by kernel_rfl
theorem C0 {n i:Nat} {k:Nat→Rat} {g:FuncId}:b7 T GX [] 60 vg [part mw [1,1]] ⟨aD iH (tJ n i k g),[],0⟩=
  some (leaf ret [int i64 (-1:Int)]):=by kernel_rfl
theorem OR {n:Nat} {f:Nat→Pl}:aJ T GX [] 60 iH (before uX [1,0,1]) ⟨aM 0 [kB f n 2048,.func eZ []],[],0⟩=
  some (leaf normal ([int i64 (0:Int),aq 12 n fun i↦agg [agg [rat (f i).n.x 2048,rat (f i).n.y 2048,rat (f i).n.z 2048],rat (f i).d 2048],func eZ [],int i64 (↑n:Int),int i64 (0:Int)],[])):=by kernel_rfl
theorem OZ {n i:Nat} {f:Nat→Pl}:aJ T GX [9] 60 iH [part uX [1,0,1,0,0]] ⟨aD iH (zF n i f eZ),[],0⟩=
  let c5:Int:=(↑n:Int);let c3:Prop:=2048≤2048;let c2:Int:=(↑i:Int);let c1:AV:=aq 12 n fun i↦agg [agg [rat (f i).n.x 2048,rat (f i).n.y 2048,rat (f i).n.z 2048],rat (f i).d 2048];let c4:Int:=c2+(1:Int);some (fork (decide (c2<c5)) (ag [(0:Int)≤c2∧c2.toNat<n,c3,c3,Max.max 2048 2048≤2048,(0:Rat)<(f c2.toNat).d] (ag [-(2:Int)^63≤c4∧c4<(2:Int)^63] (leaf normal ([int i64 (0:Int),c1,func eZ [],int i64 c5,int i64 c4],[])))) (leaf (exit 0) ([int i64 (0:Int),c1,func eZ [],int i64 c5,int i64 c2],[]))):=by kernel_rfl
theorem NR {n i:Nat} {f:Nat→Pl}:b7 T GX [] 60 s8 [part uX [1,1]] ⟨aD iH (zF n i f eZ),[],0⟩=
  some (leaf ret [int i64 (-1:Int)]):=by kernel_rfl
theorem I7 {n:Nat} {k:Nat→Rat} {g:FuncId}:bu T GY [] 60 uJ (au uJ) ⟨aM 0 [bM k n 2048,.func g []],[],0⟩=
  some (ag [cj (fun i↦rat (k i) 2048) n 2048,n<2^40,g=gu∨g=fV] (leaf ret [AV.bool false])):=by kernel_rfl
theorem Sh {c:Cu}:aJ T wU [] 60 qy (before s5 [1,1,0,1]) ⟨aM 0 [eM c 2048 2048],[],0⟩=
  some (ag [(0:Nat)<1,cj (fun i↦rat (c.k i) 2048) c.n 2048,(1:Nat)≤c.n,c.n<2^30] (ag [(0:Nat)<1] (leaf normal ([nil,own 16384 3 0 c.n,aq 12 c.m fun i↦agg [agg [rat (c.f i).n.x 2048,rat (c.f i).n.y 2048,rat (c.f i).n.z 2048],rat (c.f i).d 2048],int i64 (↑c.m:Int),int i64 (0:Int)],[((16384:Nat),ak.mk true true 3 c.n fun i↦rat (aZ (rat (c.k i) 2048)) 2048)])))):=by kernel_rfl
theorem Wb {c:Cu} {i:Nat}:aJ T wU [13] 60 qy [part s5 [1,1,0,1,0,0]] ⟨aD qy (A9 c i),By c i,1⟩=
  let c7:Int:=(↑c.m:Int);let c5:Int:=(↑(3:Nat):Int);let c4:Prop:=0<1;let c3:Int:=(↑i:Int);let c2:Nat:=c.n+4*i;let c1:AV:=aq 12 c.m fun i↦agg [agg [rat (c.f i).n.x 2048,rat (c.f i).n.y 2048,rat (c.f i).n.z 2048],rat (c.f i).d 2048];let c9:Nat:=c2+4;let c8:Int:=c3+(1:Int);let c6:Pl:=c.f c3.toNat;some (fork (decide (c3<c7)) (ag [(0:Int)≤c3∧c3.toNat<c.m,c4] (ag [(0:Int)≤(0:Int)∧(0:Int)<c5,c4,(0:Int)≤(1:Int)∧(1:Int)<c5,c4,(0:Int)≤(2:Int)∧(2:Int)<c5,c4,c4,(4:Nat)*3≤2^24,c9*((56:Nat)+1)*2≤2^47] (ag [-(2:Int)^63≤c8∧c8<(2:Int)^63] (leaf normal ([nil,own 73729 3 0 c9,c1,int i64 c7,int i64 c8],[((73729:Nat),ak.mk true true 3 c9 fun i↦if i<c2 then rat (iG c i) 2048 else nth [rat c6.n.x 2048,rat c6.n.y 2048,rat c6.n.z 2048,rat c6.d 2048] (rat 0 1) (i-c2+0))]))))) (leaf (exit 0) ([nil,own 0 3 0 c2,c1,int i64 c7,int i64 c3],[((0:Nat),ak.mk true true 3 c2 fun j↦rat (iG c j) 2048)]))):=by kernel_rfl
theorem Kj {c:Cu} {i:Nat}:b7 T wU [] 60 tY [part s5 [1,1,1]] ⟨aD qy (A9 c i),By c i,1⟩=
  some (leaf ret [aq 3 (c.n+4*i) fun i↦rat (iG c (i+0)) 2048]):=by kernel_rfl
theorem Mm {N:Nat} (hn:nl N<2^40) (K:Nat):aB P r8 K [.mag N] [] (aG (.bool true) []):=by
 refine bE hT (dN br) hm LV rfl (of_decide_eq_true (by kernel_rfl)) rfl 60 Ud (fun _=>?_) K []
 simp only[aa.all,az]
 refine⟨fun h=>⟨h,.refl _⟩,fun h=>?_⟩
 have h0:nl N≠0:=fun he=>by rw[he]at h;exact absurd h (by decide)
 have h1:N≠0:=fun he=>h0 (gm.2 he)
 have e1:((nl N:Int)-1).toNat=nl N-1:=by omega
 have h2:=xU h1
 rw[e1]
 refine⟨⟨h,by omega,by omega⟩,eI ?_⟩
 rw[cond_false]
 exact bne_iff_ne.2 (by omega)
theorem Wj:∀K args pre r,GJ K args pre=some r→aB P r8 K args pre r:=by
 refine bL fun K args r hk hs _=>?_
 split at hs
 ·simp only[Option.some.injEq]at hs
  subst hs
  exact fun need=>Mm need K trivial
 ·simp at hs
theorem Gk:bp P yV:=dN (aK Wj (aK DC (aK E6 (aK Du br))))
theorem VN {N:Nat} (h:nl N=1) (h1:ay N 0=1):N=1:=by
 have h2:N<2^(32*1):=cq.1 (by omega)
 unfold ay at h1
 omega
theorem KI {q:Rat} {n:Nat} (hn:n<2^44) (K:Nat):aB P qV K [.rat q n] [] (aG (.bool true) []):=by
 refine gE fun⟨hs1,_⟩=>?_
 obtain⟨a1,a2,a3⟩:=Sz.gk hs1 hn
 refine bE hT Gk hm Zt rfl (of_decide_eq_true (by kernel_rfl)) rfl 60 Sv (fun _=>?_) K []
 obtain⟨D,hD⟩:∃D,D=if q.den=1 then 0 else q.den:=⟨_,rfl⟩
 have hD1:D≠1:=by rw[hD];split<;>omega
 have hg:D≠0→q.num.natAbs.gcd D=1:=fun h=>by
  have:D=q.den:=by rw[hD]at h ⊢;split<;>simp_all
  rw[this];exact q.reduced
 have hz:q.num.natAbs=0→¬q<0∧D=0:=fun h=>by
  have h0:=k8.1 h
  subst h0
  exact⟨by decide,by rw[hD];rfl⟩
 rw[←hD]at a3 ⊢
 have nneg:((nl q.num.natAbs:Int)==0)=true→(!decide (q<0))=true∧((nl D:Int)==0)=true:=fun h=>by
  obtain⟨z1,z2⟩:=hz (gm.1 (by have:=beq_iff_eq.1 h;omega))
  rw[decide_eq_false z1,z2];exact⟨rfl,rfl⟩
 have last:((nl D:Int)==0)=false→D≠0:=fun h he=>by rw[he]at h;exact absurd h (by decide)
 simp only[aa.all,az,cond_true,cond_false,Bool.not_true]
 refine⟨fun h=>⟨⟨by omega,a1,by omega,a3,by omega,h,by omega,by omega,?_⟩,fun h2=>?_,fun h2=>⟨by omega,fun h3=>⟨fun h4=>⟨⟨by omega,h4,by omega⟩,eI (nneg h3).2⟩,fun h4=>absurd (h4.symm.trans (nneg h3).1) (by decide)⟩,fun h3=>⟨fun h4=>⟨⟨by omega,h4⟩,.refl _⟩,fun h4=>?_⟩⟩⟩,
  fun h=>⟨⟨by omega,a1,by omega,a3,by omega,h⟩,fun h=>absurd h (by decide),fun _=>⟨by omega,fun h3=>⟨fun h4=>⟨⟨by omega,h4,by omega⟩,eI (nneg h3).2⟩,fun h4=>absurd (h4.symm.trans (nneg h3).1) (by decide)⟩,fun h3=>⟨fun h4=>⟨⟨by omega,h4⟩,.refl _⟩,fun h4=>?_⟩⟩⟩⟩
 ·have:=beq_iff_eq.1 h
  rw[Int.toNat_zero];omega
 ·have e1:=beq_iff_eq.1 h
  have e2:=beq_iff_eq.1 h2
  exact absurd (VN (by omega) (by rw[Int.toNat_zero]at e2;omega)) hD1
 ·rw[hg (last h4)]
  exact⟨⟨by omega,h4,by omega,by omega,a1,a3,by decide⟩,eI (by decide)⟩
 ·rw[hg (last h4)]
  exact⟨⟨by omega,h4,by omega,by omega,a1,a3,by decide⟩,eI (by decide)⟩
theorem Qu:∀K args pre r,Cb K args pre=some r→aB P qV K args pre r:=by
 refine bL fun K args r hk hs _=>?_
 split at hs
 ·simp only[Option.some.injEq]at hs
  subst hs
  exact fun need=>KI need K trivial
 ·simp at hs
theorem Kk {q:Rat} {n:Nat} (hn:n<2^44) (K:Nat):aB P rJ K [.rat q n] [] (aG (.int .i64 (bV q:Nat)) []):=by
 refine gE fun⟨hs1,_⟩=>?_
 obtain⟨a1,a2,a3⟩:=Sz.gk hs1 hn
 refine bE hT Gk hm La rfl (of_decide_eq_true (by kernel_rfl)) rfl 60 Vo (fun _=>?_) K []
 simp only[aa.all,az]
 refine⟨⟨by omega,a1,by omega,a2⟩,bh ?_⟩
 unfold bV
 split<;>omega
theorem TC:∀K args pre r,Cj K args pre=some r→aB P rJ K args pre r:=by
 refine bL fun K args r hk hs _=>?_
 split at hs
 ·simp only[Option.some.injEq]at hs
  subst hs
  exact fun need=>Kk need K trivial
 ·simp at hs
theorem Bu:bp P yo:=dN (aK Qu (aK TC gM))
theorem U5:∀K args pre r,wH K args pre=some r→aB P gu K args pre r:=by
 refine bL fun K args r hk hs _=>?_
 split at hs
 ·rename_i q n
  simp only[Option.some.injEq]at hs
  subst hs
  intro need
  have hn:n≤2048:=need
  refine bE (r:=aG (.bool false) [n≤2048]) hT Bu hm Nn rfl (of_decide_eq_true (by kernel_rfl)) rfl 60 VV (fun _=>?_) K [] need
  simp only[aa.all,az]
  (repeat' with_reducible refine And.intro ?_ ?_)
  all_goals first|omega|exact .refl _|skip
 ·simp at hs
theorem Pk:∀K args pre r,wH K args pre=some r→aB P fV K args pre r:=by
 refine bL fun K args r hk hs _=>?_
 split at hs
 ·rename_i q n
  simp only[Option.some.injEq]at hs
  subst hs
  intro need
  have hn:n≤2048:=need
  refine(gE (P:=P) (f:=fV) (K:=K) (args:=[.rat q n]) (pre:=[]) (v:=.bool false) (l:=[n≤2048]) fun⟨hs1,_⟩=>?_) need
  have h1:=KU.1 hs1
  refine bE (r:=aG (.bool false) [n≤2048]) hT Bu hm T0 rfl (of_decide_eq_true (by kernel_rfl)) rfl 60 LZ (fun _=>?_) K []
  simp only[aa.all,az]
  (repeat' with_reducible refine And.intro ?_ ?_)
  all_goals first|omega|skip
  exact eI (decide_eq_false (by omega))
 ·simp at hs
theorem QS:∀K args pre r,He K args pre=some r→aB P eZ K args pre r:=cZ fun⟨p,_⟩ K hn=>by
 have hd:0<p.d:=hn
 refine bE (r:=aG (.bool false) []) hT Bu hm Kc rfl (of_decide_eq_true (by kernel_rfl)) rfl 60 On (fun _=>?_) K []
 have hs:dx p.d=1:=by
  unfold dx
  rw[if_neg (by grind),if_pos hd]
 simp only[aa.all,az,hs]
 (repeat' with_reducible refine And.intro ?_ ?_)
 all_goals first|omega|decide|exact .refl _|skip
theorem zK:bp P GX:=dN (aK U5 (aK Pk (aK QS br)))
theorem Ri {n:Nat} {k:Nat→Rat} {g:FuncId} (hn:n<2^40) (hg:g=gu∨g=fV) (K:Nat):aB P uk K [bM k n 2048,.func g []] [] (aG (.int .i64 (-1)) []):=by
 rcases hg with rfl|rfl
 ·refine gJ (r:=aG (.int .i64 (-1)) []) hT zK hm DQ rfl (of_decide_eq_true (by kernel_rfl)) rfl [1,0,1] (i:=0) (y:=part mw [1,0,1,0,0]) (z:=part mw [1,1]) (by kernel_rfl) (by kernel_rfl) (by kernel_rfl) (f1:=[]) (f2:=[9]) (f3:=[]) 60 iH 0
   (fun i:Nat=>tJ n i k gu) (fun _=>[]) (fun i=>i≤n) (fun i=>i=n) (fun i=>n-i) (fun _=>⟨⟨_,F7,?_⟩,fun i hi=>⟨_,XR,?_⟩,fun i hi=>⟨_,C0,?_⟩⟩) K []
  ·simp only[aa.all,az]
   exact⟨0,Nat.zero_le _,[],rfl,rfl,rfl,trivial⟩
  ·simp only[aa.all,az,decide_eq_true_eq,decide_eq_false_iff_not,Int.toNat_natCast]
   exact⟨fun h=>⟨⟨by omega,by omega⟩,by omega,i+1,by omega,by dsimp only;omega,[],rfl,rfl,rfl,trivial⟩,fun h=>⟨rfl,i,by omega,[],rfl,rfl,rfl,trivial⟩⟩
  ·simp only[aa.all,az]
   exact .refl _
 ·refine gJ (r:=aG (.int .i64 (-1)) []) hT zK hm DQ rfl (of_decide_eq_true (by kernel_rfl)) rfl [1,0,1] (i:=0) (y:=part mw [1,0,1,0,0]) (z:=part mw [1,1]) (by kernel_rfl) (by kernel_rfl) (by kernel_rfl) (f1:=[]) (f2:=[9]) (f3:=[]) 60 iH 0
   (fun i:Nat=>tJ n i k fV) (fun _=>[]) (fun i=>i≤n) (fun i=>i=n) (fun i=>n-i) (fun _=>⟨⟨_,F7,?_⟩,fun i hi=>⟨_,UA,?_⟩,fun i hi=>⟨_,C0,?_⟩⟩) K []
  ·simp only[aa.all,az]
   exact⟨0,Nat.zero_le _,[],rfl,rfl,rfl,trivial⟩
  ·simp only[aa.all,az,decide_eq_true_eq,decide_eq_false_iff_not,Int.toNat_natCast]
   exact⟨fun h=>⟨⟨by omega,by omega⟩,by omega,i+1,by omega,by dsimp only;omega,[],rfl,rfl,rfl,trivial⟩,fun h=>⟨rfl,i,by omega,[],rfl,rfl,rfl,trivial⟩⟩
  ·simp only[aa.all,az]
   exact .refl _
theorem Js:∀K args pre r,Fq K args pre=some r→aB P uk K args pre r:=cZ fun⟨⟨n,k⟩,g,_⟩ K hn=>Ri hn.1 hn.2 K
theorem MT:bp P GY:=dN (aK Js br)
theorem TG:∀K args pre r,D1 K args pre=some r→aB P xL K args pre r:=cZ fun⟨⟨n,k⟩,g,_⟩ K hn=>by
 refine bE (r:=aG (.bool false) []) hT MT hm YD rfl (of_decide_eq_true (by kernel_rfl)) rfl 60 I7 (fun _=>?_) K []
 simp only[aa.all,az]
 exact⟨⟨dc (Nat.le_refl _),hn.1,hn.2⟩,.refl _⟩
noncomputable def Dg:Spec:=cS (kC (xK 2048) (kC wP kN)) (fun _=>.int .i64 (-1)) fun a=>[a.1.1<2^40,∀i,i<a.1.1→0<(a.1.2 i).d,a.2.1=eZ]
noncomputable def Iv:Spec:=cS (kC (xK 2048) (kC wP kN)) (fun _=>.bool false) fun a=>[a.1.1<2^40,∀i,i<a.1.1→0<(a.1.2 i).d,a.2.1=eZ]
noncomputable def D6:aT:=nG::(qT,Dg)::[]
noncomputable def E9:aT:=nG::(ug,Ia)::(xL,D1)::(wO,Iv)::(qi,zV)::(nV,uv)::[]
theorem Za {n:Nat} {f:Nat→Pl} (hn:n<2^40) (hf:∀i,i<n→0<(f i).d) (K:Nat):aB P qT K [kB f n 2048,.func eZ []] [] (aG (.int .i64 (-1)) []):=by
 refine gJ (r:=aG (.int .i64 (-1)) []) hT zK hm Tp rfl (of_decide_eq_true (by kernel_rfl)) rfl [1,0,1] (i:=0) (y:=part uX [1,0,1,0,0]) (z:=part uX [1,1]) (by kernel_rfl) (by kernel_rfl) (by kernel_rfl) (f1:=[]) (f2:=[9]) (f3:=[]) 60 iH 0
  (fun i:Nat=>zF n i f eZ) (fun _=>[]) (fun i=>i≤n) (fun i=>i=n) (fun i=>n-i) (fun _=>⟨⟨_,OR,?_⟩,fun i hi=>⟨_,OZ,?_⟩,fun i hi=>⟨_,NR,?_⟩⟩) K []
 ·simp only[aa.all,az]
  exact⟨0,Nat.zero_le _,[],rfl,rfl,rfl,trivial⟩
 ·simp only[aa.all,az,decide_eq_true_eq,decide_eq_false_iff_not,Int.toNat_natCast]
  exact⟨fun h=>⟨⟨by omega,by omega,by omega,by decide,hf i (by omega)⟩,by omega,i+1,by omega,by dsimp only;omega,[],rfl,rfl,rfl,trivial⟩,fun h=>⟨rfl,i,by omega,[],rfl,rfl,rfl,trivial⟩⟩
 ·simp only[aa.all,az]
  exact .refl _
theorem YY:∀K args pre r,Dg K args pre=some r→aB P qT K args pre r:=cZ fun⟨⟨n,f⟩,g,_⟩ K hn=>by
 have hg:g=eZ:=hn.2.2
 subst hg
 exact Za hn.1 hn.2.1 K
theorem Vn {args:List AV} {n:Nat} {k:Nat→Rat} {l:List Prop} (ha:az l→eE (bf []) args [.cE false 3 n (fun i=>.rat (k i) 2048)]) (hn:az l→1≤n∧n<2^30) (K:Nat):aB P oQ K args [] ⟨iZ [.own K 3 0 n],[(K,⟨true,true,3,n,fun i=>.rat (k i) 2048⟩)],l⟩:=by
 refine HR hT XM ha (of_decide_eq_true (by kernel_rfl)) fun need c hk=>?_
 obtain⟨h1,h2⟩:=hn need
 refine aj.aV hT (dN br) hm 60 [2] WB (by kernel_rfl) ?_
 simp only[aa.all,az]
 exact⟨⟨by omega,by omega⟩,fun s' hs'=>⟨.inr trivial,[2],_,[.own 20480 3 0 (0+n)],_,20480,_,hs',by kernel_rfl,⟨⟨rfl,ct (by simp[bf,look]) rfl (by omega)⟩,trivial⟩,rfl,gW (by omega) fun i hi=>aF rfl⟩⟩
theorem Yl {n:Nat} {k:Nat→Rat} {l:List Prop} (hn:az l→1≤n∧n<2^30) (K:Nat):aB P oQ K [bM k n 2048] [] ⟨iZ [.own K 3 0 n],[(K,⟨true,true,3,n,fun i=>.rat (k i) 2048⟩)],l⟩:=by
 refine FY fun b hb=>?_
 intro need
 have h1:=hn need
 cases b
 ·exact Vn (args:=[.cE false 3 n (fun i=>.rat (k i) 2048)]) (fun _=>⟨⟨rfl,aF rfl⟩,trivial⟩) hn K need
 ·have:=hb rfl
  omega
theorem Md:∀K args pre r,En K args pre=some r→aB P oQ K args pre r:=by
 refine AM fun K args r hk hs=>?_
 split at hs
 ·rename_i v
  split at hs
  ·rename_i n k q hv
   simp only[Option.some.injEq]at hs
   subst hs
   intro need
   obtain⟨hn1,hn2⟩:=dA.1 need
   exact eO (Yl (l:=q++[1≤n,n<2^30]) (fun h=>⟨(dA.1 h).2.1,(dA.1 h).2.2⟩) K) hk ⟨(kL 2048).ok hv hn1,trivial⟩ [] need
  ·simp at hs
 ·simp at hs
theorem MC:bp P wU:=dN (aK Md br)
theorem VE {c:Cu} {i j:Nat} {rl:List (Nat×Nat)} (hj:j<c.n+4*i+4):fP rl (if j<c.n+4*i then .rat (iG c j) 2048 else nth [.rat (c.f i).n.x 2048,.rat (c.f i).n.y 2048,.rat (c.f i).n.z 2048,.rat (c.f i).d 2048] (.rat 0 1) (j-(c.n+4*i)+0)) (.rat (iG c j) 2048):=by
 by_cases h:j<c.n+4*i
 ·rw[if_pos h];exact aP rfl rfl
 ·rw[if_neg h]
  have key:∀a,a<4→j=c.n+4*i+a→iG c j=lJ (c.f i) a:=fun a ha hj=>by
   unfold iG
   rw[if_neg (by omega),show(j-c.n)/4=i by omega,show(j-c.n)%4=a by omega]
  rcases(show j=c.n+4*i+0∨j=c.n+4*i+1∨j=c.n+4*i+2∨j=c.n+4*i+3 by omega)with h'|h'|h'|h'
  ·rw[key 0 (by omega) h',h',show c.n+4*i+0-(c.n+4*i)+0=0 by omega];exact aP rfl rfl
  ·rw[key 1 (by omega) h',h',show c.n+4*i+1-(c.n+4*i)+0=1 by omega];exact aP rfl rfl
  ·rw[key 2 (by omega) h',h',show c.n+4*i+2-(c.n+4*i)+0=2 by omega];exact aP rfl rfl
  ·rw[key 3 (by omega) h',h',show c.n+4*i+3-(c.n+4*i)+0=3 by omega];exact aP rfl rfl
theorem YU {c:Cu} (h1:1≤c.n) (hn:c.n<2^30) (hm2:c.m<2^28) (K:Nat):aB P ug K [eM c 2048 2048] [] (aG (bM (iG c) (c.n+4*c.m) 2048) []):=by
 refine gJ (r:=aG (bM (iG c) (c.n+4*c.m) 2048) []) hT MC hm Zp rfl (of_decide_eq_true (by kernel_rfl)) rfl [1,1,0,1] (i:=0) (y:=part s5 [1,1,0,1,0,0]) (z:=part s5 [1,1,1]) (by kernel_rfl) (by kernel_rfl) (by kernel_rfl) (f1:=[]) (f2:=[13]) (f3:=[]) 60 qy 1
  (fun i:Nat=>A9 c i) (fun i=>By c i) (fun i=>i≤c.m) (fun i=>i=c.m) (fun i=>c.m-i) (fun _=>⟨⟨_,Sh,?_⟩,fun i hi=>⟨_,Wb,?_⟩,fun i hi=>⟨_,Kj,?_⟩⟩) K []
 ·simp only[aa.all,az]
  exact⟨⟨by omega,dc (Nat.le_refl _),by omega,by omega⟩,by omega,0,Nat.zero_le _,[(0,16384)],rfl,rfl,rfl,bF rfl rfl rfl (fun j hj=>aP rfl (by unfold iG;rw[if_pos (by omega)];rfl)) trivial⟩
 ·simp only[aa.all,az,decide_eq_true_eq,decide_eq_false_iff_not,Int.toNat_natCast]
  refine⟨fun h=>?_,fun h=>⟨rfl,i,by omega,[(0,0)],rfl,rfl,rfl,bF rfl rfl rfl (fun j hj=>aP rfl rfl) trivial⟩⟩
  (repeat' with_reducible refine And.intro ?_ ?_)
  all_goals first|omega|decide|skip
  refine⟨i+1,by omega,by dsimp only;omega,[(0,73729)],rfl,?_,rfl,bF rfl rfl ?_ (fun j hj=>VE (by omega)) trivial⟩
  ·show _=[_,AV.own 0 3 0 (c.n+4*(i+1)),_,_,_].map _
   rw[show c.n+4*(i+1)=c.n+4*i+4 by omega];rfl
  ·show c.n+4*(i+1)=c.n+4*i+4
   omega
 ·subst hi
  simp only[aa.all,az]
  exact .refl _
theorem Nw:∀K args pre r,Ia K args pre=some r→aB P ug K args pre r:=cZ fun⟨c,_⟩ K hn=>YU hn.1 hn.2.1 hn.2.2 K
theorem NT {n:Nat} {f:Nat→Pl}:bu T D6 [] 60 rY (au rY) ⟨aM 0 [kB f n 2048,.func eZ []],[],0⟩=
  some (ag [gO (fun i↦cz (f i) 2048) n 2048,n<2^40,∀(i:Nat),i<n→0<aZ (rat (f i).d 2048),eZ=eZ] (leaf ret [AV.bool false])):=by kernel_rfl
theorem K4 {c:Cu}:bu T E9 [200015,200017] 60 vP (au vP) ⟨aM 0 [eM c 2048 2048],[],0⟩=
  let c5 : Nat := c.n + 4 * c.m; let c4 : Prop := gO (fun i ↦ cz (c.f i) 2048) c.m 2048; let c3 : Nat := 2 ^ 40; let c2 : Prop := 0 < 1; let c1 : Prop := cj (fun i ↦ rat (iG (Cu.mk c.p c.n (fun i ↦ aZ (rat (c.k i) 2048)) c.m fun i ↦ ic (cz (c.f i) 2048)) i) 2048) c5 2048; some (ag [c2, cj (fun i ↦ rat (c.k i) 2048) c.n 2048, c4, (1 : Nat) ≤ c.n, c.n < 2 ^ 30, c.m < 2 ^ 28] (ag [c1, c5 < c3, gu = gu ∨ gu = fV] (ag [c2, c2, cj (fun i ↦ rat (c.k i) 2048) c.n sJ, c.n < c3] (ag [(fc c.n (fun i ↦ aZ (rat (c.k i) 2048)) c.p != (0 : Int)) = false] (ag [c2, c2, c2, cj (fun i ↦ rat (c.k i) 2048) c.n sK, c.n < c3, -(2 : Int) ^ 40 < c.p, c.p < (2 : Int) ^ 40] (ag [((↑c.m : Int) != (↑c.n : Int) - c.p - (1 : Int)) = false] (ag [c2, c4, c.m < c3, ∀ (i : Nat), i < c.m → 0 < aZ (rat (c.f i).d 2048), eZ = eZ] (ag [c1, c5 < c3, fV = gu ∨ fV = fV] (leaf ret [int i64 (0 : Int)]))))))))) := by kernel_rfl
theorem VP:bp P D6:=dN (aK YY br)
theorem Ry:∀K args pre r,Iv K args pre=some r→aB P wO K args pre r:=cZ fun⟨⟨n,f⟩,g,_⟩ K hn=>by
 have hg:g=eZ:=hn.2.2
 subst hg
 refine bE (r:=aG (.bool false) []) hT VP hm YO rfl (of_decide_eq_true (by kernel_rfl)) rfl 60 NT (fun _=>?_) K []
 simp only[aa.all,az]
 exact⟨⟨iC (Nat.le_refl _),hn.1,hn.2.1,by trivial⟩,.refl _⟩
theorem SH:bp P E9:=dN (aK Nw (aK TG (aK Ry (aK GB (aK yu br)))))
noncomputable def As:Spec:=cS (kC (kV 2048 2048) kN) (fun _=>.int .i64 0) fun a=>[ek a.1,∀i,i<a.1.m→0<(a.1.f i).d]
theorem Iq:∀K args pre r,As K args pre=some r→aB P vQ K args pre r:=cZ fun⟨c,_⟩ K hn=>by
 obtain⟨⟨h1,h2,h3,h4,h5⟩,hw⟩:ek c∧_:=hn
 have hl:=h1.len
 refine bE (r:=aG (.int .i64 0) []) hT SH hm JQ rfl (of_decide_eq_true (by kernel_rfl)) rfl 60 K4 (fun _=>?_) K []
 have hc0:fc c.n c.k c.p=0:=by have:=h1.ET (by omega) h4;rwa [Int.toNat_of_nonneg (by omega)]at this
 simp only[aa.all,az]
 (repeat' with_reducible refine And.intro ?_ ?_)
 all_goals first|omega|exact dc (by decide)|exact iC (by decide)|exact hw|exact bne_eq_false_iff_eq.2 hc0|exact bne_eq_false_iff_eq.2 h5|exact .inl trivial|exact .inr trivial|trivial|exact .refl _|skip
end Go.Am.B

/- ref10.Check. -/
namespace Go.Am.B
open Go Go.Am.N AV aa ah IntKind
end Go.Am.B

/- brepkernelmade: Knots. -/
namespace Go.Am.B
open Go Go.Am.N AV aa ah IntKind
structure KSt where
 k:Nat→Rat
 t:Rat
 a:Int
theorem YL {z:Int} (h1:-2^63≤z) (h2:z<2^63):Sz ((z:Rat)/2) 64:=by
 have:=F2 h1 h2 (y:=2) (by omega) (by omega) (by omega)
 simpa using this
theorem KG.sz {p j:Nat} {k:Nat→Rat} {t:Rat} (h:KG p j k t) (hj:j<2^50):Sz t 64:=by
 obtain⟨z,e,h1,h2⟩:=h.half (p+j) (Nat.le_refl _)
 rw[h.top]at e
 rw[e]
 exact YL (by omega) (by omega)
end Go.Am.B

/- brepkernelmade: Number. -/
namespace Go.Am.B
open Go Go.Am.N AV
end Go.Am.B

/- law09: made, at. -/
namespace Go.Am.B
open Go Go.Am.N AV aa ah IntKind
end Go.Am.B

/- ref02.Text of a few numbers; law09.awake. -/
namespace Go.Am.B
open Go Go.Am.N AV aa ah IntKind
def o8:aT:=[sG,(pE,AX)]
theorem Kf:bp P o8:=xI (aK Fl br)
theorem Kn.congr {n p:Nat} {k k':Nat→Rat} (h:Kn n p k) (e:∀i,i<n→k i=k' i):Kn n p k':=by
 have hp:=h.p1
 have hl:=h.len
 refine⟨h.p1,h.len,fun i hi=>?_,fun i hi=>?_,fun i h1 h2=>?_,fun i h1 h2=>?_⟩
 ·rw[←e i (by omega),←e (i+1) hi];exact h.sorted i hi
 ·rw[←e i (by omega),←e 0 (by omega)];exact h.first i hi
 ·rw[←e i h2,←e (n-1) (by omega)];exact h.last i h1 h2
 ·rw[←e i (by omega),←e (i+p) (by omega)];exact h.mult i h1 h2
theorem N5 {f:Nat→Rat} (h:∀i,i<6→f i=xb 2 0 (fun _=>((0:Int):Rat)) ((0:Int):Rat) i):Kn 6 2 f:=
 ((KG.start (p:=2) (by omega) (z:=0) (by omega) (by omega)).done:Kn (2*2+2+0) 2 _).congr fun i hi=>(h i hi).symm
end Go.Am.B

/- shapes, vector, ref14: by the evaluator; law14.awake. -/
namespace Go.Am.B
open Go Go.Am.N AV aa ah IntKind
end Go.Am.B

/- law10.awake. -/
namespace Go.Am.B
open Go Go.Am.N AV aa ah IntKind
theorem Xm:aN P uc qG (au qG):=aO LW (by kernel_rfl) (by kernel_rfl) (by kernel_rfl)
def C9:Spec:=bq fun l=>match l with
 |[.mag 2]=>some (aG (.str [50]) [])
 |[.mag 3]=>some (aG (.str [51]) [])
 |[.mag 4]=>some (aG (.str [52]) [])
 |[.mag 5]=>some (aG (.str [53]) [])
 |_=>none
def qM:aT:=[sG,(vK,C9)]
def FP:Spec:=bq fun l=>match l with
 |[.rat q _]=>match decide (q=3/5),decide (q=4/5),decide (q=3/2)with
  |true,_,_=>some (aG (.str [51,47,53]) [])
  |false,true,_=>some (aG (.str [52,47,53]) [])
  |false,false,true=>some (aG (.str [51,47,50]) [])
  |_,_,_=>none
 |_=>none
noncomputable def CG:aT:=sG::(ym,HN)::(qX,zC)::(vQ,As)::(It,AO T (sG::BO) [] 200 Hx)::(pF,B1)::(u9,FP)::BO
theorem XV:bu T o8 [] 60 iF (au iF) ⟨aM 0 [.mag 2],[],0⟩=
  let c1:Int:=(↑(1:Nat):Int);some (ag [nl 2<2^40,(0:Int)<(1000000000:Int),(1000000000:Int)<(2:Int)^32] (ag [(10:Int)≠(0:Int),(0:Nat)<1∧1*((1:Nat)+1)*2≤2^47] (ag [(10:Int)≠(0:Int)] (ag [(0:Int)≤c1∧c1≤c1∧c1≤(2:Int)^47∧c1*c1≤(2:Int)^47] (leaf ret [str [UInt8.ofNat (u8.wrap (u32.wrap ((48:Int)+(↑((2:Nat)%Int.toNat (1000000000:Int)):Int).tmod (10:Int)))).toNat]]))))):=by kernel_rfl
theorem SP:bu T o8 [] 60 iF (au iF) ⟨aM 0 [.mag 3],[],0⟩=
  let c1:Int:=(↑(1:Nat):Int);some (ag [nl 3<2^40,(0:Int)<(1000000000:Int),(1000000000:Int)<(2:Int)^32] (ag [(10:Int)≠(0:Int),(0:Nat)<1∧1*((1:Nat)+1)*2≤2^47] (ag [(10:Int)≠(0:Int)] (ag [(0:Int)≤c1∧c1≤c1∧c1≤(2:Int)^47∧c1*c1≤(2:Int)^47] (leaf ret [str [UInt8.ofNat (u8.wrap (u32.wrap ((48:Int)+(↑((3:Nat)%Int.toNat (1000000000:Int)):Int).tmod (10:Int)))).toNat]]))))):=by kernel_rfl
theorem WO:bu T o8 [] 60 iF (au iF) ⟨aM 0 [.mag 4],[],0⟩=
  let c1:Int:=(↑(1:Nat):Int);some (ag [nl 4<2^40,(0:Int)<(1000000000:Int),(1000000000:Int)<(2:Int)^32] (ag [(10:Int)≠(0:Int),(0:Nat)<1∧1*((1:Nat)+1)*2≤2^47] (ag [(10:Int)≠(0:Int)] (ag [(0:Int)≤c1∧c1≤c1∧c1≤(2:Int)^47∧c1*c1≤(2:Int)^47] (leaf ret [str [UInt8.ofNat (u8.wrap (u32.wrap ((48:Int)+(↑((4:Nat)%Int.toNat (1000000000:Int)):Int).tmod (10:Int)))).toNat]]))))):=by kernel_rfl
theorem Na:bu T o8 [] 60 iF (au iF) ⟨aM 0 [.mag 5],[],0⟩=
  let c1:Int:=(↑(1:Nat):Int);some (ag [nl 5<2^40,(0:Int)<(1000000000:Int),(1000000000:Int)<(2:Int)^32] (ag [(10:Int)≠(0:Int),(0:Nat)<1∧1*((1:Nat)+1)*2≤2^47] (ag [(10:Int)≠(0:Int)] (ag [(0:Int)≤c1∧c1≤c1∧c1≤(2:Int)^47∧c1*c1≤(2:Int)^47] (leaf ret [str [UInt8.ofNat (u8.wrap (u32.wrap ((48:Int)+(↑((5:Nat)%Int.toNat (1000000000:Int)):Int).tmod (10:Int)))).toNat]]))))):=by kernel_rfl
theorem TQ:bu T qM [] 60 jm (au jm) ⟨aM 0 [.agg [.bool false,.mag 3,.mag 5]],[],0⟩=
  some (leaf ret [str [(51:UInt8),(47:UInt8),(53:UInt8)]]):=by kernel_rfl
theorem TR:bu T qM [] 60 jm (au jm) ⟨aM 0 [.agg [.bool false,.mag 4,.mag 5]],[],0⟩=
  some (leaf ret [str [(52:UInt8),(47:UInt8),(53:UInt8)]]):=by kernel_rfl
theorem JV:bu T qM [] 60 jm (au jm) ⟨aM 0 [.agg [.bool false,.mag 3,.mag 2]],[],0⟩=
  some (leaf ret [str [(51:UInt8),(47:UInt8),(50:UInt8)]]):=by kernel_rfl
theorem Q8:bu T CG [100024,100028,100032,100038,100044,100050] 200 qG (au qG) ⟨aM 0 [],[],0⟩=
  let c10:Rat:=(↑(1:Int):Rat)/(↑(2:Int):Rat);let c9:Int:=(2:Int)^63;let c8:List UInt8:=[(47:UInt8),(53:UInt8)];let c6:AV:=agg [AV.bool (decide ((0:Rat)<0)),mag (↑(nat_lit 0):Int).natAbs,mag (if 1=1 then 0 else 1)];let c5:AV:=rat 0 1;let c4:AV:=rat (↑(1:Int):Rat) (Max.max 1 (aY (Int.natAbs (1:Int))));let c7:AV:=agg [agg [c5,c5,c5],c5];let c3:List AV:=[agg [agg [c4,c5,c5],c4],agg [agg [c4,c4,c5],c4],agg [agg [c6,c4,c5],rat (↑(2:Int):Rat) (Max.max 1 (aY (Int.natAbs (2:Int))))]];let c2:List AV:=[c6,c6,c6,c4,c4,c4];let c1:Cu:=Cu.mk (2:Int) 6 (fun i↦aZ (nth c2 c5 (i+0))) 3 fun i↦ic (nth c3 c7 (i+0));some (ag [(0:Nat)<1] (ag [-c9≤(1:Int),(1:Int)<c9,-c9≤(2:Int),(2:Int)<c9] (ag [cj (fun i↦nth c2 c5 (i+0)) 6 sJ,gO (fun i↦nth c3 c7 (i+0)) 3 sJ,(64:Nat)≤sK,ek c1] (ag [cj (fun i↦nth c2 c5 (i+0)) 6 2000,gO (fun i↦nth c3 c7 (i+0)) 3 2000,(64:Nat)≤2000,ek c1] (ag [cj (fun i↦nth c2 c5 (i+0)) 6 2048,gO (fun i↦nth c3 c7 (i+0)) 3 2048,ek c1,∀(i:Nat),i<3→0<(ic (nth c3 c7 (i+0))).d,((0:Int)==(0:Int))=true,(bif true then dU 6 (fun i↦aZ (nth c2 c5 (i+0))) c10==(0:Int)else false)=true,(bif true then gl c1 c10==(0:Int)else false)=true,(bif true then(51:UInt8)::c8==(51:UInt8)::c8 else false)=true,(bif true then(52:UInt8)::c8==(52:UInt8)::c8 else false)=true,(bif true then(↑((6:Nat)+1-Int.toNat (2:Int)-1):Int)==(4:Int)else false)=true] (leaf ret [AV.bool true])))))):=by kernel_rfl
theorem Um:∀K args pre r,C9 K args pre=some r→aB P vK K args pre r:=by
 refine bL fun K args r hk hs _=>?_
 have fin:∀{N:Nat} {t:aa (List AV)} {l:List UInt8},bu T o8 [] 60 iF (au iF) ⟨aM 0 [.mag N],[],0⟩=some t→(t.all fun _ us=>dY us (.str l))→aB P vK K [.mag N] [] (aG (.str l) []):=fun h1 h2=>
  bE (r:=aG _ []) hT Kf hm ME rfl (of_decide_eq_true (by kernel_rfl)) rfl 60 h1 (fun _=>h2) K []
 split at hs<;>simp only[Option.some.injEq,reduceCtorEq]at hs
 all_goals subst hs
 ·exact fin XV (by simp only[aa.all,az];exact⟨by decide,by decide,by decide,by decide,.refl _⟩)
 ·exact fin SP (by simp only[aa.all,az];exact⟨by decide,by decide,by decide,by decide,.refl _⟩)
 ·exact fin WO (by simp only[aa.all,az];exact⟨by decide,by decide,by decide,by decide,.refl _⟩)
 ·exact fin Na (by simp only[aa.all,az];exact⟨by decide,by decide,by decide,by decide,.refl _⟩)
theorem Oq:bp P qM:=xI (aK Um br)
theorem Xp:∀K args pre r,FP K args pre=some r→aB P u9 K args pre r:=by
 refine bL fun K args r hk hs _=>?_
 have fin:∀{q:Rat} {n a b:Nat} {t:aa (List AV)} {l:List UInt8},kids (.rat q n)=[.bool false,.mag a,.mag b]→bu T qM [] 60 jm (au jm) ⟨aM 0 [.agg [.bool false,.mag a,.mag b]],[],0⟩=some t→(t.all fun _ us=>dY us (.str l))→aB P u9 K [.rat q n] [] (aG (.str l) []):=fun h0 h1 h2=>
  eO (bE (r:=aG _ []) hT Oq hm Sg rfl (of_decide_eq_true (by kernel_rfl)) rfl 60 h1 (fun _=>h2) K []) rfl (show dD [_] [_]from⟨by rw[←h0];exact FR,trivial⟩) []
 split at hs
 ·rename_i q n
  split at hs
  all_goals simp only[Option.some.injEq,reduceCtorEq]at hs
  all_goals subst hs
  ·obtain rfl:q=3/5:=of_decide_eq_true ‹_›
   exact fin (by kernel_rfl) TQ (.refl _)
  ·obtain rfl:q=4/5:=of_decide_eq_true ‹decide (q=4/5)=true›
   exact fin (by kernel_rfl) TR (.refl _)
  ·obtain rfl:q=3/2:=of_decide_eq_true ‹decide (q=3/2)=true›
   exact fin (by kernel_rfl) JV (.refl _)
 ·simp at hs
theorem XX:bp P CG:=xI (aK Xd (aK EH (aK Iq (aK (Ev hT (xI Ca) hm (aO OY (by kernel_rfl) (by kernel_rfl) (by kernel_rfl)) _ _) (aK Fs (aK Xp Ca))))))
theorem Wi (K:Nat):aB P uc K [] [] (aG (.bool true) []):=by
 refine bE (r:=aG (.bool true) []) hT XX hm Xm rfl (of_decide_eq_true (by kernel_rfl)) rfl 200 Q8 (fun _=>?_) K []
 have hR:∀s,4≤s→cj (fun i=>nth [.agg [AV.bool (decide ((0:Rat)<0)),mag (↑(nat_lit 0):Int).natAbs,mag (if 1=1 then 0 else 1)],.agg [AV.bool (decide ((0:Rat)<0)),mag (↑(nat_lit 0):Int).natAbs,mag (if 1=1 then 0 else 1)],.agg [AV.bool (decide ((0:Rat)<0)),mag (↑(nat_lit 0):Int).natAbs,mag (if 1=1 then 0 else 1)],.rat (↑(1:Int):Rat) (Max.max 1 (aY (Int.natAbs (1:Int)))),.rat (↑(1:Int):Rat) (Max.max 1 (aY (Int.natAbs (1:Int)))),.rat (↑(1:Int):Rat) (Max.max 1 (aY (Int.natAbs (1:Int))))] (.rat 0 1) (i+0)) 6 s:=fun s hs i hi=>by
  obtain⟨s,rfl⟩:∃s',s=s'+1:=⟨s-1,by omega⟩
  match i,hi with
  |0,_|1,_|2,_=>exact jH
  |3,_|4,_|5,_=>exact en (Nat.le_trans (by decide) hs)
 simp only[aa.all,az]
 (repeat' with_reducible first|refine And.intro ?_ ?_)
 all_goals first|omega|decide|exact hR _ (by decide)|skip
 all_goals first|decide+kernel|exact .refl _|skip
 all_goals first|refine⟨N5 fun i hi=>?_,by decide,by decide,by decide,by decide⟩|intro i hi
 all_goals first
  |match i,hi with
   |0,_|1,_|2,_|3,_|4,_|5,_=>decide+kernel
  |match i,hi with
   |0,_|1,_|2,_=>decide+kernel
  |skip
 all_goals match i,hi with
  |0,_|1,_=>exact dJ ⟨dJ ⟨en (by decide),en (by decide),en (by decide),trivial⟩,en (by decide),trivial⟩
  |2,_=>exact dJ ⟨dJ ⟨jH,en (by decide),en (by decide),trivial⟩,en (by decide),trivial⟩
def HZ:Spec:=bq fun l=>match l with
 |[]=>some (aG (.bool true) [])
 |_=>none
theorem QW:∀K args pre r,HZ K args pre=some r→aB P uc K args pre r:=by
 refine bL fun K args r hk hs _=>?_
 split at hs
 ·simp only[Option.some.injEq]at hs
  subst hs
  exact fun need=>Wi K need
 ·simp at hs
end Go.Am.B
