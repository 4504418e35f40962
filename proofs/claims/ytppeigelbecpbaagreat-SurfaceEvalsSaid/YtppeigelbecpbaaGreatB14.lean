/- natural.Gcd. -/
import Derived.Test.YtppeigelbecpbaaGreatB13
set_option linter.unusedVariables false
namespace Go.Am.B
open Go Go.Am.N AV
theorem Uz:aO P qv gn (aq gn):=aP Wq (by kernel_rfl) (by kernel_rfl) (by kernel_rfl)
def GG:aS:=(rR,bA (fT E3))::(o3,Ax)::(yl,bA (jA y7))::(qo,Dk)::G1
noncomputable abbrev pG:Code:=part (aq gn) [1,1,1]
theorem wD:aW P GG:=aD Lw (aD B7 (aD U2 (aD LM fu)))
theorem Oy {n m:Nat} {z y:Nat→Nat}:aG T GG [] 60 [5,6] (before (aq gn) [1,1,0]) ⟨aM 0 [.ag 1 n (au z),.ag 1 m (au y)],[],0⟩=
  let c2:Nat:=val n fun i↦numOf (au z i);let c1:Nat:=val m fun i↦numOf (au y i);some (aa.af [cT n (au z),n<2^62,nl c2<2^40,cT m (au y),m<2^62,nl c1<2^40] (aa.leaf aj.normal ([mag c2,mag c1],[]))):=by kernel_rfl
theorem T7 {X Y:Nat}:aG T GG [23] 60 [5,6] [part (aq gn) [1,1,0,0,0]] ⟨aB [5,6] [.mag X,.mag Y],[],0⟩=
  some (aa.fork (decide ((↑(nl Y):Int)>(2:Int))) (aa.af [nl X<2^40,nl Y<2^40] (aa.leaf aj.normal ([mag Y,mag (if Y=0 then 0 else X%Y)],[]))) (aa.leaf (aj.exit 0) ([mag X,mag Y],[]))):=by kernel_rfl
theorem aeM {X Y:Nat}:aG T GG [35,39] 60 [13,14,4] (before pG [1,1,1,0]) ⟨aB [5,6] [.mag X,.mag Y],[],0⟩=
  let c2:AV:=int IntKind.u64 (↑Y:Int);let c1:Nat:=if Y=0 then 0 else X%Y;some (aa.fork ((↑(nl Y):Int)==(0:Int)) (aa.leaf aj.ret ([tuple [],tuple [],mag X],[])) (aa.fork (decide ((↑(nl X):Int)>(2:Int))) (aa.af [nl X<2^40,nl Y<2^40] (aa.af [nl Y≤2,nl c1≤2] (aa.leaf aj.normal ([c2,int IntKind.u64 (↑c1:Int),tuple []],[])))) (aa.af [nl X≤2,nl Y≤2] (aa.leaf aj.normal ([int IntKind.u64 (↑X:Int),c2,tuple []],[]))))):=by kernel_rfl
theorem ade {x y:Nat}:aG T GG [54] 60 [13,14] [part pG [1,1,1,0,0,0]] ⟨aB [13,14] [.int .u64 x,.int .u64 y],[],0⟩=
  let c1 : Int := (↑y : Int); some (aa.fork (c1 != (0 : Int)) (aa.af [c1 ≠ (0 : Int)] (aa.leaf aj.normal ([int IntKind.u64 c1, int IntKind.u64 ((↑x : Int).tmod c1)], []))) (aa.leaf (aj.exit 2) ([int IntKind.u64 (↑x : Int), int IntKind.u64 c1], []))) := by kernel_rfl
theorem YS {x y:Nat}:bZ T GG [] 60 gn (behind pG [1,1,1,0]) ⟨aB [13,14] [.int .u64 x,.int .u64 y],[],0⟩=
  some (aa.af [(0:Int)≤(↑x:Int)∧(↑x:Int)<(2:Int)^64] (aa.leaf aj.ret [mag (↑x:Int).toNat])):=by kernel_rfl
theorem mJ {Y:Nat} (h:nl Y≤2):Y<2^64:=cI.1 h
theorem acG {n m:Nat} {z y:Nat→Nat} (hz:∀i,i<n→z i<2^32) (hy:∀i,i<m→y i<2^32) (hn:n<2^40) (hm':m<2^40) (K:Nat) (pre:aA):
  az P qv K [.ag 1 n (au z),.ag 1 m (au y)] pre (aF (.mag (Nat.gcd (val n z) (val m y))) []):=by
 refine iG hT Uz rfl (of_decide_eq_true (by kernel_rfl)) rfl (fun _ c h0=>?_) K pre
 have hk0:∀{nx:Nat} k x,c.k0 k=some x→k<nx:=iJ h0
 have hA:nl (val n z)≤n:=cI.2 (ey hz)
 have hB:nl (val m y)≤m:=cI.2 (ey hy)
 refine ak.hole [1,1,0] (by kernel_rfl) (aC.bf hT wD hm 60 [5,6] Oy (by kernel_rfl) ?_)
 simp only[aa.all,ax,ia]
 generalize val n z=A at*
 generalize val m y=B at*
 refine⟨⟨fc hz,by omega,by omega,fc hy,by omega,by omega⟩,fun s' hv=>bX ?_⟩
 refine ak.fR (i:=0) (y:=part (aq gn) [1,1,0,0,0]) (by kernel_rfl) [5,6] 0 hk0 (fun p:Nat×Nat=>[.mag p.1,.mag p.2]) (fun _=>[]) (fun _=>rfl) (fun _=>trivial)
  (fun p=>Nat.gcd p.1 p.2=Nat.gcd A B∧nl p.1<2^40∧nl p.2<2^40) (fun p=>p.2) (A,B) hv ⟨rfl,by simp only;omega,by simp only;omega⟩ ?_
 rintro⟨X,Y⟩ ⟨hg,hX,hY⟩
 simp only at hg hX hY
 refine ak.bf hT wD hm 60 [5,6] T7 (by kernel_rfl) ?_
 simp only[aa.all,ax,decide_eq_true_eq,decide_eq_false_iff_not]
 have hstep:∀{X Y:Nat},Y≠0→Nat.gcd Y (X%Y)=Nat.gcd X Y:=fun {X Y} _=>by rw[Nat.gcd_comm X Y,Nat.gcd_rec Y X,Nat.gcd_comm]
 refine⟨fun hb=>⟨⟨hX,hY⟩,fun s' hv=>?_⟩,fun hb s' hv=>ef ?_⟩
 ·have hY0:Y≠0:=eV.1 (by omega)
  have hlt:=Nat.mod_lt X (show 0<Y by omega)
  refine⟨(Y,X%Y),cO hv (by rw[if_neg hY0]) rfl,⟨by rw[←hg];exact hstep hY0,hY,Nat.lt_of_le_of_lt (fO (Nat.le_of_lt hlt)) hY⟩,hlt⟩
 have hY2:nl Y≤2:=by omega
 refine bX (aC.iQ (nx:=0) hv hk0 (by kernel_rfl) rfl trivial ?_)
 show aC P c gn.ntmps [pG] _ _
 refine ak.hole [1,1,1,0] (by kernel_rfl) (aC.bf hT wD hm 60 [13,14,4] aeM (by kernel_rfl) ?_)
 simp only[aa.all,ax,decide_eq_true_eq,decide_eq_false_iff_not,beq_iff_eq,beq_eq_false_iff_ne,ne_eq]
 have rest:∀{x y:Nat} {s':aE},x<2^64→y<2^64→Nat.gcd x y=Nat.gcd A B→aU [13,14,4] s'=some ([.int .u64 (x:Nat),.int .u64 (y:Nat)]++[.tuple []],[])→
   ak P c gn.ntmps (part pG [1,1,1,0]) s' (cX (fun s'=>aC P c gn.ntmps (behind pG [1,1,1,0]) s' (cX (fun s'=>aC P c gn.ntmps [] s' (Fin T gn (.mag (Nat.gcd A B)))) (Fin T gn (.mag (Nat.gcd A B)))))
    (cX (fun s'=>aC P c gn.ntmps [] s' (Fin T gn (.mag (Nat.gcd A B)))) (Fin T gn (.mag (Nat.gcd A B))))):=by
  intro x y s' hx hy hg hv
  have hv:=gl (ls:=[13,14]) (l:=[4]) (vs:=[.int .u64 (x:Nat),.int .u64 (y:Nat)]) hv rfl rfl
  refine ak.fR (i:=2) (y:=part pG [1,1,1,0,0,0]) (by kernel_rfl) [13,14] 0 hk0 (fun p:Nat×Nat=>[.int .u64 (p.1:Nat),.int .u64 (p.2:Nat)]) (fun _=>[]) (fun _=>rfl) (fun _=>trivial)
   (fun p=>Nat.gcd p.1 p.2=Nat.gcd A B∧p.1<2^64∧p.2<2^64) (fun p=>p.2) (x,y) hv ⟨hg,hx,hy⟩ ?_
  rintro⟨x,y⟩ ⟨hg,hx,hy⟩
  simp only at hg hx hy
  refine ak.bf hT wD hm 60 [13,14] ade (by kernel_rfl) ?_
  simp only[aa.all,ax,bne_iff_ne,ne_eq,bne_eq_false_iff_eq]
  refine⟨fun hb=>⟨hb,fun s' hv=>?_⟩,fun hb s' hv=>ef ?_⟩
  ·have hy0:y≠0:=by omega
   have hlt:=Nat.mod_lt x (show 0<y by omega)
   exact⟨(y,x%y),cO hv (by rw[←Int.ofNat_tmod]) rfl,⟨by rw[←hg];exact hstep hy0,hy,by simp only;omega⟩,hlt⟩
  ·have hy0:y=0:=by omega
   subst hy0
   refine bX ?_
   refine aC.mono (Q:=Fin T gn (.mag (Nat.gcd A B))) (fun e s' h=>by cases e<;>exact h) ?_
   refine aC.AI hT wD hm 60 (nx:=0) hv hk0 rfl trivial YS (by kernel_rfl) (by kernel_rfl) ⟨⟨by omega,by omega⟩,de ?_⟩
   rw[Int.toNat_natCast,←hg,Nat.gcd_zero_right]
 refine⟨fun hb s' hv=>ee (ee ?_),fun hb=>⟨fun h1=>⟨⟨hX,hY⟩,⟨by omega,?_⟩,fun s' hv=>bX (rest (mJ hY2) ?_ ?_ (cO hv rfl rfl))⟩,fun h1=>⟨⟨by omega,by omega⟩,fun s' hv=>bX (rest (mJ (by omega)) (mJ hY2) hg (cO hv rfl rfl))⟩⟩⟩
 ·have hY0:Y=0:=by
   rcases Nat.eq_zero_or_pos Y with h1|h1
   ·exact h1
   ·have:=eV.2 (show Y≠0 by omega);omega
  refine fk (us:=[.mag X]) (.inr rfl) hv (by kernel_rfl) (de ?_)
  rw[←hg,hY0,Nat.gcd_zero_right]
 all_goals
  have hY0:Y≠0:=eV.1 (by omega)
  have hlt:=Nat.mod_lt X (show 0<Y by omega)
  rw[if_neg hY0]
 ·exact Nat.le_trans (fO (Nat.le_of_lt hlt)) hY2
 ·exact Nat.lt_trans hlt (mJ hY2)
 ·rw[←hg];exact hstep hY0
def EN (A n B m:Nat):cJ:=aF (.mag (Nat.gcd A B)) [n<2^40,m<2^40]
theorem Mx:∀K args pre r,bA (fT EN) K args pre=some r→az P qv K args pre r:=
 bS (qP fun _ _ _ _ K hz hy need=>acG hz hy need.1 need.2 K [])
end Go.Am.B
