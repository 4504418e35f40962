/- natural.Gcd. -/
import Derived.Test.YtppeigelbecpbaaGreatB13
set_option linter.unusedVariables false
namespace Go.Am.B
open Go Go.Am.N AV
theorem aiW:aO P s7 ic (au ic):=aQ aeb (by kernel_rfl) (by kernel_rfl) (by kernel_rfl)
def GG:aR:=(sr,bC (gP HX))::(qD,BU)::(v5,bC (kW BQ))::(sw,Gc)::G1
noncomputable abbrev qA:Code:=part (au ic) [1,1,1]
theorem yb:aY P GG:=aG OT (aG E2 (aG afC (aG QI gj)))
theorem af1 {n m:Nat} {z y:Nat→Nat}:aH T GG [] 60 [5,6] (before (au ic) [1,1,0]) ⟨aN 0 [.ak 1 n (ay z),.ak 1 m (ay y)],[],0⟩=
  let c2:Nat:=val n fun i↦numOf (ay z i);let c1:Nat:=val m fun i↦numOf (ay y i);some (aa.ag [dB n (ay z),n<2^62,nl c2<2^40,dB m (ay y),m<2^62,nl c1<2^40] (aa.leaf aj.normal ([mag c2,mag c1],[]))):=by kernel_rfl
theorem Xh {X Y:Nat}:aH T GG [23] 60 [5,6] [part (au ic) [1,1,0,0,0]] ⟨aA [5,6] [.mag X,.mag Y],[],0⟩=
  some (aa.fork (decide ((↑(nl Y):Int)>(2:Int))) (aa.ag [nl X<2^40,nl Y<2^40] (aa.leaf aj.normal ([mag Y,mag (if Y=0 then 0 else X%Y)],[]))) (aa.leaf (aj.exit 0) ([mag X,mag Y],[]))):=by kernel_rfl
theorem XM {X Y:Nat}:aH T GG [35,39] 60 [13,14,4] (before qA [1,1,1,0]) ⟨aA [5,6] [.mag X,.mag Y],[],0⟩=
  let c2:AV:=int IntKind.u64 (↑Y:Int);let c1:Nat:=if Y=0 then 0 else X%Y;some (aa.fork ((↑(nl Y):Int)==(0:Int)) (aa.leaf aj.ret ([tuple [],tuple [],mag X],[])) (aa.fork (decide ((↑(nl X):Int)>(2:Int))) (aa.ag [nl X<2^40,nl Y<2^40] (aa.ag [nl Y≤2,nl c1≤2] (aa.leaf aj.normal ([c2,int IntKind.u64 (↑c1:Int),tuple []],[])))) (aa.ag [nl X≤2,nl Y≤2] (aa.leaf aj.normal ([int IntKind.u64 (↑X:Int),c2,tuple []],[]))))):=by kernel_rfl
theorem Ww {x y:Nat}:aH T GG [54] 60 [13,14] [part qA [1,1,1,0,0,0]] ⟨aA [13,14] [.int .u64 x,.int .u64 y],[],0⟩=
  let c1 : Int := (↑y : Int); some (aa.fork (c1 != (0 : Int)) (aa.ag [c1 ≠ (0 : Int)] (aa.leaf aj.normal ([int IntKind.u64 c1, int IntKind.u64 ((↑x : Int).tmod c1)], []))) (aa.leaf (aj.exit 2) ([int IntKind.u64 (↑x : Int), int IntKind.u64 c1], []))) := by kernel_rfl
theorem WN {x y:Nat}:cm T GG [] 60 ic (behind qA [1,1,1,0]) ⟨aA [13,14] [.int .u64 x,.int .u64 y],[],0⟩=
  some (aa.ag [(0:Int)≤(↑x:Int)∧(↑x:Int)<(2:Int)^64] (aa.leaf aj.ret [mag (↑x:Int).toNat])):=by kernel_rfl
theorem oG {Y:Nat} (h:nl Y≤2):Y<2^64:=cT.1 h
theorem acP {n m:Nat} {z y:Nat→Nat} (hz:∀i,i<n→z i<2^32) (hy:∀i,i<m→y i<2^32) (hn:n<2^40) (hm':m<2^40) (K:Nat) (pre:aC):
  aB P s7 K [.ak 1 n (ay z),.ak 1 m (ay y)] pre (aK (.mag (Nat.gcd (val n z) (val m y))) []):=by
 refine jk hT aiW rfl (of_decide_eq_true (by kernel_rfl)) rfl (fun _ c h0=>?_) K pre
 have hk0:∀{nx:Nat} k x,c.k0 k=some x→k<nx:=jl h0
 have hA:nl (val n z)≤n:=cT.2 (fq hz)
 have hB:nl (val m y)≤m:=cT.2 (fq hy)
 refine aq.hole [1,1,0] (by kernel_rfl) (aD.bf hT yb hm 60 [5,6] af1 (by kernel_rfl) ?_)
 simp only[aa.all,ax,jn]
 generalize val n z=A at*
 generalize val m y=B at*
 refine⟨⟨fR hz,by omega,by omega,fR hy,by omega,by omega⟩,fun s' hv=>bY ?_⟩
 refine aq.gC (i:=0) (y:=part (au ic) [1,1,0,0,0]) (by kernel_rfl) [5,6] 0 hk0 (fun p:Nat×Nat=>[.mag p.1,.mag p.2]) (fun _=>[]) (fun _=>rfl) (fun _=>trivial)
  (fun p=>Nat.gcd p.1 p.2=Nat.gcd A B∧nl p.1<2^40∧nl p.2<2^40) (fun p=>p.2) (A,B) hv ⟨rfl,by simp only;omega,by simp only;omega⟩ ?_
 rintro⟨X,Y⟩ ⟨hg,hX,hY⟩
 simp only at hg hX hY
 refine aq.bf hT yb hm 60 [5,6] Xh (by kernel_rfl) ?_
 simp only[aa.all,ax,decide_eq_true_eq,decide_eq_false_iff_not]
 have hstep:∀{X Y:Nat},Y≠0→Nat.gcd Y (X%Y)=Nat.gcd X Y:=fun {X Y} _=>by rw[Nat.gcd_comm X Y,Nat.gcd_rec Y X,Nat.gcd_comm]
 refine⟨fun hb=>⟨⟨hX,hY⟩,fun s' hv=>?_⟩,fun hb s' hv=>eV ?_⟩
 ·have hY0:Y≠0:=fY.1 (by omega)
  have hlt:=Nat.mod_lt X (show 0<Y by omega)
  refine⟨(Y,X%Y),dm hv (by rw[if_neg hY0]) rfl,⟨by rw[←hg];exact hstep hY0,hY,Nat.lt_of_le_of_lt (gB (Nat.le_of_lt hlt)) hY⟩,hlt⟩
 have hY2:nl Y≤2:=by omega
 refine bY (aD.jD (nx:=0) hv hk0 (by kernel_rfl) rfl trivial ?_)
 show aD P c ic.ntmps [qA] _ _
 refine aq.hole [1,1,1,0] (by kernel_rfl) (aD.bf hT yb hm 60 [13,14,4] XM (by kernel_rfl) ?_)
 simp only[aa.all,ax,decide_eq_true_eq,decide_eq_false_iff_not,beq_iff_eq,beq_eq_false_iff_ne,ne_eq]
 have rest:∀{x y:Nat} {s':aF},x<2^64→y<2^64→Nat.gcd x y=Nat.gcd A B→aX [13,14,4] s'=some ([.int .u64 (x:Nat),.int .u64 (y:Nat)]++[.tuple []],[])→
   aq P c ic.ntmps (part qA [1,1,1,0]) s' (dz (fun s'=>aD P c ic.ntmps (behind qA [1,1,1,0]) s' (dz (fun s'=>aD P c ic.ntmps [] s' (Fin T ic (.mag (Nat.gcd A B)))) (Fin T ic (.mag (Nat.gcd A B)))))
    (dz (fun s'=>aD P c ic.ntmps [] s' (Fin T ic (.mag (Nat.gcd A B)))) (Fin T ic (.mag (Nat.gcd A B))))):=by
  intro x y s' hx hy hg hv
  have hv:=hH (ls:=[13,14]) (l:=[4]) (vs:=[.int .u64 (x:Nat),.int .u64 (y:Nat)]) hv rfl rfl
  refine aq.gC (i:=2) (y:=part qA [1,1,1,0,0,0]) (by kernel_rfl) [13,14] 0 hk0 (fun p:Nat×Nat=>[.int .u64 (p.1:Nat),.int .u64 (p.2:Nat)]) (fun _=>[]) (fun _=>rfl) (fun _=>trivial)
   (fun p=>Nat.gcd p.1 p.2=Nat.gcd A B∧p.1<2^64∧p.2<2^64) (fun p=>p.2) (x,y) hv ⟨hg,hx,hy⟩ ?_
  rintro⟨x,y⟩ ⟨hg,hx,hy⟩
  simp only at hg hx hy
  refine aq.bf hT yb hm 60 [13,14] Ww (by kernel_rfl) ?_
  simp only[aa.all,ax,bne_iff_ne,ne_eq,bne_eq_false_iff_eq]
  refine⟨fun hb=>⟨hb,fun s' hv=>?_⟩,fun hb s' hv=>eV ?_⟩
  ·have hy0:y≠0:=by omega
   have hlt:=Nat.mod_lt x (show 0<y by omega)
   exact⟨(y,x%y),dm hv (by rw[←Int.ofNat_tmod]) rfl,⟨by rw[←hg];exact hstep hy0,hy,by simp only;omega⟩,hlt⟩
  ·have hy0:y=0:=by omega
   subst hy0
   refine bY ?_
   refine aD.mono (Q:=Fin T ic (.mag (Nat.gcd A B))) (fun e s' h=>by cases e<;>exact h) ?_
   refine aD.DO hT yb hm 60 (nx:=0) hv hk0 rfl trivial WN (by kernel_rfl) (by kernel_rfl) ⟨⟨by omega,by omega⟩,dc ?_⟩
   rw[Int.toNat_natCast,←hg,Nat.gcd_zero_right]
 refine⟨fun hb s' hv=>eW (eW ?_),fun hb=>⟨fun h1=>⟨⟨hX,hY⟩,⟨by omega,?_⟩,fun s' hv=>bY (rest (oG hY2) ?_ ?_ (dm hv rfl rfl))⟩,fun h1=>⟨⟨by omega,by omega⟩,fun s' hv=>bY (rest (oG (by omega)) (oG hY2) hg (dm hv rfl rfl))⟩⟩⟩
 ·have hY0:Y=0:=by
   rcases Nat.eq_zero_or_pos Y with h1|h1
   ·exact h1
   ·have:=fY.2 (show Y≠0 by omega);omega
  refine fZ (us:=[.mag X]) (.inr rfl) hv (by kernel_rfl) (dc ?_)
  rw[←hg,hY0,Nat.gcd_zero_right]
 all_goals
  have hY0:Y≠0:=fY.1 (by omega)
  have hlt:=Nat.mod_lt X (show 0<Y by omega)
  rw[if_neg hY0]
 ·exact Nat.le_trans (gB (Nat.le_of_lt hlt)) hY2
 ·exact Nat.lt_trans hlt (oG hY2)
 ·rw[←hg];exact hstep hY0
def Ht (A n B m:Nat):cJ:=aK (.mag (Nat.gcd A B)) [n<2^40,m<2^40]
theorem OY:∀K args pre r,bC (gP Ht) K args pre=some r→aB P s7 K args pre r:=
 bV (r4 fun _ _ _ _ K hz hy need=>acP hz hy need.1 need.2 K [])
end Go.Am.B
