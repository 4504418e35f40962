/- natural.Gcd. -/
import Derived.Test.YtgfjdngnneoeoaaGreatB13
set_option linter.unusedVariables false
namespace Go.Am.B
open Go Go.Am.N AV Proofs.Tryz
theorem Wx:aW 132 f132:=aN func132
def GG:aU:=(133,bY (iN C8))::(169,zD)::(171,bY (lW yg))::(135,Ej)::G1
noncomputable abbrev qU:Code:=part (aF f132) [1,1,1]
theorem vF:aZ P GG:=aE Hh (aE BO (aE ahh (aE L7 gU)))
theorem YT {n m:Nat} {z y:Nat->Nat}:aM T GG [] 60 [5,6] (before (aF f132) [1,1,0]) ⟨aT 0 [.aq 1 n (aA z),.aq 1 m (aA y)],[],0⟩=
  let c2:Nat:=val n fun i=>numOf (aA z i);let c1:Nat:=val m fun i=>numOf (aA y i);some (ag.aj [ee n (aA z),n<2^62,nl c2<2^40,ee m (aA y),m<2^62,nl c1<2^40] (ag.leaf ak.normal ([mag c2,mag c1],[]))):=ah
theorem YJ {X Y:Nat}:aM T GG [23] 60 [5,6] [part (aF f132) [1,1,0,0,0]] ⟨aH [5,6] [.mag X,.mag Y],[],0⟩=
  some (ag.fork (decide ((↑(nl Y):Int)>2)) (ag.aj [nl X<2^40,nl Y<2^40] (ag.leaf ak.normal ([mag Y,mag (if Y=0 then 0 else X%Y)],[]))) (ag.leaf (ak.exit 0) ([mag X,mag Y],[]))):=ah
theorem acE {X Y:Nat}:aM T GG [35,39] 60 [13,14,4] (before qU [1,1,1,0]) ⟨aH [5,6] [.mag X,.mag Y],[],0⟩=
  let c2:AV:=int .u64 (↑Y:Int);let c1:Nat:=if Y=0 then 0 else X%Y;some (ag.fork ((↑(nl Y):Int)==0) (ag.leaf ak.ret ([tuple [],tuple [],mag X],[])) (ag.fork (decide ((↑(nl X):Int)>2)) (ag.aj [nl X<2^40,nl Y<2^40] (ag.aj [nl Y<=2,nl c1<=2] (ag.leaf ak.normal ([c2,int .u64 (↑c1:Int),tuple []],[])))) (ag.aj [nl X<=2,nl Y<=2] (ag.leaf ak.normal ([int .u64 (↑X:Int),c2,tuple []],[]))))):=ah
theorem ZI {x y:Nat}:aM T GG [54] 60 [13,14] [part qU [1,1,1,0,0,0]] ⟨aH [13,14] [.int .u64 x,.int .u64 y],[],0⟩=
  let c1:Int:=(↑y:Int);some (ag.fork (c1 !=(0:Int)) (ag.aj [c1≠(0:Int)] (ag.leaf ak.normal ([int .u64 c1,int .u64 ((↑x:Int).tmod c1)],[]))) (ag.leaf (ak.exit 2) ([int .u64 (↑x:Int),int .u64 c1],[]))):=ah
theorem QS {x y:Nat}:cR T GG [] 60 f132 (behind qU [1,1,1,0]) ⟨aH [13,14] [.int .u64 x,.int .u64 y],[],0⟩=
  some (ag.aj [(0:Int)<=(↑x:Int)/\(↑x:Int)<2^64] (ag.leaf ak.ret [mag (↑x:Int).toNat])):=ah
theorem pG {Y:Nat} (h:nl Y<=2):Y<2^64:=dy.1 h
theorem adn {n m:Nat} {z y:Nat->Nat} (hz:∀i,i<n->z i<2^32) (hy:∀i,i<m->y i<2^32) (hn:n<2^40) (hm':m<2^40) (K:Nat) (pre:aD):
  aO P 132 K [.aq 1 n (aA z),.aq 1 m (aA y)] pre (aI (.mag (Nat.gcd (val n z) (val m y))) []):=by
 refine jF hT Wx rfl aV rfl (fun _ c h0=>?_) K pre
 have hk0:∀{nx:Nat} k x,c.k0 k=some x->k<nx:=jz h0
 have hA:nl (val n z)<=n:=dy.2 (ga hz)
 have hB:nl (val m y)<=m:=dy.2 (ga hy)
 refine ay.hole [1,1,0] ah (aJ.bE hT vF hm 60 [5,6] YT ah ?_)
 simp only[ag.all,au,jE]
 generalize val n z=A at*
 generalize val m y=B at*
 refine⟨⟨gG hz,aa,aa,gG hy,aa,aa⟩,fun s' hv=>cF ?_⟩
 refine ay.ij (i:=0) (y:=part (aF f132) [1,1,0,0,0]) ah [5,6] 0 hk0 (fun p:Nat×Nat=>[.mag p.1,.mag p.2]) (fun _=>[]) (fun _=>rfl) (fun _=>trivial)
  (fun p=>Nat.gcd p.1 p.2=Nat.gcd A B/\nl p.1<2^40/\nl p.2<2^40) (fun p=>p.2) (A,B) hv ⟨rfl,by simp only;omega,by simp only;omega⟩ ?_
 rintro⟨X,Y⟩ ⟨hg,hX,hY⟩
 simp only at hg hX hY
 refine ay.bE hT vF hm 60 [5,6] YJ ah ?_
 simp only[ag.all,au,bz,bF]
 have hstep:∀{X Y:Nat},Y≠0->Nat.gcd Y (X%Y)=Nat.gcd X Y:=fun {X Y} _=>by rw[Nat.gcd_comm X Y,Nat.gcd_rec Y X,Nat.gcd_comm]
 refine⟨fun hb=>⟨⟨hX,hY⟩,fun s' hv=>?_⟩,fun hb s' hv=>fG ?_⟩
 ·have hY0:Y≠0:=gA.1 aa
  have hlt:=Nat.mod_lt X (show 0<Y by omega)
  refine⟨(Y,X%Y),dS hv (by rw[if_neg hY0]) rfl,⟨by rw[<-hg];exact hstep hY0,hY,Nat.lt_of_le_of_lt (ic (Nat.le_of_lt hlt)) hY⟩,hlt⟩
 have hY2:nl Y<=2:=aa
 refine cF (aJ.jQ (nx:=0) hv hk0 ah rfl trivial ?_)
 show aJ P c f132.ntmps [qU] _ _
 refine ay.hole [1,1,1,0] ah (aJ.bE hT vF hm 60 [13,14,4] acE ah ?_)
 simp only[ag.all,au,bz,bF,beq_iff_eq,beq_eq_false_iff_ne,ne_eq]
 have rest:∀{x y:Nat} {s':aL},x<2^64->y<2^64->Nat.gcd x y=Nat.gcd A B->bC [13,14,4] s'=some ([.int .u64 (x:Nat),.int .u64 (y:Nat)]++[.tuple []],[])->
   ay P c f132.ntmps (part qU [1,1,1,0]) s' (ej (fun s'=>aJ P c f132.ntmps (behind qU [1,1,1,0]) s' (ej (fun s'=>aJ P c f132.ntmps [] s' (Fin T f132 (.mag (Nat.gcd A B)))) (Fin T f132 (.mag (Nat.gcd A B)))))
    (ej (fun s'=>aJ P c f132.ntmps [] s' (Fin T f132 (.mag (Nat.gcd A B)))) (Fin T f132 (.mag (Nat.gcd A B))))):=by
  intro x y s' hx hy hg hv
  have hv:=jn (ls:=[13,14]) (l:=[4]) (vs:=[.int .u64 (x:Nat),.int .u64 (y:Nat)]) hv rfl rfl
  refine ay.ij (i:=2) (y:=part qU [1,1,1,0,0,0]) ah [13,14] 0 hk0 (fun p:Nat×Nat=>[.int .u64 (p.1:Nat),.int .u64 (p.2:Nat)]) (fun _=>[]) (fun _=>rfl) (fun _=>trivial)
   (fun p=>Nat.gcd p.1 p.2=Nat.gcd A B/\p.1<2^64/\p.2<2^64) (fun p=>p.2) (x,y) hv ⟨hg,hx,hy⟩ ?_
  rintro⟨x,y⟩ ⟨hg,hx,hy⟩
  simp only at hg hx hy
  refine ay.bE hT vF hm 60 [13,14] ZI ah ?_
  simp only[ag.all,au,bne_iff_ne,ne_eq,bne_eq_false_iff_eq]
  refine⟨fun hb=>⟨hb,fun s' hv=>?_⟩,fun hb s' hv=>fG ?_⟩
  ·have hy0:y≠0:=aa
   have hlt:=Nat.mod_lt x (show 0<y by omega)
   exact⟨(y,x%y),dS hv (by rw[<-Int.ofNat_tmod]) rfl,⟨by rw[<-hg];exact hstep hy0,hy,by simp only;omega⟩,hlt⟩
  ·have hy0:y=0:=aa
   subst hy0
   refine cF ?_
   refine aJ.mono (Q:=Fin T f132 (.mag (Nat.gcd A B))) (fun e s' h=>by cases e<;>exact h) ?_
   refine aJ.y7 hT vF hm 60 (nx:=0) hv hk0 rfl trivial QS ah ah ⟨⟨aa,aa⟩,dM ?_⟩
   rw[bw,<-hg,Nat.gcd_zero_right]
 refine⟨fun hb s' hv=>fA (fA ?_),fun hb=>⟨fun h1=>⟨⟨hX,hY⟩,⟨aa,?_⟩,fun s' hv=>cF (rest (pG hY2) ?_ ?_ (dS hv rfl rfl))⟩,fun h1=>⟨⟨aa,aa⟩,fun s' hv=>cF (rest (pG aa) (pG hY2) hg (dS hv rfl rfl))⟩⟩⟩
 ·have hY0:Y=0:=by
   rcases Nat.eq_zero_or_pos Y with h1|h1
   ·exact h1
   ·have:=gA.2 (show Y≠0 by omega);omega
  refine gL (us:=[.mag X]) (.inr rfl) hv ah (dM ?_)
  rw[<-hg,hY0,Nat.gcd_zero_right]
 all_goals
  have hY0:Y≠0:=gA.1 aa
  have hlt:=Nat.mod_lt X (show 0<Y by omega)
  rw[if_neg hY0]
 ·exact Nat.le_trans (ic (Nat.le_of_lt hlt)) hY2
 ·exact Nat.lt_trans hlt (pG hY2)
 ·rw[<-hg];exact hstep hY0
def IP (A n B m:Nat):dm:=aI (.mag (Nat.gcd A B)) [n<2^40,m<2^40]
theorem V7:aY P (bY (iN IP)) 132:=
 cJ (rJ fun _ _ _ _ K hz hy need=>adn hz hy need.1 need.2 K [])
end Go.Am.B
