/- natural.Gcd. -/
import Derived.Test.YtgfjdngnneoeoaaGreatB13
set_option linter.unusedVariables false
namespace Go.Am.B
open Go Go.Am.N AV Proofs.Tryz
theorem Rh:aX 132 f132:=aM func132
def GG:aV:=(133,bX (iY B9))::(169,y7)::(171,bX (mh z6))::(135,BV)::G1
noncomputable abbrev qp:Code:=part (aF f132) [1,1,1]
theorem xy:bg P GG:=aE J2 (aE Ce (aE Sr (aE NX gX)))
theorem Va {n m:Nat} {z y:Nat->Nat}:aL T GG [] 60 [5,6] (before (aF f132) [1,1,0]) ⟨aS 0 [.ak 1 n (aA z),.ak 1 m (aA y)],[],0⟩=
  let c2:Nat:=val n fun i=>numOf (aA z i);let c1:Nat:=val m fun i=>numOf (aA y i);some (ag.aj [eo n (aA z),n<2^62,nl c2<2^40,eo m (aA y),m<2^62,nl c1<2^40] (ag.leaf aq.normal ([mag c2,mag c1],[]))):=ah
theorem T4 {X Y:Nat}:aL T GG [23] 60 [5,6] [part (aF f132) [1,1,0,0,0]] ⟨aG [5,6] [.mag X,.mag Y],[],0⟩=
  some (ag.fork (decide ((↑(nl Y):Int)>2)) (ag.aj [nl X<2^40,nl Y<2^40] (ag.leaf aq.normal ([mag Y,mag (if Y=0 then 0 else X%Y)],[]))) (ag.leaf (aq.exit 0) ([mag X,mag Y],[]))):=ah
theorem Xl {X Y:Nat}:aL T GG [35,39] 60 [13,14,4] (before qp [1,1,1,0]) ⟨aG [5,6] [.mag X,.mag Y],[],0⟩=
  let c2:AV:=int .u64 (↑Y:Int);let c1:Nat:=if Y=0 then 0 else X%Y;some (ag.fork ((↑(nl Y):Int)==0) (ag.leaf aq.ret ([tuple [],tuple [],mag X],[])) (ag.fork (decide ((↑(nl X):Int)>2)) (ag.aj [nl X<2^40,nl Y<2^40] (ag.aj [nl Y<=2,nl c1<=2] (ag.leaf aq.normal ([c2,int .u64 (↑c1:Int),tuple []],[])))) (ag.aj [nl X<=2,nl Y<=2] (ag.leaf aq.normal ([int .u64 (↑X:Int),c2,tuple []],[]))))):=ah
theorem Yd {x y:Nat}:aL T GG [54] 60 [13,14] [part qp [1,1,1,0,0,0]] ⟨aG [13,14] [.int .u64 x,.int .u64 y],[],0⟩=
  let c1:Int:=(↑y:Int);some (ag.fork (c1 !=(0:Int)) (ag.aj [c1≠(0:Int)] (ag.leaf aq.normal ([int .u64 c1,int .u64 ((↑x:Int).tmod c1)],[]))) (ag.leaf (aq.exit 2) ([int .u64 (↑x:Int),int .u64 c1],[]))):=ah
theorem adD {x y:Nat}:cP T GG [] 60 f132 (behind qp [1,1,1,0]) ⟨aG [13,14] [.int .u64 x,.int .u64 y],[],0⟩=
  some (ag.aj [(0:Int)<=(↑x:Int)/\(↑x:Int)<2^64] (ag.leaf aq.ret [mag (↑x:Int).toNat])):=ah
theorem pG {Y:Nat} (h:nl Y<=2):Y<2^64:=dL.1 h
theorem S4 {n m:Nat} {z y:Nat->Nat} (hz:∀i,i<n->z i<2^32) (hy:∀i,i<m->y i<2^32) (hn:n<2^40) (hm':m<2^40) (K:Nat) (pre:aD):
  aN P 132 K [.ak 1 n (aA z),.ak 1 m (aA y)] pre (aH (.mag (Nat.gcd (val n z) (val m y))) []):=by
 refine jN hT Rh rfl aW rfl (fun _ c h0=>?_) K pre
 have hk0:∀{nx:Nat} k x,c.k0 k=some x->k<nx:=jW h0
 have hA:nl (val n z)<=n:=dL.2 (ga hz)
 have hB:nl (val m y)<=m:=dL.2 (ga hy)
 refine ay.hole [1,1,0] ah (aI.bH hT xy hm 60 [5,6] Va ah ?_)
 simp only[ag.all,au,jO]
 generalize val n z=A at*
 generalize val m y=B at*
 refine⟨⟨gD hz,aa,aa,gD hy,aa,aa⟩,fun s' hv=>cL ?_⟩
 refine ay.iF (i:=0) (y:=part (aF f132) [1,1,0,0,0]) ah [5,6] 0 hk0 (fun p:Nat×Nat=>[.mag p.1,.mag p.2]) (fun _=>[]) (fun _=>rfl) (fun _=>trivial)
  (fun p=>Nat.gcd p.1 p.2=Nat.gcd A B/\nl p.1<2^40/\nl p.2<2^40) (fun p=>p.2) (A,B) hv ⟨rfl,by simp only;omega,by simp only;omega⟩ ?_
 rintro⟨X,Y⟩ ⟨hg,hX,hY⟩
 simp only at hg hX hY
 refine ay.bH hT xy hm 60 [5,6] T4 ah ?_
 simp only[ag.all,au,bz,bG]
 have hstep:∀{X Y:Nat},Y≠0->Nat.gcd Y (X%Y)=Nat.gcd X Y:=fun {X Y} _=>by rw[Nat.gcd_comm X Y,Nat.gcd_rec Y X,Nat.gcd_comm]
 refine⟨fun hb=>⟨⟨hX,hY⟩,fun s' hv=>?_⟩,fun hb s' hv=>fK ?_⟩
 ·have hY0:Y≠0:=gE.1 aa
  have hlt:=Nat.mod_lt X (show 0<Y by omega)
  refine⟨(Y,X%Y),ee hv (by rw[if_neg hY0]) rfl,⟨by rw[<-hg];exact hstep hY0,hY,Nat.lt_of_le_of_lt (iC (Nat.le_of_lt hlt)) hY⟩,hlt⟩
 have hY2:nl Y<=2:=aa
 refine cL (aI.j3 (nx:=0) hv hk0 ah rfl trivial ?_)
 show aI P c f132.ntmps [qp] _ _
 refine ay.hole [1,1,1,0] ah (aI.bH hT xy hm 60 [13,14,4] Xl ah ?_)
 simp only[ag.all,au,bz,bG,beq_iff_eq,beq_eq_false_iff_ne,ne_eq]
 have rest:∀{x y:Nat} {s':aK},x<2^64->y<2^64->Nat.gcd x y=Nat.gcd A B->bB [13,14,4] s'=some ([.int .u64 (x:Nat),.int .u64 (y:Nat)]++[.tuple []],[])->
   ay P c f132.ntmps (part qp [1,1,1,0]) s' (ey (fun s'=>aI P c f132.ntmps (behind qp [1,1,1,0]) s' (ey (fun s'=>aI P c f132.ntmps [] s' (Fin T f132 (.mag (Nat.gcd A B)))) (Fin T f132 (.mag (Nat.gcd A B)))))
    (ey (fun s'=>aI P c f132.ntmps [] s' (Fin T f132 (.mag (Nat.gcd A B)))) (Fin T f132 (.mag (Nat.gcd A B))))):=by
  intro x y s' hx hy hg hv
  have hv:=jI (ls:=[13,14]) (l:=[4]) (vs:=[.int .u64 (x:Nat),.int .u64 (y:Nat)]) hv rfl rfl
  refine ay.iF (i:=2) (y:=part qp [1,1,1,0,0,0]) ah [13,14] 0 hk0 (fun p:Nat×Nat=>[.int .u64 (p.1:Nat),.int .u64 (p.2:Nat)]) (fun _=>[]) (fun _=>rfl) (fun _=>trivial)
   (fun p=>Nat.gcd p.1 p.2=Nat.gcd A B/\p.1<2^64/\p.2<2^64) (fun p=>p.2) (x,y) hv ⟨hg,hx,hy⟩ ?_
  rintro⟨x,y⟩ ⟨hg,hx,hy⟩
  simp only at hg hx hy
  refine ay.bH hT xy hm 60 [13,14] Yd ah ?_
  simp only[ag.all,au,bne_iff_ne,ne_eq,bne_eq_false_iff_eq]
  refine⟨fun hb=>⟨hb,fun s' hv=>?_⟩,fun hb s' hv=>fK ?_⟩
  ·have hy0:y≠0:=aa
   have hlt:=Nat.mod_lt x (show 0<y by omega)
   exact⟨(y,x%y),ee hv (by rw[<-Int.ofNat_tmod]) rfl,⟨by rw[<-hg];exact hstep hy0,hy,by simp only;omega⟩,hlt⟩
  ·have hy0:y=0:=aa
   subst hy0
   refine cL ?_
   refine aI.mono (Q:=Fin T f132 (.mag (Nat.gcd A B))) (fun e s' h=>by cases e<;>exact h) ?_
   refine aI.AX hT xy hm 60 (nx:=0) hv hk0 rfl trivial adD ah ah ⟨⟨aa,aa⟩,dX ?_⟩
   rw[br,<-hg,Nat.gcd_zero_right]
 refine⟨fun hb s' hv=>fI (fI ?_),fun hb=>⟨fun h1=>⟨⟨hX,hY⟩,⟨aa,?_⟩,fun s' hv=>cL (rest (pG hY2) ?_ ?_ (ee hv rfl rfl))⟩,fun h1=>⟨⟨aa,aa⟩,fun s' hv=>cL (rest (pG aa) (pG hY2) hg (ee hv rfl rfl))⟩⟩⟩
 ·have hY0:Y=0:=by
   rcases Nat.eq_zero_or_pos Y with h1|h1
   ·exact h1
   ·have:=gE.2 (show Y≠0 by omega);omega
  refine gU (us:=[.mag X]) (.inr rfl) hv ah (dX ?_)
  rw[<-hg,hY0,Nat.gcd_zero_right]
 all_goals
  have hY0:Y≠0:=gE.1 aa
  have hlt:=Nat.mod_lt X (show 0<Y by omega)
  rw[if_neg hY0]
 ·exact Nat.le_trans (iC (Nat.le_of_lt hlt)) hY2
 ·exact Nat.lt_trans hlt (pG hY2)
 ·rw[<-hg];exact hstep hY0
def LR (A n B m:Nat):dw:=aH (.mag (Nat.gcd A B)) [n<2^40,m<2^40]
theorem Pn:bf P (bX (iY LR)) 132:=
 cM (sC fun _ _ _ _ K hz hy need=>S4 hz hy need.1 need.2 K [])
end Go.Am.B
