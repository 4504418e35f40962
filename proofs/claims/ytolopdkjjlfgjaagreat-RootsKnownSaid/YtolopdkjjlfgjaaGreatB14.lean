/- natural.Gcd. -/
import Derived.Test.YtolopdkjjlfgjaaGreatB13
set_option linter.unusedVariables false
namespace Go.Am.B
open Go Go.Am.N AV Proofs.Tryz
theorem Ue:bC 167 f167:=bD func167
def GG:bG:=(168,cw (jH FM))::(181,Ai)::(182,cw (mW BX))::(170,Es)::G1
noncomputable abbrev sF:Code:=part (aJ f167) [1,1,1]
theorem xh:cm P GG:=aM HA (aM Gm (aM ad0 (aM Ll iY)))
theorem RG {n m:Nat} {z y:Nat->Nat}:aK T GG [] 60 [5,6] (before (aJ f167) [1,1,0]) ⟨bf 0 [.az 1 n (aD z),.az 1 m (aD y)],[],0⟩=
  let c2:Nat:=val n fun i=>numOf (aD z i);let c1:Nat:=val m fun i=>numOf (aD y i);some (af.aj [fu n (aD z),n<2^62,nl c2<2^40,fu m (aD y),m<2^62,nl c1<2^40] (af.leaf au.normal ([mag c2,mag c1],[]))):=ah
theorem abr {X Y:Nat}:aK T GG [23] 60 [5,6] [part (aJ f167) [1,1,0,0,0]] ⟨aH [5,6] [.mag X,.mag Y],[],0⟩=
  some (af.fork (decide ((↑(nl Y):Int)>2)) (af.aj [nl X<2^40,nl Y<2^40] (af.leaf au.normal ([mag Y,mag (if Y=0 then 0 else X%Y)],[]))) (af.leaf (au.exit 0) ([mag X,mag Y],[]))):=ah
theorem afH {X Y:Nat}:aK T GG [35,39] 60 [13,14,4] (before sF [1,1,1,0]) ⟨aH [5,6] [.mag X,.mag Y],[],0⟩=
  let c2:AV:=int .u64 (↑Y:Int);let c1:Nat:=if Y=0 then 0 else X%Y;some (af.fork ((↑(nl Y):Int)==0) (af.leaf au.ret ([tuple [],tuple [],mag X],[])) (af.fork (decide ((↑(nl X):Int)>2)) (af.aj [nl X<2^40,nl Y<2^40] (af.aj [nl Y<=2,nl c1<=2] (af.leaf au.normal ([c2,int .u64 (↑c1:Int),tuple []],[])))) (af.aj [nl X<=2,nl Y<=2] (af.leaf au.normal ([int .u64 (↑X:Int),c2,tuple []],[]))))):=ah
theorem abR {x y:Nat}:aK T GG [54] 60 [13,14] [part sF [1,1,1,0,0,0]] ⟨aH [13,14] [.int .u64 x,.int .u64 y],[],0⟩=
  let c1:Int:=(↑y:Int);some (af.fork (c1 !=(0:Int)) (af.aj [c1≠(0:Int)] (af.leaf au.normal ([int .u64 c1,int .u64 ((↑x:Int).tmod c1)],[]))) (af.leaf (au.exit 2) ([int .u64 (↑x:Int),int .u64 c1],[]))):=ah
theorem WD {x y:Nat}:dJ T GG [] 60 f167 (behind sF [1,1,1,0]) ⟨aH [13,14] [.int .u64 x,.int .u64 y],[],0⟩=
  some (af.aj [(0:Int)<=(↑x:Int)/\(↑x:Int)<2^64] (af.leaf au.ret [mag (↑x:Int).toNat])):=ah
theorem ru {Y:Nat} (h:nl Y<=2):Y<2^64:=eo.1 h
theorem Tb {n m:Nat} {z y:Nat->Nat} (hz:∀i,i<n->z i<2^32) (hy:∀i,i<m->y i<2^32) (hn:n<2^40) (hm':m<2^40) (K:Nat) (pre:aG):
  aY P 167 K [.az 1 n (aD z),.az 1 m (aD y)] pre (aT (.mag (Nat.gcd (val n z) (val m y))) []):=by
 refine lO hT Ue rfl br rfl (fun _ c h0=>?_) K pre
 have hk0:∀{nx:Nat} k x,c.k0 k=some x->k<nx:=lF h0
 have hA:nl (val n z)<=n:=eo.2 (ia hz)
 have hB:nl (val m y)<=m:=eo.2 (ia hy)
 refine aA.hole [1,1,0] ah (aI.bM hT xh hm 60 [5,6] RG ah ?_)
 simp only[af.all,aF,kX]
 generalize val n z=A at*
 generalize val m y=B at*
 refine⟨⟨iJ hz,aa,aa,iJ hy,aa,aa⟩,fun s' hv=>cU ?_⟩
 refine aA.js (i:=0) (y:=part (aJ f167) [1,1,0,0,0]) ah [5,6] 0 hk0 (fun p:Nat×Nat=>[.mag p.1,.mag p.2]) (fun _=>[]) (fun _=>rfl) (fun _=>trivial)
  (fun p=>Nat.gcd p.1 p.2=Nat.gcd A B/\nl p.1<2^40/\nl p.2<2^40) (fun p=>p.2) (A,B) hv ⟨rfl,by simp only;omega,by simp only;omega⟩ ?_
 rintro⟨X,Y⟩ ⟨hg,hX,hY⟩
 simp only at hg hX hY
 refine aA.bM hT xh hm 60 [5,6] abr ah ?_
 simp only[af.all,aF,bI,bO]
 have hstep:∀{X Y:Nat},Y≠0->Nat.gcd Y (X%Y)=Nat.gcd X Y:=fun {X Y} _=>by rw[Nat.gcd_comm X Y,Nat.gcd_rec Y X,Nat.gcd_comm]
 refine⟨fun hb=>⟨⟨hX,hY⟩,fun s' hv=>?_⟩,fun hb s' hv=>gD ?_⟩
 ·have hY0:Y≠0:=iO.1 aa
  have hlt:=Nat.mod_lt X (show 0<Y by omega)
  refine⟨(Y,X%Y),eU hv (by rw[if_neg hY0]) rfl,⟨by rw[<-hg];exact hstep hY0,hY,Nat.lt_of_le_of_lt (jt (Nat.le_of_lt hlt)) hY⟩,hlt⟩
 have hY2:nl Y<=2:=aa
 refine cU (aI.me (nx:=0) hv hk0 ah rfl trivial ?_)
 show aI P c f167.ntmps [sF] _ _
 refine aA.hole [1,1,1,0] ah (aI.bM hT xh hm 60 [13,14,4] afH ah ?_)
 simp only[af.all,aF,bI,bO,beq_iff_eq,beq_eq_false_iff_ne,ne_eq]
 have rest:∀{x y:Nat} {s':aL},x<2^64->y<2^64->Nat.gcd x y=Nat.gcd A B->bp [13,14,4] s'=some ([.int .u64 (x:Nat),.int .u64 (y:Nat)]++[.tuple []],[])->
   aA P c f167.ntmps (part sF [1,1,1,0]) s' (fM (fun s'=>aI P c f167.ntmps (behind sF [1,1,1,0]) s' (fM (fun s'=>aI P c f167.ntmps [] s' (Fin T f167 (.mag (Nat.gcd A B)))) (Fin T f167 (.mag (Nat.gcd A B)))))
    (fM (fun s'=>aI P c f167.ntmps [] s' (Fin T f167 (.mag (Nat.gcd A B)))) (Fin T f167 (.mag (Nat.gcd A B))))):=by
  intro x y s' hx hy hg hv
  have hv:=kK (ls:=[13,14]) (l:=[4]) (vs:=[.int .u64 (x:Nat),.int .u64 (y:Nat)]) hv rfl rfl
  refine aA.js (i:=2) (y:=part sF [1,1,1,0,0,0]) ah [13,14] 0 hk0 (fun p:Nat×Nat=>[.int .u64 (p.1:Nat),.int .u64 (p.2:Nat)]) (fun _=>[]) (fun _=>rfl) (fun _=>trivial)
   (fun p=>Nat.gcd p.1 p.2=Nat.gcd A B/\p.1<2^64/\p.2<2^64) (fun p=>p.2) (x,y) hv ⟨hg,hx,hy⟩ ?_
  rintro⟨x,y⟩ ⟨hg,hx,hy⟩
  simp only at hg hx hy
  refine aA.bM hT xh hm 60 [13,14] abR ah ?_
  simp only[af.all,aF,bne_iff_ne,ne_eq,bne_eq_false_iff_eq]
  refine⟨fun hb=>⟨hb,fun s' hv=>?_⟩,fun hb s' hv=>gD ?_⟩
  ·have hy0:y≠0:=aa
   have hlt:=Nat.mod_lt x (show 0<y by omega)
   exact⟨(y,x%y),eU hv (by rw[<-Int.ofNat_tmod]) rfl,⟨by rw[<-hg];exact hstep hy0,hy,by simp only;omega⟩,hlt⟩
  ·have hy0:y=0:=aa
   subst hy0
   refine cU ?_
   refine aI.mono (Q:=Fin T f167 (.mag (Nat.gcd A B))) (fun e s' h=>by cases e<;>exact h) ?_
   refine aI.AH hT xh hm 60 (nx:=0) hv hk0 rfl trivial WD ah ah ⟨⟨aa,aa⟩,fo ?_⟩
   rw[bJ,<-hg,Nat.gcd_zero_right]
 refine⟨fun hb s' hv=>gO (gO ?_),fun hb=>⟨fun h1=>⟨⟨hX,hY⟩,⟨aa,?_⟩,fun s' hv=>cU (rest (ru hY2) ?_ ?_ (eU hv rfl rfl))⟩,fun h1=>⟨⟨aa,aa⟩,fun s' hv=>cU (rest (ru aa) (ru hY2) hg (eU hv rfl rfl))⟩⟩⟩
 ·have hY0:Y=0:=by
   rcases Nat.eq_zero_or_pos Y with h1|h1
   ·exact h1
   ·have:=iO.2 (show Y≠0 by omega);omega
  refine iS (us:=[.mag X]) (.inr rfl) hv ah (fo ?_)
  rw[<-hg,hY0,Nat.gcd_zero_right]
 all_goals
  have hY0:Y≠0:=iO.1 aa
  have hlt:=Nat.mod_lt X (show 0<Y by omega)
  rw[if_neg hY0]
 ·exact Nat.le_trans (jt (Nat.le_of_lt hlt)) hY2
 ·exact Nat.lt_trans hlt (ru hY2)
 ·rw[<-hg];exact hstep hY0
def Fp (A n B m:Nat):en:=aT (.mag (Nat.gcd A B)) [n<2^40,m<2^40]
theorem Jx:bF P (cw (jH Fp)) 167:=
 cY (vj fun _ _ _ _ K hz hy need=>Tb hz hy need.1 need.2 K [])
end Go.Am.B
