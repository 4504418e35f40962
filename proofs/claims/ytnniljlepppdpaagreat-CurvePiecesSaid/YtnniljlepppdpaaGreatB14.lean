/- natural.Gcd. -/
import Derived.Test.YtnniljlepppdpaaGreatB13
set_option linter.unusedVariables false
namespace Go.Am.B
open Go Go.Am.N AV
theorem RG:aU P vC iW (az iW):=aT Proofs.Tryz.func196 ah ah ah
def GG:aV:=(vt,bM (iu FC))::(tQ,Bn)::(D0,bM (lN AX))::(yc,G9)::G1
noncomputable abbrev qx:Code:=part (az iW) [1,1,1]
theorem yz:bn P GG:=aI PL (aI HE (aI afr (aI OX gy)))
theorem ah5 {n m:Nat} {z y:Nat->Nat}:aJ T GG [] 60 [5,6] (before (az iW) [1,1,0]) ⟨aQ 0 [.aq 1 n (aB z),.aq 1 m (aB y)],[],0⟩=
  let c2:Nat:=val n fun i=>numOf (aB z i);let c1:Nat:=val m fun i=>numOf (aB y i);some (ag.aj [dN n (aB z),n<2^62,nl c2<2^40,dN m (aB y),m<2^62,nl c1<2^40] (ag.leaf ak.normal ([mag c2,mag c1],[]))):=ah
theorem aiJ {X Y:Nat}:aJ T GG [23] 60 [5,6] [part (az iW) [1,1,0,0,0]] ⟨aF [5,6] [.mag X,.mag Y],[],0⟩=
  some (ag.fork (decide ((↑(nl Y):Int)>(2:Int))) (ag.aj [nl X<2^40,nl Y<2^40] (ag.leaf ak.normal ([mag Y,mag (if Y=0 then 0 else X%Y)],[]))) (ag.leaf (ak.exit 0) ([mag X,mag Y],[]))):=ah
theorem VZ {X Y:Nat}:aJ T GG [35,39] 60 [13,14,4] (before qx [1,1,1,0]) ⟨aF [5,6] [.mag X,.mag Y],[],0⟩=
  let c2:AV:=int IntKind.u64 (↑Y:Int);let c1:Nat:=if Y=0 then 0 else X%Y;some (ag.fork ((↑(nl Y):Int)==(0:Int)) (ag.leaf ak.ret ([tuple [],tuple [],mag X],[])) (ag.fork (decide ((↑(nl X):Int)>(2:Int))) (ag.aj [nl X<2^40,nl Y<2^40] (ag.aj [nl Y<=2,nl c1<=2] (ag.leaf ak.normal ([c2,int IntKind.u64 (↑c1:Int),tuple []],[])))) (ag.aj [nl X<=2,nl Y<=2] (ag.leaf ak.normal ([int IntKind.u64 (↑X:Int),c2,tuple []],[]))))):=ah
theorem Y2 {x y:Nat}:aJ T GG [54] 60 [13,14] [part qx [1,1,1,0,0,0]] ⟨aF [13,14] [.int .u64 x,.int .u64 y],[],0⟩=
  let c1 : Int := (↑y : Int); some (ag.fork (c1 != (0 : Int)) (ag.aj [c1 ≠ (0 : Int)] (ag.leaf ak.normal ([int IntKind.u64 c1, int IntKind.u64 ((↑x : Int).tmod c1)], []))) (ag.leaf (ak.exit 2) ([int IntKind.u64 (↑x : Int), int IntKind.u64 c1], []))) := ah
theorem ahu {x y:Nat}:cJ T GG [] 60 iW (behind qx [1,1,1,0]) ⟨aF [13,14] [.int .u64 x,.int .u64 y],[],0⟩=
  some (ag.aj [(0:Int)<=(↑x:Int)/\(↑x:Int)<(2:Int)^64] (ag.leaf ak.ret [mag (↑x:Int).toNat])):=ah
theorem p9 {Y:Nat} (h:nl Y<=2):Y<2^64:=dm.1 h
theorem aed {n m:Nat} {z y:Nat->Nat} (hz:∀i,i<n->z i<2^32) (hy:∀i,i<m->y i<2^32) (hn:n<2^40) (hm':m<2^40) (K:Nat) (pre:aE):
  aD P vC K [.aq 1 n (aB z),.aq 1 m (aB y)] pre (aL (.mag (Nat.gcd (val n z) (val m y))) []):=by
 refine jL hT RG rfl aW rfl (fun _ c h0=>?_) K pre
 have hk0:∀{nx:Nat} k x,c.k0 k=some x->k<nx:=jU h0
 have hA:nl (val n z)<=n:=dm.2 (fD hz)
 have hB:nl (val m y)<=m:=dm.2 (fD hy)
 refine ay.hole [1,1,0] ah (aG.bz hT yz hm 60 [5,6] ah5 ah ?_)
 simp only[ag.all,aA,jE]
 generalize val n z=A at*
 generalize val m y=B at*
 refine⟨⟨fW hz,aa,aa,fW hy,aa,aa⟩,fun s' hv=>cw ?_⟩
 refine ay.gP (i:=0) (y:=part (az iW) [1,1,0,0,0]) ah [5,6] 0 hk0 (fun p:Nat×Nat=>[.mag p.1,.mag p.2]) (fun _=>[]) (fun _=>rfl) (fun _=>trivial)
  (fun p=>Nat.gcd p.1 p.2=Nat.gcd A B/\nl p.1<2^40/\nl p.2<2^40) (fun p=>p.2) (A,B) hv ⟨rfl,by simp only;omega,by simp only;omega⟩ ?_
 rintro⟨X,Y⟩ ⟨hg,hX,hY⟩
 simp only at hg hX hY
 refine ay.bz hT yz hm 60 [5,6] aiJ ah ?_
 simp only[ag.all,aA,bf,bt]
 have hstep:∀{X Y:Nat},Y≠0->Nat.gcd Y (X%Y)=Nat.gcd X Y:=fun {X Y} _=>by rw[Nat.gcd_comm X Y,Nat.gcd_rec Y X,Nat.gcd_comm]
 refine⟨fun hb=>⟨⟨hX,hY⟩,fun s' hv=>?_⟩,fun hb s' hv=>fc ?_⟩
 ·have hY0:Y≠0:=gd.1 aa
  have hlt:=Nat.mod_lt X (show 0<Y by omega)
  refine⟨(Y,X%Y),dH hv (by rw[if_neg hY0]) rfl,⟨by rw[<-hg];exact hstep hY0,hY,Nat.lt_of_le_of_lt (gJ (Nat.le_of_lt hlt)) hY⟩,hlt⟩
 have hY2:nl Y<=2:=aa
 refine cw (aG.j0 (nx:=0) hv hk0 ah rfl trivial ?_)
 show aG P c iW.ntmps [qx] _ _
 refine ay.hole [1,1,1,0] ah (aG.bz hT yz hm 60 [13,14,4] VZ ah ?_)
 simp only[ag.all,aA,bf,bt,beq_iff_eq,beq_eq_false_iff_ne,ne_eq]
 have rest:∀{x y:Nat} {s':aH},x<2^64->y<2^64->Nat.gcd x y=Nat.gcd A B->bk [13,14,4] s'=some ([.int .u64 (x:Nat),.int .u64 (y:Nat)]++[.tuple []],[])->
   ay P c iW.ntmps (part qx [1,1,1,0]) s' (dM (fun s'=>aG P c iW.ntmps (behind qx [1,1,1,0]) s' (dM (fun s'=>aG P c iW.ntmps [] s' (Fin T iW (.mag (Nat.gcd A B)))) (Fin T iW (.mag (Nat.gcd A B)))))
    (dM (fun s'=>aG P c iW.ntmps [] s' (Fin T iW (.mag (Nat.gcd A B)))) (Fin T iW (.mag (Nat.gcd A B))))):=by
  intro x y s' hx hy hg hv
  have hv:=iD (ls:=[13,14]) (l:=[4]) (vs:=[.int .u64 (x:Nat),.int .u64 (y:Nat)]) hv rfl rfl
  refine ay.gP (i:=2) (y:=part qx [1,1,1,0,0,0]) ah [13,14] 0 hk0 (fun p:Nat×Nat=>[.int .u64 (p.1:Nat),.int .u64 (p.2:Nat)]) (fun _=>[]) (fun _=>rfl) (fun _=>trivial)
   (fun p=>Nat.gcd p.1 p.2=Nat.gcd A B/\p.1<2^64/\p.2<2^64) (fun p=>p.2) (x,y) hv ⟨hg,hx,hy⟩ ?_
  rintro⟨x,y⟩ ⟨hg,hx,hy⟩
  simp only at hg hx hy
  refine ay.bz hT yz hm 60 [13,14] Y2 ah ?_
  simp only[ag.all,aA,bne_iff_ne,ne_eq,bne_eq_false_iff_eq]
  refine⟨fun hb=>⟨hb,fun s' hv=>?_⟩,fun hb s' hv=>fc ?_⟩
  ·have hy0:y≠0:=aa
   have hlt:=Nat.mod_lt x (show 0<y by omega)
   exact⟨(y,x%y),dH hv (by rw[<-Int.ofNat_tmod]) rfl,⟨by rw[<-hg];exact hstep hy0,hy,by simp only;omega⟩,hlt⟩
  ·have hy0:y=0:=aa
   subst hy0
   refine cw ?_
   refine aG.mono (Q:=Fin T iW (.mag (Nat.gcd A B))) (fun e s' h=>by cases e<;>exact h) ?_
   refine aG.CZ hT yz hm 60 (nx:=0) hv hk0 rfl trivial ahu ah ah ⟨⟨aa,aa⟩,dD ?_⟩
   rw[aX,<-hg,Nat.gcd_zero_right]
 refine⟨fun hb s' hv=>ff (ff ?_),fun hb=>⟨fun h1=>⟨⟨hX,hY⟩,⟨aa,?_⟩,fun s' hv=>cw (rest (p9 hY2) ?_ ?_ (dH hv rfl rfl))⟩,fun h1=>⟨⟨aa,aa⟩,fun s' hv=>cw (rest (p9 aa) (p9 hY2) hg (dH hv rfl rfl))⟩⟩⟩
 ·have hY0:Y=0:=by
   rcases Nat.eq_zero_or_pos Y with h1|h1
   ·exact h1
   ·have:=gd.2 (show Y≠0 by omega);omega
  refine gj (us:=[.mag X]) (.inr rfl) hv ah (dD ?_)
  rw[<-hg,hY0,Nat.gcd_zero_right]
 all_goals
  have hY0:Y≠0:=gd.1 aa
  have hlt:=Nat.mod_lt X (show 0<Y by omega)
  rw[if_neg hY0]
 ·exact Nat.le_trans (gJ (Nat.le_of_lt hlt)) hY2
 ·exact Nat.lt_trans hlt (p9 hY2)
 ·rw[<-hg];exact hstep hY0
def H8 (A n B m:Nat):cZ:=aL (.mag (Nat.gcd A B)) [n<2^40,m<2^40]
theorem LF:∀K args pre r,bM (iu H8) K args pre=some r->aD P vC K args pre r:=
 ct (uX fun _ _ _ _ K hz hy need=>aed hz hy need.1 need.2 K [])
end Go.Am.B
