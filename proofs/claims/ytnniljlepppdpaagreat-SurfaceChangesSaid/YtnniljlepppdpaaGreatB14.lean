/- natural.Gcd. -/
import Derived.Test.YtnniljlepppdpaaGreatB13
set_option linter.unusedVariables false
namespace Go.Am.B
open Go Go.Am.N AV
theorem alV:aT P Bu jy (ay jy):=aU Proofs.Tryz.func196 ag ag ag
def GG:bf:=(xT,bY (iN Mi))::(uW,BX)::(EV,bY (mQ Du))::(yo,K8)::G1
noncomputable abbrev r8:Code:=part (ay jy) [1,1,1]
theorem zP:bu P GG:=aI OH (aI LM (aI anc (aI UU gR)))
theorem ZM {n m:Nat} {z y:Nat->Nat}:aG T GG [] 60 [5,6] (before (ay jy) [1,1,0]) ⟨aP 0 [.aq 1 n (aD z),.aq 1 m (aD y)],[],0⟩=
  let c2:Nat:=val n fun i=>numOf (aD z i);let c1:Nat:=val m fun i=>numOf (aD y i);some (ah.aj [ek n (aD z),n<2^62,nl c2<2^40,ek m (aD y),m<2^62,nl c1<2^40] (ah.leaf ax.normal ([mag c2,mag c1],[]))):=ag
theorem anI {X Y:Nat}:aG T GG [23] 60 [5,6] [part (ay jy) [1,1,0,0,0]] ⟨aB [5,6] [.mag X,.mag Y],[],0⟩=
  some (ah.fork (decide ((↑(nl Y):Int)>2)) (ah.aj [nl X<2^40,nl Y<2^40] (ah.leaf ax.normal ([mag Y,mag (if Y=0 then 0 else X%Y)],[]))) (ah.leaf (ax.exit 0) ([mag X,mag Y],[]))):=ag
theorem ack {X Y:Nat}:aG T GG [35,39] 60 [13,14,4] (before r8 [1,1,1,0]) ⟨aB [5,6] [.mag X,.mag Y],[],0⟩=
  let c2:AV:=int .u64 (↑Y:Int);let c1:Nat:=if Y=0 then 0 else X%Y;some (ah.fork ((↑(nl Y):Int)==0) (ah.leaf ax.ret ([tuple [],tuple [],mag X],[])) (ah.fork (decide ((↑(nl X):Int)>2)) (ah.aj [nl X<2^40,nl Y<2^40] (ah.aj [nl Y<=2,nl c1<=2] (ah.leaf ax.normal ([c2,int .u64 (↑c1:Int),tuple []],[])))) (ah.aj [nl X<=2,nl Y<=2] (ah.leaf ax.normal ([int .u64 (↑X:Int),c2,tuple []],[]))))):=ag
theorem akZ {x y:Nat}:aG T GG [54] 60 [13,14] [part r8 [1,1,1,0,0,0]] ⟨aB [13,14] [.int .u64 x,.int .u64 y],[],0⟩=
  let c1:Int:=(↑y:Int);some (ah.fork (c1 !=(0:Int)) (ah.aj [c1≠(0:Int)] (ah.leaf ax.normal ([int .u64 c1,int .u64 ((↑x:Int).tmod c1)],[]))) (ah.leaf (ax.exit 2) ([int .u64 (↑x:Int),int .u64 c1],[]))):=ag
theorem al2 {x y:Nat}:cj T GG [] 60 jy (behind r8 [1,1,1,0]) ⟨aB [13,14] [.int .u64 x,.int .u64 y],[],0⟩=
  some (ah.aj [(0:Int)<=(↑x:Int)/\(↑x:Int)<2^64] (ah.leaf ax.ret [mag (↑x:Int).toNat])):=ag
theorem qj {Y:Nat} (h:nl Y<=2):Y<2^64:=dF.1 h
theorem acS {n m:Nat} {z y:Nat->Nat} (hz:∀i,i<n->z i<2^32) (hy:∀i,i<m->y i<2^32) (hn:n<2^40) (hm':m<2^40) (K:Nat) (pre:aE):
  aQ P Bu K [.aq 1 n (aD z),.aq 1 m (aD y)] pre (aJ (.mag (Nat.gcd (val n z) (val m y))) []):=by
 refine j9 hT alV rfl aX rfl (fun _ c h0=>?_) K pre
 have hk0:∀{nx:Nat} k x,c.k0 k=some x->k<nx:=kD h0
 have hA:nl (val n z)<=n:=dF.2 (gp hz)
 have hB:nl (val m y)<=m:=dF.2 (gp hy)
 refine au.hole [1,1,0] ag (aH.bC hT zP hm 60 [5,6] ZM ag ?_)
 simp only[ah.all,aA,kg]
 generalize val n z=A at*
 generalize val m y=B at*
 refine⟨⟨gF hz,aa,aa,gF hy,aa,aa⟩,fun s' hv=>cO ?_⟩
 refine au.iJ (i:=0) (y:=part (ay jy) [1,1,0,0,0]) ag [5,6] 0 hk0 (fun p:Nat×Nat=>[.mag p.1,.mag p.2]) (fun _=>[]) (fun _=>rfl) (fun _=>trivial)
  (fun p=>Nat.gcd p.1 p.2=Nat.gcd A B/\nl p.1<2^40/\nl p.2<2^40) (fun p=>p.2) (A,B) hv ⟨rfl,by simp only;omega,by simp only;omega⟩ ?_
 rintro⟨X,Y⟩ ⟨hg,hX,hY⟩
 simp only at hg hX hY
 refine au.bC hT zP hm 60 [5,6] anI ag ?_
 simp only[ah.all,aA,bq,bw]
 have hstep:∀{X Y:Nat},Y≠0->Nat.gcd Y (X%Y)=Nat.gcd X Y:=fun {X Y} _=>by rw[Nat.gcd_comm X Y,Nat.gcd_rec Y X,Nat.gcd_comm]
 refine⟨fun hb=>⟨⟨hX,hY⟩,fun s' hv=>?_⟩,fun hb s' hv=>fO ?_⟩
 ·have hY0:Y≠0:=gJ.1 aa
  have hlt:=Nat.mod_lt X (show 0<Y by omega)
  refine⟨(Y,X%Y),dQ hv (by rw[if_neg hY0]) rfl,⟨by rw[<-hg];exact hstep hY0,hY,Nat.lt_of_le_of_lt (iH (Nat.le_of_lt hlt)) hY⟩,hlt⟩
 have hY2:nl Y<=2:=aa
 refine cO (aH.kK (nx:=0) hv hk0 ag rfl trivial ?_)
 show aH P c jy.ntmps [r8] _ _
 refine au.hole [1,1,1,0] ag (aH.bC hT zP hm 60 [13,14,4] ack ag ?_)
 simp only[ah.all,aA,bq,bw,beq_iff_eq,beq_eq_false_iff_ne,ne_eq]
 have rest:∀{x y:Nat} {s':aK},x<2^64->y<2^64->Nat.gcd x y=Nat.gcd A B->bA [13,14,4] s'=some ([.int .u64 (x:Nat),.int .u64 (y:Nat)]++[.tuple []],[])->
   au P c jy.ntmps (part r8 [1,1,1,0]) s' (dM (fun s'=>aH P c jy.ntmps (behind r8 [1,1,1,0]) s' (dM (fun s'=>aH P c jy.ntmps [] s' (Fin T jy (.mag (Nat.gcd A B)))) (Fin T jy (.mag (Nat.gcd A B)))))
    (dM (fun s'=>aH P c jy.ntmps [] s' (Fin T jy (.mag (Nat.gcd A B)))) (Fin T jy (.mag (Nat.gcd A B))))):=by
  intro x y s' hx hy hg hv
  have hv:=jx (ls:=[13,14]) (l:=[4]) (vs:=[.int .u64 (x:Nat),.int .u64 (y:Nat)]) hv rfl rfl
  refine au.iJ (i:=2) (y:=part r8 [1,1,1,0,0,0]) ag [13,14] 0 hk0 (fun p:Nat×Nat=>[.int .u64 (p.1:Nat),.int .u64 (p.2:Nat)]) (fun _=>[]) (fun _=>rfl) (fun _=>trivial)
   (fun p=>Nat.gcd p.1 p.2=Nat.gcd A B/\p.1<2^64/\p.2<2^64) (fun p=>p.2) (x,y) hv ⟨hg,hx,hy⟩ ?_
  rintro⟨x,y⟩ ⟨hg,hx,hy⟩
  simp only at hg hx hy
  refine au.bC hT zP hm 60 [13,14] akZ ag ?_
  simp only[ah.all,aA,bne_iff_ne,ne_eq,bne_eq_false_iff_eq]
  refine⟨fun hb=>⟨hb,fun s' hv=>?_⟩,fun hb s' hv=>fO ?_⟩
  ·have hy0:y≠0:=aa
   have hlt:=Nat.mod_lt x (show 0<y by omega)
   exact⟨(y,x%y),dQ hv (by rw[<-Int.ofNat_tmod]) rfl,⟨by rw[<-hg];exact hstep hy0,hy,by simp only;omega⟩,hlt⟩
  ·have hy0:y=0:=aa
   subst hy0
   refine cO ?_
   refine aH.mono (Q:=Fin T jy (.mag (Nat.gcd A B))) (fun e s' h=>by cases e<;>exact h) ?_
   refine aH.Dx hT zP hm 60 (nx:=0) hv hk0 rfl trivial al2 ag ag ⟨⟨aa,aa⟩,dO ?_⟩
   rw[bn,<-hg,Nat.gcd_zero_right]
 refine⟨fun hb s' hv=>fM (fM ?_),fun hb=>⟨fun h1=>⟨⟨hX,hY⟩,⟨aa,?_⟩,fun s' hv=>cO (rest (qj hY2) ?_ ?_ (dQ hv rfl rfl))⟩,fun h1=>⟨⟨aa,aa⟩,fun s' hv=>cO (rest (qj aa) (qj hY2) hg (dQ hv rfl rfl))⟩⟩⟩
 ·have hY0:Y=0:=by
   rcases Nat.eq_zero_or_pos Y with h1|h1
   ·exact h1
   ·have:=gJ.2 (show Y≠0 by omega);omega
  refine gQ (us:=[.mag X]) (.inr rfl) hv ag (dO ?_)
  rw[<-hg,hY0,Nat.gcd_zero_right]
 all_goals
  have hY0:Y≠0:=gJ.1 aa
  have hlt:=Nat.mod_lt X (show 0<Y by omega)
  rw[if_neg hY0]
 ·exact Nat.le_trans (iH (Nat.le_of_lt hlt)) hY2
 ·exact Nat.lt_trans hlt (qj hY2)
 ·rw[<-hg];exact hstep hY0
def KS (A n B m:Nat):dz:=aJ (.mag (Nat.gcd A B)) [n<2^40,m<2^40]
theorem UQ:aW P (bY (iN KS)) Bu:=
 cJ (uJ fun _ _ _ _ K hz hy need=>acS hz hy need.1 need.2 K [])
end Go.Am.B
