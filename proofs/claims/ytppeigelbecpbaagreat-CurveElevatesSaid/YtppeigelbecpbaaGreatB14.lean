/- natural. -/
import Derived.Test.YtppeigelbecpbaaGreatB13
set_option linter.unusedVariables false
namespace Go.Am.B
open Go Go.Am.N AV
theorem agh:aT P yb iY (aA iY):=aY Proofs.Tryz.func185 ag ag ag
def GG:bg:=(AL,bX (iz KN))::(uy,BS)::(Ee,bX (mo Cl))::(AS,Ln)::G1
noncomputable abbrev sr:Code:=part (aA iY) [1,1,1]
theorem zo:bz P GG:=aL Re (aL II (aL alS (aL Mi gA)))
theorem afh {n m:Nat} {z y:Nat->Nat}:aH T GG [] 60 [5,6] (before (aA iY) [1,1,0]) ⟨aQ 0 [.aq 1 n (aD z),.aq 1 m (aD y)],[],0⟩=
  let c2:Nat:=val n fun i=>numOf (aD z i);let c1:Nat:=val m fun i=>numOf (aD y i);some (ah.aj [dQ n (aD z),n<2^62,nl c2<2^40,dQ m (aD y),m<2^62,nl c1<2^40] (ah.leaf au.normal ([mag c2,mag c1],[]))):=ag
theorem adL {X Y:Nat}:aH T GG [23] 60 [5,6] [part (aA iY) [1,1,0,0,0]] ⟨aC [5,6] [.mag X,.mag Y],[],0⟩=
  some (ah.fork (decide ((↑(nl Y):Int)>(2:Int))) (ah.aj [nl X<2^40,nl Y<2^40] (ah.leaf au.normal ([mag Y,mag (if Y=0 then 0 else X%Y)],[]))) (ah.leaf (au.exit 0) ([mag X,mag Y],[]))):=ag
theorem YQ {X Y:Nat}:aH T GG [35,39] 60 [13,14,4] (before sr [1,1,1,0]) ⟨aC [5,6] [.mag X,.mag Y],[],0⟩=
  let c2:AV:=int IntKind.u64 (↑Y:Int);let c1:Nat:=if Y=0 then 0 else X%Y;some (ah.fork ((↑(nl Y):Int)==(0:Int)) (ah.leaf au.ret ([tuple [],tuple [],mag X],[])) (ah.fork (decide ((↑(nl X):Int)>(2:Int))) (ah.aj [nl X<2^40,nl Y<2^40] (ah.aj [nl Y<=2,nl c1<=2] (ah.leaf au.normal ([c2,int IntKind.u64 (↑c1:Int),tuple []],[])))) (ah.aj [nl X<=2,nl Y<=2] (ah.leaf au.normal ([int IntKind.u64 (↑X:Int),c2,tuple []],[]))))):=ag
theorem Zr {x y:Nat}:aH T GG [54] 60 [13,14] [part sr [1,1,1,0,0,0]] ⟨aC [13,14] [.int .u64 x,.int .u64 y],[],0⟩=
  let c1 : Int := (↑y : Int); some (ah.fork (c1 != (0 : Int)) (ah.aj [c1 ≠ (0 : Int)] (ah.leaf au.normal ([int IntKind.u64 c1, int IntKind.u64 ((↑x : Int).tmod c1)], []))) (ah.leaf (au.exit 2) ([int IntKind.u64 (↑x : Int), int IntKind.u64 c1], []))) := ag
theorem adi {x y:Nat}:cw T GG [] 60 iY (behind sr [1,1,1,0]) ⟨aC [13,14] [.int .u64 x,.int .u64 y],[],0⟩=
  some (ah.aj [(0:Int)<=(↑x:Int)/\(↑x:Int)<(2:Int)^64] (ah.leaf au.ret [mag (↑x:Int).toNat])):=ag
theorem qV {Y:Nat} (h:nl Y<=2):Y<2^64:=dz.1 h
theorem VU {n m:Nat} {z y:Nat->Nat} (hz:∀i,i<n->z i<2^32) (hy:∀i,i<m->y i<2^32) (hn:n<2^40) (hm':m<2^40) (K:Nat) (pre:aF):
  aE P yb K [.aq 1 n (aD z),.aq 1 m (aD y)] pre (aK (.mag (Nat.gcd (val n z) (val m y))) []):=by
 refine jM hT agh rfl aX rfl (fun _ c h0=>?_) K pre
 have hk0:∀{nx:Nat} k x,c.k0 k=some x->k<nx:=kA h0
 have hA:nl (val n z)<=n:=dz.2 (fO hz)
 have hB:nl (val m y)<=m:=dz.2 (fO hy)
 refine ax.hole [1,1,0] ag (aI.bA hT zo hm 60 [5,6] afh ag ?_)
 simp only[ah.all,az,jQ]
 generalize val n z=A at*
 generalize val m y=B at*
 refine⟨⟨gd hz,aa,aa,gd hy,aa,aa⟩,fun s' hv=>cJ ?_⟩
 refine ax.g9 (i:=0) (y:=part (aA iY) [1,1,0,0,0]) ag [5,6] 0 hk0 (fun p:Nat×Nat=>[.mag p.1,.mag p.2]) (fun _=>[]) (fun _=>rfl) (fun _=>trivial)
  (fun p=>Nat.gcd p.1 p.2=Nat.gcd A B/\nl p.1<2^40/\nl p.2<2^40) (fun p=>p.2) (A,B) hv ⟨rfl,by simp only;omega,by simp only;omega⟩ ?_
 rintro⟨X,Y⟩ ⟨hg,hX,hY⟩
 simp only at hg hX hY
 refine ax.bA hT zo hm 60 [5,6] adL ag ?_
 simp only[ah.all,az,aZ,bk]
 have hstep:∀{X Y:Nat},Y≠0->Nat.gcd Y (X%Y)=Nat.gcd X Y:=fun {X Y} _=>by rw[Nat.gcd_comm X Y,Nat.gcd_rec Y X,Nat.gcd_comm]
 refine⟨fun hb=>⟨⟨hX,hY⟩,fun s' hv=>?_⟩,fun hb s' hv=>fC ?_⟩
 ·have hY0:Y≠0:=gn.1 aa
  have hlt:=Nat.mod_lt X (show 0<Y by omega)
  refine⟨(Y,X%Y),dJ hv (by rw[if_neg hY0]) rfl,⟨by rw[<-hg];exact hstep hY0,hY,Nat.lt_of_le_of_lt (gV (Nat.le_of_lt hlt)) hY⟩,hlt⟩
 have hY2:nl Y<=2:=aa
 refine cJ (aI.kj (nx:=0) hv hk0 ag rfl trivial ?_)
 show aI P c iY.ntmps [sr] _ _
 refine ax.hole [1,1,1,0] ag (aI.bA hT zo hm 60 [13,14,4] YQ ag ?_)
 simp only[ah.all,az,aZ,bk,beq_iff_eq,beq_eq_false_iff_ne,ne_eq]
 have rest:∀{x y:Nat} {s':aM},x<2^64->y<2^64->Nat.gcd x y=Nat.gcd A B->bt [13,14,4] s'=some ([.int .u64 (x:Nat),.int .u64 (y:Nat)]++[.tuple []],[])->
   ax P c iY.ntmps (part sr [1,1,1,0]) s' (dH (fun s'=>aI P c iY.ntmps (behind sr [1,1,1,0]) s' (dH (fun s'=>aI P c iY.ntmps [] s' (Fin T iY (.mag (Nat.gcd A B)))) (Fin T iY (.mag (Nat.gcd A B)))))
    (dH (fun s'=>aI P c iY.ntmps [] s' (Fin T iY (.mag (Nat.gcd A B)))) (Fin T iY (.mag (Nat.gcd A B))))):=by
  intro x y s' hx hy hg hv
  have hv:=iL (ls:=[13,14]) (l:=[4]) (vs:=[.int .u64 (x:Nat),.int .u64 (y:Nat)]) hv rfl rfl
  refine ax.g9 (i:=2) (y:=part sr [1,1,1,0,0,0]) ag [13,14] 0 hk0 (fun p:Nat×Nat=>[.int .u64 (p.1:Nat),.int .u64 (p.2:Nat)]) (fun _=>[]) (fun _=>rfl) (fun _=>trivial)
   (fun p=>Nat.gcd p.1 p.2=Nat.gcd A B/\p.1<2^64/\p.2<2^64) (fun p=>p.2) (x,y) hv ⟨hg,hx,hy⟩ ?_
  rintro⟨x,y⟩ ⟨hg,hx,hy⟩
  simp only at hg hx hy
  refine ax.bA hT zo hm 60 [13,14] Zr ag ?_
  simp only[ah.all,az,bne_iff_ne,ne_eq,bne_eq_false_iff_eq]
  refine⟨fun hb=>⟨hb,fun s' hv=>?_⟩,fun hb s' hv=>fC ?_⟩
  ·have hy0:y≠0:=aa
   have hlt:=Nat.mod_lt x (show 0<y by omega)
   exact⟨(y,x%y),dJ hv (by rw[<-Int.ofNat_tmod]) rfl,⟨by rw[<-hg];exact hstep hy0,hy,by simp only;omega⟩,hlt⟩
  ·have hy0:y=0:=aa
   subst hy0
   refine cJ ?_
   refine aI.mono (Q:=Fin T iY (.mag (Nat.gcd A B))) (fun e s' h=>by cases e<;>exact h) ?_
   refine aI.Ge hT zo hm 60 (nx:=0) hv hk0 rfl trivial adi ag ag ⟨⟨aa,aa⟩,dF ?_⟩
   rw[aW,<-hg,Nat.gcd_zero_right]
 refine⟨fun hb s' hv=>fA (fA ?_),fun hb=>⟨fun h1=>⟨⟨hX,hY⟩,⟨aa,?_⟩,fun s' hv=>cJ (rest (qV hY2) ?_ ?_ (dJ hv rfl rfl))⟩,fun h1=>⟨⟨aa,aa⟩,fun s' hv=>cJ (rest (qV aa) (qV hY2) hg (dJ hv rfl rfl))⟩⟩⟩
 ·have hY0:Y=0:=by
   rcases Nat.eq_zero_or_pos Y with h1|h1
   ·exact h1
   ·have:=gn.2 (show Y≠0 by omega);omega
  refine gy (us:=[.mag X]) (.inr rfl) hv ag (dF ?_)
  rw[<-hg,hY0,Nat.gcd_zero_right]
 all_goals
  have hY0:Y≠0:=gn.1 aa
  have hlt:=Nat.mod_lt X (show 0<Y by omega)
  rw[if_neg hY0]
 ·exact Nat.le_trans (gV (Nat.le_of_lt hlt)) hY2
 ·exact Nat.lt_trans hlt (qV hY2)
 ·rw[<-hg];exact hstep hY0
def Hr (A n B m:Nat):dm:=aK (.mag (Nat.gcd A B)) [n<2^40,m<2^40]
theorem RO:∀K args pre r,bX (iz Hr) K args pre=some r->aE P yb K args pre r:=
 cK (vf fun _ _ _ _ K hz hy need=>VU hz hy need.1 need.2 K [])
end Go.Am.B
