/- natural.Gcd. -/
import Derived.Test.YtolopdkjjlfgjaaGreatB13
set_option linter.unusedVariables false
namespace Go.Am.B
open Go Go.Am.N AV Proofs.Tryz
theorem aaJ:aZ 167 f167:=bf func167
def GG:bp:=(168,bR (iw AK))::(181,xx)::(182,bR (lC zj))::(170,B1)::G1
noncomputable abbrev pL:Code:=part (aG f167) [1,1,1]
theorem wJ:bI P GG:=aI K5 (aI A8 (aI T4 (aI F1 gF)))
theorem abl {n m:Nat} {z y:Nat->Nat}:aF T GG [] 60 [5,6] (before (aG f167) [1,1,0]) ⟨aQ 0 [.ak 1 n (aA z),.ak 1 m (aA y)],[],0⟩=
  let c2:Nat:=val n fun i=>numOf (aA z i);let c1:Nat:=val m fun i=>numOf (aA y i);some (af.aj [ee n (aA z),n<2^62,nl c2<2^40,ee m (aA y),m<2^62,nl c1<2^40] (af.leaf aq.normal ([mag c2,mag c1],[]))):=ah
theorem RX {X Y:Nat}:aF T GG [23] 60 [5,6] [part (aG f167) [1,1,0,0,0]] ⟨aC [5,6] [.mag X,.mag Y],[],0⟩=
  some (af.fork (decide ((↑(nl Y):Int)>2)) (af.aj [nl X<2^40,nl Y<2^40] (af.leaf aq.normal ([mag Y,mag (if Y=0 then 0 else X%Y)],[]))) (af.leaf (aq.exit 0) ([mag X,mag Y],[]))):=ah
theorem X1 {X Y:Nat}:aF T GG [35,39] 60 [13,14,4] (before pL [1,1,1,0]) ⟨aC [5,6] [.mag X,.mag Y],[],0⟩=
  let c2:AV:=int .u64 (↑Y:Int);let c1:Nat:=if Y=0 then 0 else X%Y;some (af.fork ((↑(nl Y):Int)==0) (af.leaf aq.ret ([tuple [],tuple [],mag X],[])) (af.fork (decide ((↑(nl X):Int)>2)) (af.aj [nl X<2^40,nl Y<2^40] (af.aj [nl Y<=2,nl c1<=2] (af.leaf aq.normal ([c2,int .u64 (↑c1:Int),tuple []],[])))) (af.aj [nl X<=2,nl Y<=2] (af.leaf aq.normal ([int .u64 (↑X:Int),c2,tuple []],[]))))):=ah
theorem PG {x y:Nat}:aF T GG [54] 60 [13,14] [part pL [1,1,1,0,0,0]] ⟨aC [13,14] [.int .u64 x,.int .u64 y],[],0⟩=
  let c1:Int:=(↑y:Int);some (af.fork (c1 !=(0:Int)) (af.aj [c1≠(0:Int)] (af.leaf aq.normal ([int .u64 c1,int .u64 ((↑x:Int).tmod c1)],[]))) (af.leaf (aq.exit 2) ([int .u64 (↑x:Int),int .u64 c1],[]))):=ah
theorem Ry {x y:Nat}:cG T GG [] 60 f167 (behind pL [1,1,1,0]) ⟨aC [13,14] [.int .u64 x,.int .u64 y],[],0⟩=
  some (af.aj [(0:Int)<=(↑x:Int)/\(↑x:Int)<2^64] (af.leaf aq.ret [mag (↑x:Int).toNat])):=ah
theorem oE {Y:Nat} (h:nl Y<=2):Y<2^64:=dI.1 h
theorem Yz {n m:Nat} {z y:Nat->Nat} (hz:∀i,i<n->z i<2^32) (hy:∀i,i<m->y i<2^32) (hn:n<2^40) (hm':m<2^40) (K:Nat) (pre:aD):
  aO P 167 K [.ak 1 n (aA z),.ak 1 m (aA y)] pre (aJ (.mag (Nat.gcd (val n z) (val m y))) []):=by
 refine js hT aaJ rfl aX rfl (fun _ c h0=>?_) K pre
 have hk0:∀{nx:Nat} k x,c.k0 k=some x->k<nx:=jl h0
 have hA:nl (val n z)<=n:=dI.2 (fR hz)
 have hB:nl (val m y)<=m:=dI.2 (fR hy)
 refine au.hole [1,1,0] ah (aE.bD hT wJ hm 60 [5,6] abl ah ?_)
 simp only[af.all,az,jw]
 generalize val n z=A at*
 generalize val m y=B at*
 refine⟨⟨gp hz,aa,aa,gp hy,aa,aa⟩,fun s' hv=>cz ?_⟩
 refine au.gV (i:=0) (y:=part (aG f167) [1,1,0,0,0]) ah [5,6] 0 hk0 (fun p:Nat×Nat=>[.mag p.1,.mag p.2]) (fun _=>[]) (fun _=>rfl) (fun _=>trivial)
  (fun p=>Nat.gcd p.1 p.2=Nat.gcd A B/\nl p.1<2^40/\nl p.2<2^40) (fun p=>p.2) (A,B) hv ⟨rfl,by simp only;omega,by simp only;omega⟩ ?_
 rintro⟨X,Y⟩ ⟨hg,hX,hY⟩
 simp only at hg hX hY
 refine au.bD hT wJ hm 60 [5,6] RX ah ?_
 simp only[af.all,az,bz,bB]
 have hstep:∀{X Y:Nat},Y≠0->Nat.gcd Y (X%Y)=Nat.gcd X Y:=fun {X Y} _=>by rw[Nat.gcd_comm X Y,Nat.gcd_rec Y X,Nat.gcd_comm]
 refine⟨fun hb=>⟨⟨hX,hY⟩,fun s' hv=>?_⟩,fun hb s' hv=>fo ?_⟩
 ·have hY0:Y≠0:=gr.1 aa
  have hlt:=Nat.mod_lt X (show 0<Y by omega)
  refine⟨(Y,X%Y),dS hv (by rw[if_neg hY0]) rfl,⟨by rw[<-hg];exact hstep hY0,hY,Nat.lt_of_le_of_lt (gY (Nat.le_of_lt hlt)) hY⟩,hlt⟩
 have hY2:nl Y<=2:=aa
 refine cz (aE.jL (nx:=0) hv hk0 ah rfl trivial ?_)
 show aE P c f167.ntmps [pL] _ _
 refine au.hole [1,1,1,0] ah (aE.bD hT wJ hm 60 [13,14,4] X1 ah ?_)
 simp only[af.all,az,bz,bB,beq_iff_eq,beq_eq_false_iff_ne,ne_eq]
 have rest:∀{x y:Nat} {s':aH},x<2^64->y<2^64->Nat.gcd x y=Nat.gcd A B->bh [13,14,4] s'=some ([.int .u64 (x:Nat),.int .u64 (y:Nat)]++[.tuple []],[])->
   au P c f167.ntmps (part pL [1,1,1,0]) s' (ew (fun s'=>aE P c f167.ntmps (behind pL [1,1,1,0]) s' (ew (fun s'=>aE P c f167.ntmps [] s' (Fin T f167 (.mag (Nat.gcd A B)))) (Fin T f167 (.mag (Nat.gcd A B)))))
    (ew (fun s'=>aE P c f167.ntmps [] s' (Fin T f167 (.mag (Nat.gcd A B)))) (Fin T f167 (.mag (Nat.gcd A B))))):=by
  intro x y s' hx hy hg hv
  have hv:=jv (ls:=[13,14]) (l:=[4]) (vs:=[.int .u64 (x:Nat),.int .u64 (y:Nat)]) hv rfl rfl
  refine au.gV (i:=2) (y:=part pL [1,1,1,0,0,0]) ah [13,14] 0 hk0 (fun p:Nat×Nat=>[.int .u64 (p.1:Nat),.int .u64 (p.2:Nat)]) (fun _=>[]) (fun _=>rfl) (fun _=>trivial)
   (fun p=>Nat.gcd p.1 p.2=Nat.gcd A B/\p.1<2^64/\p.2<2^64) (fun p=>p.2) (x,y) hv ⟨hg,hx,hy⟩ ?_
  rintro⟨x,y⟩ ⟨hg,hx,hy⟩
  simp only at hg hx hy
  refine au.bD hT wJ hm 60 [13,14] PG ah ?_
  simp only[af.all,az,bne_iff_ne,ne_eq,bne_eq_false_iff_eq]
  refine⟨fun hb=>⟨hb,fun s' hv=>?_⟩,fun hb s' hv=>fo ?_⟩
  ·have hy0:y≠0:=aa
   have hlt:=Nat.mod_lt x (show 0<y by omega)
   exact⟨(y,x%y),dS hv (by rw[<-Int.ofNat_tmod]) rfl,⟨by rw[<-hg];exact hstep hy0,hy,by simp only;omega⟩,hlt⟩
  ·have hy0:y=0:=aa
   subst hy0
   refine cz ?_
   refine aE.mono (Q:=Fin T f167 (.mag (Nat.gcd A B))) (fun e s' h=>by cases e<;>exact h) ?_
   refine aE.xd hT wJ hm 60 (nx:=0) hv hk0 rfl trivial Ry ah ah ⟨⟨aa,aa⟩,dZ ?_⟩
   rw[bw,<-hg,Nat.gcd_zero_right]
 refine⟨fun hb s' hv=>fB (fB ?_),fun hb=>⟨fun h1=>⟨⟨hX,hY⟩,⟨aa,?_⟩,fun s' hv=>cz (rest (oE hY2) ?_ ?_ (dS hv rfl rfl))⟩,fun h1=>⟨⟨aa,aa⟩,fun s' hv=>cz (rest (oE aa) (oE hY2) hg (dS hv rfl rfl))⟩⟩⟩
 ·have hY0:Y=0:=by
   rcases Nat.eq_zero_or_pos Y with h1|h1
   ·exact h1
   ·have:=gr.2 (show Y≠0 by omega);omega
  refine gC (us:=[.mag X]) (.inr rfl) hv ah (dZ ?_)
  rw[<-hg,hY0,Nat.gcd_zero_right]
 all_goals
  have hY0:Y≠0:=gr.1 aa
  have hlt:=Nat.mod_lt X (show 0<Y by omega)
  rw[if_neg hY0]
 ·exact Nat.le_trans (gY (Nat.le_of_lt hlt)) hY2
 ·exact Nat.lt_trans hlt (oE hY2)
 ·rw[<-hg];exact hstep hY0
def EE (A n B m:Nat):dz:=aJ (.mag (Nat.gcd A B)) [n<2^40,m<2^40]
theorem UK:aY P (bR (iw EE)) 167:=
 cD (r8 fun _ _ _ _ K hz hy need=>Yz hz hy need.1 need.2 K [])
end Go.Am.B
