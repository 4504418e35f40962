/- natural.Gcd. -/
import Derived.Test.YtolopdkjjlfgjaaGreatB13
set_option linter.unusedVariables false
namespace Go.Am.B
open Go Go.Am.N AV Proofs.Tryz
theorem Wh:br 167 f167:=bu func167
def GG:bz:=(168,cw (jy Ev))::(181,Ct)::(182,cw (nj AE))::(170,ED)::G1
noncomputable abbrev sn:Code:=part (aI f167) [1,1,1]
theorem yO:bU P GG:=aL Oy (aL D4 (aL ZK (aL Ou iM)))
theorem ahL {n m:Nat} {z y:Nat->Nat}:aH T GG [] 60 [5,6] (before (aI f167) [1,1,0]) ⟨aU 0 [.ak 1 n (aA z),.ak 1 m (aA y)],[],0⟩=
  let c2:Nat:=val n fun i=>numOf (aA z i);let c1:Nat:=val m fun i=>numOf (aA y i);some (af.aj [fe n (aA z),n<2^62,nl c2<2^40,fe m (aA y),m<2^62,nl c1<2^40] (af.leaf aq.normal ([mag c2,mag c1],[]))):=ah
theorem RO {X Y:Nat}:aH T GG [23] 60 [5,6] [part (aI f167) [1,1,0,0,0]] ⟨aB [5,6] [.mag X,.mag Y],[],0⟩=
  some (af.fork (decide ((↑(nl Y):Int)>2)) (af.aj [nl X<2^40,nl Y<2^40] (af.leaf aq.normal ([mag Y,mag (if Y=0 then 0 else X%Y)],[]))) (af.leaf (aq.exit 0) ([mag X,mag Y],[]))):=ah
theorem ahM {X Y:Nat}:aH T GG [35,39] 60 [13,14,4] (before sn [1,1,1,0]) ⟨aB [5,6] [.mag X,.mag Y],[],0⟩=
  let c2:AV:=int .u64 (↑Y:Int);let c1:Nat:=if Y=0 then 0 else X%Y;some (af.fork ((↑(nl Y):Int)==0) (af.leaf aq.ret ([tuple [],tuple [],mag X],[])) (af.fork (decide ((↑(nl X):Int)>2)) (af.aj [nl X<2^40,nl Y<2^40] (af.aj [nl Y<=2,nl c1<=2] (af.leaf aq.normal ([c2,int .u64 (↑c1:Int),tuple []],[])))) (af.aj [nl X<=2,nl Y<=2] (af.leaf aq.normal ([int .u64 (↑X:Int),c2,tuple []],[]))))):=ah
theorem Vq {x y:Nat}:aH T GG [54] 60 [13,14] [part sn [1,1,1,0,0,0]] ⟨aB [13,14] [.int .u64 x,.int .u64 y],[],0⟩=
  let c1:Int:=(↑y:Int);some (af.fork (c1 !=(0:Int)) (af.aj [c1≠(0:Int)] (af.leaf aq.normal ([int .u64 c1,int .u64 ((↑x:Int).tmod c1)],[]))) (af.leaf (aq.exit 2) ([int .u64 (↑x:Int),int .u64 c1],[]))):=ah
theorem agx {x y:Nat}:cR T GG [] 60 f167 (behind sn [1,1,1,0]) ⟨aB [13,14] [.int .u64 x,.int .u64 y],[],0⟩=
  some (af.aj [(0:Int)<=(↑x:Int)/\(↑x:Int)<2^64] (af.leaf aq.ret [mag (↑x:Int).toNat])):=ah
theorem rq {Y:Nat} (h:nl Y<=2):Y<2^64:=eo.1 h
theorem Z1 {n m:Nat} {z y:Nat->Nat} (hz:∀i,i<n->z i<2^32) (hy:∀i,i<m->y i<2^32) (hn:n<2^40) (hm':m<2^40) (K:Nat) (pre:aE):
  aS P 167 K [.ak 1 n (aA z),.ak 1 m (aA y)] pre (aM (.mag (Nat.gcd (val n z) (val m y))) []):=by
 refine kI hT Wh rfl aZ rfl (fun _ c h0=>?_) K pre
 have hk0:∀{nx:Nat} k x,c.k0 k=some x->k<nx:=kr h0
 have hA:nl (val n z)<=n:=eo.2 (gV hz)
 have hB:nl (val m y)<=m:=eo.2 (gV hy)
 refine au.hole [1,1,0] ah (aF.bL hT yO hm 60 [5,6] ahL ah ?_)
 simp only[af.all,az,kq]
 generalize val n z=A at*
 generalize val m y=B at*
 refine⟨⟨iu hz,aa,aa,iu hy,aa,aa⟩,fun s' hv=>cW ?_⟩
 refine au.jh (i:=0) (y:=part (aI f167) [1,1,0,0,0]) ah [5,6] 0 hk0 (fun p:Nat×Nat=>[.mag p.1,.mag p.2]) (fun _=>[]) (fun _=>rfl) (fun _=>trivial)
  (fun p=>Nat.gcd p.1 p.2=Nat.gcd A B/\nl p.1<2^40/\nl p.2<2^40) (fun p=>p.2) (A,B) hv ⟨rfl,by simp only;omega,by simp only;omega⟩ ?_
 rintro⟨X,Y⟩ ⟨hg,hX,hY⟩
 simp only at hg hX hY
 refine au.bL hT yO hm 60 [5,6] RO ah ?_
 simp only[af.all,az,bD,bI]
 have hstep:∀{X Y:Nat},Y≠0->Nat.gcd Y (X%Y)=Nat.gcd X Y:=fun {X Y} _=>by rw[Nat.gcd_comm X Y,Nat.gcd_rec Y X,Nat.gcd_comm]
 refine⟨fun hb=>⟨⟨hX,hY⟩,fun s' hv=>?_⟩,fun hb s' hv=>gv ?_⟩
 ·have hY0:Y≠0:=iB.1 aa
  have hlt:=Nat.mod_lt X (show 0<Y by omega)
  refine⟨(Y,X%Y),eP hv (by rw[if_neg hY0]) rfl,⟨by rw[<-hg];exact hstep hY0,hY,Nat.lt_of_le_of_lt (jd (Nat.le_of_lt hlt)) hY⟩,hlt⟩
 have hY2:nl Y<=2:=aa
 refine cW (aF.kZ (nx:=0) hv hk0 ah rfl trivial ?_)
 show aF P c f167.ntmps [sn] _ _
 refine au.hole [1,1,1,0] ah (aF.bL hT yO hm 60 [13,14,4] ahM ah ?_)
 simp only[af.all,az,bD,bI,beq_iff_eq,beq_eq_false_iff_ne,ne_eq]
 have rest:∀{x y:Nat} {s':aK},x<2^64->y<2^64->Nat.gcd x y=Nat.gcd A B->bA [13,14,4] s'=some ([.int .u64 (x:Nat),.int .u64 (y:Nat)]++[.tuple []],[])->
   au P c f167.ntmps (part sn [1,1,1,0]) s' (fF (fun s'=>aF P c f167.ntmps (behind sn [1,1,1,0]) s' (fF (fun s'=>aF P c f167.ntmps [] s' (Fin T f167 (.mag (Nat.gcd A B)))) (Fin T f167 (.mag (Nat.gcd A B)))))
    (fF (fun s'=>aF P c f167.ntmps [] s' (Fin T f167 (.mag (Nat.gcd A B)))) (Fin T f167 (.mag (Nat.gcd A B))))):=by
  intro x y s' hx hy hg hv
  have hv:=kB (ls:=[13,14]) (l:=[4]) (vs:=[.int .u64 (x:Nat),.int .u64 (y:Nat)]) hv rfl rfl
  refine au.jh (i:=2) (y:=part sn [1,1,1,0,0,0]) ah [13,14] 0 hk0 (fun p:Nat×Nat=>[.int .u64 (p.1:Nat),.int .u64 (p.2:Nat)]) (fun _=>[]) (fun _=>rfl) (fun _=>trivial)
   (fun p=>Nat.gcd p.1 p.2=Nat.gcd A B/\p.1<2^64/\p.2<2^64) (fun p=>p.2) (x,y) hv ⟨hg,hx,hy⟩ ?_
  rintro⟨x,y⟩ ⟨hg,hx,hy⟩
  simp only at hg hx hy
  refine au.bL hT yO hm 60 [13,14] Vq ah ?_
  simp only[af.all,az,bne_iff_ne,ne_eq,bne_eq_false_iff_eq]
  refine⟨fun hb=>⟨hb,fun s' hv=>?_⟩,fun hb s' hv=>gv ?_⟩
  ·have hy0:y≠0:=aa
   have hlt:=Nat.mod_lt x (show 0<y by omega)
   exact⟨(y,x%y),eP hv (by rw[<-Int.ofNat_tmod]) rfl,⟨by rw[<-hg];exact hstep hy0,hy,by simp only;omega⟩,hlt⟩
  ·have hy0:y=0:=aa
   subst hy0
   refine cW ?_
   refine aF.mono (Q:=Fin T f167 (.mag (Nat.gcd A B))) (fun e s' h=>by cases e<;>exact h) ?_
   refine aF.Dc hT yO hm 60 (nx:=0) hv hk0 rfl trivial agx ah ah ⟨⟨aa,aa⟩,eU ?_⟩
   rw[bG,<-hg,Nat.gcd_zero_right]
 refine⟨fun hb s' hv=>gr (gr ?_),fun hb=>⟨fun h1=>⟨⟨hX,hY⟩,⟨aa,?_⟩,fun s' hv=>cW (rest (rq hY2) ?_ ?_ (eP hv rfl rfl))⟩,fun h1=>⟨⟨aa,aa⟩,fun s' hv=>cW (rest (rq aa) (rq hY2) hg (eP hv rfl rfl))⟩⟩⟩
 ·have hY0:Y=0:=by
   rcases Nat.eq_zero_or_pos Y with h1|h1
   ·exact h1
   ·have:=iB.2 (show Y≠0 by omega);omega
  refine iG (us:=[.mag X]) (.inr rfl) hv ah (eU ?_)
  rw[<-hg,hY0,Nat.gcd_zero_right]
 all_goals
  have hY0:Y≠0:=iB.1 aa
  have hlt:=Nat.mod_lt X (show 0<Y by omega)
  rw[if_neg hY0]
 ·exact Nat.le_trans (jd (Nat.le_of_lt hlt)) hY2
 ·exact Nat.lt_trans hlt (rq hY2)
 ·rw[<-hg];exact hstep hY0
def Pv (A n B m:Nat):dZ:=aM (.mag (Nat.gcd A B)) [n<2^40,m<2^40]
theorem abr:bf P (cw (jy Pv)) 167:=
 dc (wg fun _ _ _ _ K hz hy need=>Z1 hz hy need.1 need.2 K [])
end Go.Am.B
