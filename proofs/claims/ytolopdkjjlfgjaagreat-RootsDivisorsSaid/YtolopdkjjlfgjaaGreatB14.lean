/- natural.Gcd. -/
import Derived.Test.YtolopdkjjlfgjaaGreatB13
set_option linter.unusedVariables false
namespace Go.Am.B
open Go Go.Am.N AV Proofs.Tryz
theorem P8:aX 167 f167:=aY func167
def GG:bg:=(168,bR (jc EA))::(181,zw)::(182,bR (mo AG))::(170,Bv)::G1
noncomputable abbrev qR:Code:=part (aG f167) [1,1,1]
theorem wU:bK P GG:=aK Mi (aK EL (aK Z6 (aK FK gR)))
theorem abg {n m:Nat} {z y:Nat->Nat}:aH T GG [] 60 [5,6] (before (aG f167) [1,1,0]) ⟨aS 0 [.ak 1 n (aA z),.ak 1 m (aA y)],[],0⟩=
  let c2:Nat:=val n fun i=>numOf (aA z i);let c1:Nat:=val m fun i=>numOf (aA y i);some (af.aj [ew n (aA z),n<2^62,nl c2<2^40,ew m (aA y),m<2^62,nl c1<2^40] (af.leaf aq.normal ([mag c2,mag c1],[]))):=ag
theorem Qd {X Y:Nat}:aH T GG [23] 60 [5,6] [part (aG f167) [1,1,0,0,0]] ⟨aD [5,6] [.mag X,.mag Y],[],0⟩=
  some (af.fork (decide ((↑(nl Y):Int)>2)) (af.aj [nl X<2^40,nl Y<2^40] (af.leaf aq.normal ([mag Y,mag (if Y=0 then 0 else X%Y)],[]))) (af.leaf (aq.exit 0) ([mag X,mag Y],[]))):=ag
theorem Pw {X Y:Nat}:aH T GG [35,39] 60 [13,14,4] (before qR [1,1,1,0]) ⟨aD [5,6] [.mag X,.mag Y],[],0⟩=
  let c2:AV:=int .u64 (↑Y:Int);let c1:Nat:=if Y=0 then 0 else X%Y;some (af.fork ((↑(nl Y):Int)==0) (af.leaf aq.ret ([tuple [],tuple [],mag X],[])) (af.fork (decide ((↑(nl X):Int)>2)) (af.aj [nl X<2^40,nl Y<2^40] (af.aj [nl Y<=2,nl c1<=2] (af.leaf aq.normal ([c2,int .u64 (↑c1:Int),tuple []],[])))) (af.aj [nl X<=2,nl Y<=2] (af.leaf aq.normal ([int .u64 (↑X:Int),c2,tuple []],[]))))):=ag
theorem Wy {x y:Nat}:aH T GG [54] 60 [13,14] [part qR [1,1,1,0,0,0]] ⟨aD [13,14] [.int .u64 x,.int .u64 y],[],0⟩=
  let c1:Int:=(↑y:Int);some (af.fork (c1 !=(0:Int)) (af.aj [c1≠(0:Int)] (af.leaf aq.normal ([int .u64 c1,int .u64 ((↑x:Int).tmod c1)],[]))) (af.leaf (aq.exit 2) ([int .u64 (↑x:Int),int .u64 c1],[]))):=ag
theorem abZ {x y:Nat}:cN T GG [] 60 f167 (behind qR [1,1,1,0]) ⟨aD [13,14] [.int .u64 x,.int .u64 y],[],0⟩=
  some (af.aj [(0:Int)<=(↑x:Int)/\(↑x:Int)<2^64] (af.leaf aq.ret [mag (↑x:Int).toNat])):=ag
theorem pK {Y:Nat} (h:nl Y<=2):Y<2^64:=dB.1 h
theorem Ov {n m:Nat} {z y:Nat->Nat} (hz:∀i,i<n->z i<2^32) (hy:∀i,i<m->y i<2^32) (hn:n<2^40) (hm':m<2^40) (K:Nat) (pre:aE):
  aO P 167 K [.ak 1 n (aA z),.ak 1 m (aA y)] pre (aJ (.mag (Nat.gcd (val n z) (val m y))) []):=by
 refine jU hT P8 rfl aW rfl (fun _ c h0=>?_) K pre
 have hk0:∀{nx:Nat} k x,c.k0 k=some x->k<nx:=jJ h0
 have hA:nl (val n z)<=n:=dB.2 (fY hz)
 have hB:nl (val m y)<=m:=dB.2 (fY hy)
 refine au.hole [1,1,0] ag (aF.bF hT wU hm 60 [5,6] abg ag ?_)
 simp only[af.all,az,jO]
 generalize val n z=A at*
 generalize val m y=B at*
 refine⟨⟨gv hz,aa,aa,gv hy,aa,aa⟩,fun s' hv=>cD ?_⟩
 refine au.iy (i:=0) (y:=part (aG f167) [1,1,0,0,0]) ag [5,6] 0 hk0 (fun p:Nat×Nat=>[.mag p.1,.mag p.2]) (fun _=>[]) (fun _=>rfl) (fun _=>trivial)
  (fun p=>Nat.gcd p.1 p.2=Nat.gcd A B/\nl p.1<2^40/\nl p.2<2^40) (fun p=>p.2) (A,B) hv ⟨rfl,by simp only;omega,by simp only;omega⟩ ?_
 rintro⟨X,Y⟩ ⟨hg,hX,hY⟩
 simp only at hg hX hY
 refine au.bF hT wU hm 60 [5,6] Qd ag ?_
 simp only[af.all,az,bz,bE]
 have hstep:∀{X Y:Nat},Y≠0->Nat.gcd Y (X%Y)=Nat.gcd X Y:=fun {X Y} _=>by rw[Nat.gcd_comm X Y,Nat.gcd_rec Y X,Nat.gcd_comm]
 refine⟨fun hb=>⟨⟨hX,hY⟩,fun s' hv=>?_⟩,fun hb s' hv=>fL ?_⟩
 ·have hY0:Y≠0:=gI.1 aa
  have hlt:=Nat.mod_lt X (show 0<Y by omega)
  refine⟨(Y,X%Y),ef hv (by rw[if_neg hY0]) rfl,⟨by rw[<-hg];exact hstep hY0,hY,Nat.lt_of_le_of_lt (hH (Nat.le_of_lt hlt)) hY⟩,hlt⟩
 have hY2:nl Y<=2:=aa
 refine cD (aF.j8 (nx:=0) hv hk0 ag rfl trivial ?_)
 show aF P c f167.ntmps [qR] _ _
 refine au.hole [1,1,1,0] ag (aF.bF hT wU hm 60 [13,14,4] Pw ag ?_)
 simp only[af.all,az,bz,bE,beq_iff_eq,beq_eq_false_iff_ne,ne_eq]
 have rest:∀{x y:Nat} {s':aI},x<2^64->y<2^64->Nat.gcd x y=Nat.gcd A B->bk [13,14,4] s'=some ([.int .u64 (x:Nat),.int .u64 (y:Nat)]++[.tuple []],[])->
   au P c f167.ntmps (part qR [1,1,1,0]) s' (eR (fun s'=>aF P c f167.ntmps (behind qR [1,1,1,0]) s' (eR (fun s'=>aF P c f167.ntmps [] s' (Fin T f167 (.mag (Nat.gcd A B)))) (Fin T f167 (.mag (Nat.gcd A B)))))
    (eR (fun s'=>aF P c f167.ntmps [] s' (Fin T f167 (.mag (Nat.gcd A B)))) (Fin T f167 (.mag (Nat.gcd A B))))):=by
  intro x y s' hx hy hg hv
  have hv:=jS (ls:=[13,14]) (l:=[4]) (vs:=[.int .u64 (x:Nat),.int .u64 (y:Nat)]) hv rfl rfl
  refine au.iy (i:=2) (y:=part qR [1,1,1,0,0,0]) ag [13,14] 0 hk0 (fun p:Nat×Nat=>[.int .u64 (p.1:Nat),.int .u64 (p.2:Nat)]) (fun _=>[]) (fun _=>rfl) (fun _=>trivial)
   (fun p=>Nat.gcd p.1 p.2=Nat.gcd A B/\p.1<2^64/\p.2<2^64) (fun p=>p.2) (x,y) hv ⟨hg,hx,hy⟩ ?_
  rintro⟨x,y⟩ ⟨hg,hx,hy⟩
  simp only at hg hx hy
  refine au.bF hT wU hm 60 [13,14] Wy ag ?_
  simp only[af.all,az,bne_iff_ne,ne_eq,bne_eq_false_iff_eq]
  refine⟨fun hb=>⟨hb,fun s' hv=>?_⟩,fun hb s' hv=>fL ?_⟩
  ·have hy0:y≠0:=aa
   have hlt:=Nat.mod_lt x (show 0<y by omega)
   exact⟨(y,x%y),ef hv (by rw[<-Int.ofNat_tmod]) rfl,⟨by rw[<-hg];exact hstep hy0,hy,by simp only;omega⟩,hlt⟩
  ·have hy0:y=0:=aa
   subst hy0
   refine cD ?_
   refine aF.mono (Q:=Fin T f167 (.mag (Nat.gcd A B))) (fun e s' h=>by cases e<;>exact h) ?_
   refine aF.Ad hT wU hm 60 (nx:=0) hv hk0 rfl trivial abZ ag ag ⟨⟨aa,aa⟩,en ?_⟩
   rw[bu,<-hg,Nat.gcd_zero_right]
 refine⟨fun hb s' hv=>fH (fH ?_),fun hb=>⟨fun h1=>⟨⟨hX,hY⟩,⟨aa,?_⟩,fun s' hv=>cD (rest (pK hY2) ?_ ?_ (ef hv rfl rfl))⟩,fun h1=>⟨⟨aa,aa⟩,fun s' hv=>cD (rest (pK aa) (pK hY2) hg (ef hv rfl rfl))⟩⟩⟩
 ·have hY0:Y=0:=by
   rcases Nat.eq_zero_or_pos Y with h1|h1
   ·exact h1
   ·have:=gI.2 (show Y≠0 by omega);omega
  refine gN (us:=[.mag X]) (.inr rfl) hv ag (en ?_)
  rw[<-hg,hY0,Nat.gcd_zero_right]
 all_goals
  have hY0:Y≠0:=gI.1 aa
  have hlt:=Nat.mod_lt X (show 0<Y by omega)
  rw[if_neg hY0]
 ·exact Nat.le_trans (hH (Nat.le_of_lt hlt)) hY2
 ·exact Nat.lt_trans hlt (pK hY2)
 ·rw[<-hg];exact hstep hY0
def Kv (A n B m:Nat):dr:=aJ (.mag (Nat.gcd A B)) [n<2^40,m<2^40]
theorem Yv:bf P (bR (jc Kv)) 167:=
 cE (rP fun _ _ _ _ K hz hy need=>Ov hz hy need.1 need.2 K [])
end Go.Am.B
