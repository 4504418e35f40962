/- natural.Gcd. -/
import Derived.Test.YtolopdkjjlfgjaaGreatB13
set_option linter.unusedVariables false
namespace Go.Am.B
open Go Go.Am.N AV Proofs.Tryz
theorem agS:bf 167 f167:=bg func167
def GG:bk:=(168,cu (jw DY))::(181,AP)::(182,cu (mZ BC))::(170,Fb)::G1
noncomputable abbrev tQ:Code:=part (aH f167) [1,1,1]
theorem xo:bR P GG:=aJ QB (aJ HB (aJ Yd (aJ NN iT)))
theorem Zw {n m:Nat} {z y:Nat->Nat}:aI T GG [] 60 [5,6] (before (aH f167) [1,1,0]) ⟨aU 0 [.ak 1 n (aB z),.ak 1 m (aB y)],[],0⟩=
  let c2:Nat:=val n fun i=>numOf (aB z i);let c1:Nat:=val m fun i=>numOf (aB y i);some (ag.aj [fm n (aB z),n<2^62,nl c2<2^40,fm m (aB y),m<2^62,nl c1<2^40] (ag.leaf aq.normal ([mag c2,mag c1],[]))):=ah
theorem aie {X Y:Nat}:aI T GG [23] 60 [5,6] [part (aH f167) [1,1,0,0,0]] ⟨aC [5,6] [.mag X,.mag Y],[],0⟩=
  some (ag.fork (decide ((↑(nl Y):Int)>2)) (ag.aj [nl X<2^40,nl Y<2^40] (ag.leaf aq.normal ([mag Y,mag (if Y=0 then 0 else X%Y)],[]))) (ag.leaf (aq.exit 0) ([mag X,mag Y],[]))):=ah
theorem ahg {X Y:Nat}:aI T GG [35,39] 60 [13,14,4] (before tQ [1,1,1,0]) ⟨aC [5,6] [.mag X,.mag Y],[],0⟩=
  let c2:AV:=int .u64 (↑Y:Int);let c1:Nat:=if Y=0 then 0 else X%Y;some (ag.fork ((↑(nl Y):Int)==0) (ag.leaf aq.ret ([tuple [],tuple [],mag X],[])) (ag.fork (decide ((↑(nl X):Int)>2)) (ag.aj [nl X<2^40,nl Y<2^40] (ag.aj [nl Y<=2,nl c1<=2] (ag.leaf aq.normal ([c2,int .u64 (↑c1:Int),tuple []],[])))) (ag.aj [nl X<=2,nl Y<=2] (ag.leaf aq.normal ([int .u64 (↑X:Int),c2,tuple []],[]))))):=ah
theorem aim {x y:Nat}:aI T GG [54] 60 [13,14] [part tQ [1,1,1,0,0,0]] ⟨aC [13,14] [.int .u64 x,.int .u64 y],[],0⟩=
  let c1:Int:=(↑y:Int);some (ag.fork (c1 !=(0:Int)) (ag.aj [c1≠(0:Int)] (ag.leaf aq.normal ([int .u64 c1,int .u64 ((↑x:Int).tmod c1)],[]))) (ag.leaf (aq.exit 2) ([int .u64 (↑x:Int),int .u64 c1],[]))):=ah
theorem XM {x y:Nat}:cQ T GG [] 60 f167 (behind tQ [1,1,1,0]) ⟨aC [13,14] [.int .u64 x,.int .u64 y],[],0⟩=
  some (ag.aj [(0:Int)<=(↑x:Int)/\(↑x:Int)<2^64] (ag.leaf aq.ret [mag (↑x:Int).toNat])):=ah
theorem qS {Y:Nat} (h:nl Y<=2):Y<2^64:=eA.1 h
theorem ahE {n m:Nat} {z y:Nat->Nat} (hz:∀i,i<n->z i<2^32) (hy:∀i,i<m->y i<2^32) (hn:n<2^40) (hm':m<2^40) (K:Nat) (pre:aE):
  aQ P 167 K [.ak 1 n (aB z),.ak 1 m (aB y)] pre (aL (.mag (Nat.gcd (val n z) (val m y))) []):=by
 refine kO hT agS rfl aX rfl (fun _ c h0=>?_) K pre
 have hk0:∀{nx:Nat} k x,c.k0 k=some x->k<nx:=kI h0
 have hA:nl (val n z)<=n:=eA.2 (g7 hz)
 have hB:nl (val m y)<=m:=eA.2 (g7 hy)
 refine ax.hole [1,1,0] ah (aG.bO hT xo hm 60 [5,6] Zw ah ?_)
 simp only[ag.all,az,kY]
 generalize val n z=A at*
 generalize val m y=B at*
 refine⟨⟨iE hz,aa,aa,iE hy,aa,aa⟩,fun s' hv=>cZ ?_⟩
 refine ax.jg (i:=0) (y:=part (aH f167) [1,1,0,0,0]) ah [5,6] 0 hk0 (fun p:Nat×Nat=>[.mag p.1,.mag p.2]) (fun _=>[]) (fun _=>rfl) (fun _=>trivial)
  (fun p=>Nat.gcd p.1 p.2=Nat.gcd A B/\nl p.1<2^40/\nl p.2<2^40) (fun p=>p.2) (A,B) hv ⟨rfl,by simp only;omega,by simp only;omega⟩ ?_
 rintro⟨X,Y⟩ ⟨hg,hX,hY⟩
 simp only at hg hX hY
 refine ax.bO hT xo hm 60 [5,6] aie ah ?_
 simp only[ag.all,az,bB,bD]
 have hstep:∀{X Y:Nat},Y≠0->Nat.gcd Y (X%Y)=Nat.gcd X Y:=fun {X Y} _=>by rw[Nat.gcd_comm X Y,Nat.gcd_rec Y X,Nat.gcd_comm]
 refine⟨fun hb=>⟨⟨hX,hY⟩,fun s' hv=>?_⟩,fun hb s' hv=>gB ?_⟩
 ·have hY0:Y≠0:=iF.1 aa
  have hlt:=Nat.mod_lt X (show 0<Y by omega)
  refine⟨(Y,X%Y),fe hv (by rw[if_neg hY0]) rfl,⟨by rw[<-hg];exact hstep hY0,hY,Nat.lt_of_le_of_lt (iW (Nat.le_of_lt hlt)) hY⟩,hlt⟩
 have hY2:nl Y<=2:=aa
 refine cZ (aG.lz (nx:=0) hv hk0 ah rfl trivial ?_)
 show aG P c f167.ntmps [tQ] _ _
 refine ax.hole [1,1,1,0] ah (aG.bO hT xo hm 60 [13,14,4] ahg ah ?_)
 simp only[ag.all,az,bB,bD,beq_iff_eq,beq_eq_false_iff_ne,ne_eq]
 have rest:∀{x y:Nat} {s':aN},x<2^64->y<2^64->Nat.gcd x y=Nat.gcd A B->bE [13,14,4] s'=some ([.int .u64 (x:Nat),.int .u64 (y:Nat)]++[.tuple []],[])->
   ax P c f167.ntmps (part tQ [1,1,1,0]) s' (fI (fun s'=>aG P c f167.ntmps (behind tQ [1,1,1,0]) s' (fI (fun s'=>aG P c f167.ntmps [] s' (Fin T f167 (.mag (Nat.gcd A B)))) (Fin T f167 (.mag (Nat.gcd A B)))))
    (fI (fun s'=>aG P c f167.ntmps [] s' (Fin T f167 (.mag (Nat.gcd A B)))) (Fin T f167 (.mag (Nat.gcd A B))))):=by
  intro x y s' hx hy hg hv
  have hv:=kn (ls:=[13,14]) (l:=[4]) (vs:=[.int .u64 (x:Nat),.int .u64 (y:Nat)]) hv rfl rfl
  refine ax.jg (i:=2) (y:=part tQ [1,1,1,0,0,0]) ah [13,14] 0 hk0 (fun p:Nat×Nat=>[.int .u64 (p.1:Nat),.int .u64 (p.2:Nat)]) (fun _=>[]) (fun _=>rfl) (fun _=>trivial)
   (fun p=>Nat.gcd p.1 p.2=Nat.gcd A B/\p.1<2^64/\p.2<2^64) (fun p=>p.2) (x,y) hv ⟨hg,hx,hy⟩ ?_
  rintro⟨x,y⟩ ⟨hg,hx,hy⟩
  simp only at hg hx hy
  refine ax.bO hT xo hm 60 [13,14] aim ah ?_
  simp only[ag.all,az,bne_iff_ne,ne_eq,bne_eq_false_iff_eq]
  refine⟨fun hb=>⟨hb,fun s' hv=>?_⟩,fun hb s' hv=>gB ?_⟩
  ·have hy0:y≠0:=aa
   have hlt:=Nat.mod_lt x (show 0<y by omega)
   exact⟨(y,x%y),fe hv (by rw[<-Int.ofNat_tmod]) rfl,⟨by rw[<-hg];exact hstep hy0,hy,by simp only;omega⟩,hlt⟩
  ·have hy0:y=0:=aa
   subst hy0
   refine cZ ?_
   refine aG.mono (Q:=Fin T f167 (.mag (Nat.gcd A B))) (fun e s' h=>by cases e<;>exact h) ?_
   refine aG.C5 hT xo hm 60 (nx:=0) hv hk0 rfl trivial XM ah ah ⟨⟨aa,aa⟩,fk ?_⟩
   rw[bJ,<-hg,Nat.gcd_zero_right]
 refine⟨fun hb s' hv=>gy (gy ?_),fun hb=>⟨fun h1=>⟨⟨hX,hY⟩,⟨aa,?_⟩,fun s' hv=>cZ (rest (qS hY2) ?_ ?_ (fe hv rfl rfl))⟩,fun h1=>⟨⟨aa,aa⟩,fun s' hv=>cZ (rest (qS aa) (qS hY2) hg (fe hv rfl rfl))⟩⟩⟩
 ·have hY0:Y=0:=by
   rcases Nat.eq_zero_or_pos Y with h1|h1
   ·exact h1
   ·have:=iF.2 (show Y≠0 by omega);omega
  refine iP (us:=[.mag X]) (.inr rfl) hv ah (fk ?_)
  rw[<-hg,hY0,Nat.gcd_zero_right]
 all_goals
  have hY0:Y≠0:=iF.1 aa
  have hlt:=Nat.mod_lt X (show 0<Y by omega)
  rw[if_neg hY0]
 ·exact Nat.le_trans (iW (Nat.le_of_lt hlt)) hY2
 ·exact Nat.lt_trans hlt (qS hY2)
 ·rw[<-hg];exact hstep hY0
def Gb (A n B m:Nat):ep:=aL (.mag (Nat.gcd A B)) [n<2^40,m<2^40]
theorem LQ:aY P (cu (jw Gb)) 167:=
 cW (uT fun _ _ _ _ K hz hy need=>ahE hz hy need.1 need.2 K [])
end Go.Am.B
