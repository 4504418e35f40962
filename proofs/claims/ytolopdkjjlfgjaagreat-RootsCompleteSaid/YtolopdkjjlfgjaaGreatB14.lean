/- natural.Gcd. -/
import Derived.Test.YtolopdkjjlfgjaaGreatB13
set_option linter.unusedVariables false
namespace Go.Am.B
open Go Go.Am.N AV Proofs.Tryz
theorem Uy:bu 167 f167:=bz func167
def GG:bB:=(168,b7 (jq CZ))::(181,zB)::(182,b7 (mT Bg))::(170,Fw)::G1
noncomputable abbrev qN:Code:=part (aG f167) [1,1,1]
theorem wD:bT P GG:=aN Nw (aN Ch (aN Ss (aN NT iA)))
theorem adA {n m:Nat} {z y:Nat->Nat}:aH T GG [] 60 [5,6] (before (aG f167) [1,1,0]) ⟨aV 0 [.aq 1 n (az z),.aq 1 m (az y)],[],0⟩=
  let c2:Nat:=val n fun i=>numOf (az z i);let c1:Nat:=val m fun i=>numOf (az y i);some (af.aj [eP n (az z),n<2^62,nl c2<2^40,eP m (az y),m<2^62,nl c1<2^40] (af.leaf ak.normal ([mag c2,mag c1],[]))):=ag
theorem aah {X Y:Nat}:aH T GG [23] 60 [5,6] [part (aG f167) [1,1,0,0,0]] ⟨aE [5,6] [.mag X,.mag Y],[],0⟩=
  some (af.fork (decide ((↑(nl Y):Int)>2)) (af.aj [nl X<2^40,nl Y<2^40] (af.leaf ak.normal ([mag Y,mag (if Y=0 then 0 else X%Y)],[]))) (af.leaf (ak.exit 0) ([mag X,mag Y],[]))):=ag
theorem Pr {X Y:Nat}:aH T GG [35,39] 60 [13,14,4] (before qN [1,1,1,0]) ⟨aE [5,6] [.mag X,.mag Y],[],0⟩=
  let c2:AV:=int .u64 (↑Y:Int);let c1:Nat:=if Y=0 then 0 else X%Y;some (af.fork ((↑(nl Y):Int)==0) (af.leaf ak.ret ([tuple [],tuple [],mag X],[])) (af.fork (decide ((↑(nl X):Int)>2)) (af.aj [nl X<2^40,nl Y<2^40] (af.aj [nl Y<=2,nl c1<=2] (af.leaf ak.normal ([c2,int .u64 (↑c1:Int),tuple []],[])))) (af.aj [nl X<=2,nl Y<=2] (af.leaf ak.normal ([int .u64 (↑X:Int),c2,tuple []],[]))))):=ag
theorem ac6 {x y:Nat}:aH T GG [54] 60 [13,14] [part qN [1,1,1,0,0,0]] ⟨aE [13,14] [.int .u64 x,.int .u64 y],[],0⟩=
  let c1:Int:=(↑y:Int);some (af.fork (c1 !=(0:Int)) (af.aj [c1≠(0:Int)] (af.leaf ak.normal ([int .u64 c1,int .u64 ((↑x:Int).tmod c1)],[]))) (af.leaf (ak.exit 2) ([int .u64 (↑x:Int),int .u64 c1],[]))):=ag
theorem Qe {x y:Nat}:dA T GG [] 60 f167 (behind qN [1,1,1,0]) ⟨aE [13,14] [.int .u64 x,.int .u64 y],[],0⟩=
  some (af.aj [(0:Int)<=(↑x:Int)/\(↑x:Int)<2^64] (af.leaf ak.ret [mag (↑x:Int).toNat])):=ag
theorem qm {Y:Nat} (h:nl Y<=2):Y<2^64:=ec.1 h
theorem Wu {n m:Nat} {z y:Nat->Nat} (hz:∀i,i<n->z i<2^32) (hy:∀i,i<m->y i<2^32) (hn:n<2^40) (hm':m<2^40) (K:Nat) (pre:aD):
  aQ P 167 K [.aq 1 n (az z),.aq 1 m (az y)] pre (aM (.mag (Nat.gcd (val n z) (val m y))) []):=by
 refine kr hT Uy rfl bp rfl (fun _ c h0=>?_) K pre
 have hk0:∀{nx:Nat} k x,c.k0 k=some x->k<nx:=kg h0
 have hA:nl (val n z)<=n:=ec.2 (gH hz)
 have hB:nl (val m y)<=m:=ec.2 (gH hy)
 refine au.hole [1,1,0] ag (aF.bJ hT wD hm 60 [5,6] adA ag ?_)
 simp only[af.all,aA,kj]
 generalize val n z=A at*
 generalize val m y=B at*
 refine⟨⟨g9 hz,aa,aa,g9 hy,aa,aa⟩,fun s' hv=>cM ?_⟩
 refine au.iR (i:=0) (y:=part (aG f167) [1,1,0,0,0]) ag [5,6] 0 hk0 (fun p:Nat×Nat=>[.mag p.1,.mag p.2]) (fun _=>[]) (fun _=>rfl) (fun _=>trivial)
  (fun p=>Nat.gcd p.1 p.2=Nat.gcd A B/\nl p.1<2^40/\nl p.2<2^40) (fun p=>p.2) (A,B) hv ⟨rfl,by simp only;omega,by simp only;omega⟩ ?_
 rintro⟨X,Y⟩ ⟨hg,hX,hY⟩
 simp only at hg hX hY
 refine au.bJ hT wD hm 60 [5,6] aah ag ?_
 simp only[af.all,aA,bK,bO]
 have hstep:∀{X Y:Nat},Y≠0->Nat.gcd Y (X%Y)=Nat.gcd X Y:=fun {X Y} _=>by rw[Nat.gcd_comm X Y,Nat.gcd_rec Y X,Nat.gcd_comm]
 refine⟨fun hb=>⟨⟨hX,hY⟩,fun s' hv=>?_⟩,fun hb s' hv=>fW ?_⟩
 ·have hY0:Y≠0:=gZ.1 aa
  have hlt:=Nat.mod_lt X (show 0<Y by omega)
  refine⟨(Y,X%Y),eH hv (by rw[if_neg hY0]) rfl,⟨by rw[<-hg];exact hstep hY0,hY,Nat.lt_of_le_of_lt (iS (Nat.le_of_lt hlt)) hY⟩,hlt⟩
 have hY2:nl Y<=2:=aa
 refine cM (aF.kA (nx:=0) hv hk0 ag rfl trivial ?_)
 show aF P c f167.ntmps [qN] _ _
 refine au.hole [1,1,1,0] ag (aF.bJ hT wD hm 60 [13,14,4] Pr ag ?_)
 simp only[af.all,aA,bK,bO,beq_iff_eq,beq_eq_false_iff_ne,ne_eq]
 have rest:∀{x y:Nat} {s':aI},x<2^64->y<2^64->Nat.gcd x y=Nat.gcd A B->bh [13,14,4] s'=some ([.int .u64 (x:Nat),.int .u64 (y:Nat)]++[.tuple []],[])->
   au P c f167.ntmps (part qN [1,1,1,0]) s' (fk (fun s'=>aF P c f167.ntmps (behind qN [1,1,1,0]) s' (fk (fun s'=>aF P c f167.ntmps [] s' (Fin T f167 (.mag (Nat.gcd A B)))) (Fin T f167 (.mag (Nat.gcd A B)))))
    (fk (fun s'=>aF P c f167.ntmps [] s' (Fin T f167 (.mag (Nat.gcd A B)))) (Fin T f167 (.mag (Nat.gcd A B))))):=by
  intro x y s' hx hy hg hv
  have hv:=ku (ls:=[13,14]) (l:=[4]) (vs:=[.int .u64 (x:Nat),.int .u64 (y:Nat)]) hv rfl rfl
  refine au.iR (i:=2) (y:=part qN [1,1,1,0,0,0]) ag [13,14] 0 hk0 (fun p:Nat×Nat=>[.int .u64 (p.1:Nat),.int .u64 (p.2:Nat)]) (fun _=>[]) (fun _=>rfl) (fun _=>trivial)
   (fun p=>Nat.gcd p.1 p.2=Nat.gcd A B/\p.1<2^64/\p.2<2^64) (fun p=>p.2) (x,y) hv ⟨hg,hx,hy⟩ ?_
  rintro⟨x,y⟩ ⟨hg,hx,hy⟩
  simp only at hg hx hy
  refine au.bJ hT wD hm 60 [13,14] ac6 ag ?_
  simp only[af.all,aA,bne_iff_ne,ne_eq,bne_eq_false_iff_eq]
  refine⟨fun hb=>⟨hb,fun s' hv=>?_⟩,fun hb s' hv=>fW ?_⟩
  ·have hy0:y≠0:=aa
   have hlt:=Nat.mod_lt x (show 0<y by omega)
   exact⟨(y,x%y),eH hv (by rw[<-Int.ofNat_tmod]) rfl,⟨by rw[<-hg];exact hstep hy0,hy,by simp only;omega⟩,hlt⟩
  ·have hy0:y=0:=aa
   subst hy0
   refine cM ?_
   refine aF.mono (Q:=Fin T f167 (.mag (Nat.gcd A B))) (fun e s' h=>by cases e<;>exact h) ?_
   refine aF.yN hT wD hm 60 (nx:=0) hv hk0 rfl trivial Qe ag ag ⟨⟨aa,aa⟩,eO ?_⟩
   rw[bE,<-hg,Nat.gcd_zero_right]
 refine⟨fun hb s' hv=>fZ (fZ ?_),fun hb=>⟨fun h1=>⟨⟨hX,hY⟩,⟨aa,?_⟩,fun s' hv=>cM (rest (qm hY2) ?_ ?_ (eH hv rfl rfl))⟩,fun h1=>⟨⟨aa,aa⟩,fun s' hv=>cM (rest (qm aa) (qm hY2) hg (eH hv rfl rfl))⟩⟩⟩
 ·have hY0:Y=0:=by
   rcases Nat.eq_zero_or_pos Y with h1|h1
   ·exact h1
   ·have:=gZ.2 (show Y≠0 by omega);omega
  refine iq (us:=[.mag X]) (.inr rfl) hv ag (eO ?_)
  rw[<-hg,hY0,Nat.gcd_zero_right]
 all_goals
  have hY0:Y≠0:=gZ.1 aa
  have hlt:=Nat.mod_lt X (show 0<Y by omega)
  rw[if_neg hY0]
 ·exact Nat.le_trans (iS (Nat.le_of_lt hlt)) hY2
 ·exact Nat.lt_trans hlt (qm hY2)
 ·rw[<-hg];exact hstep hY0
def Oj (A n B m:Nat):dP:=aM (.mag (Nat.gcd A B)) [n<2^40,m<2^40]
theorem abw:bA P (b7 (jq Oj)) 167:=
 cP (vk fun _ _ _ _ K hz hy need=>Wu hz hy need.1 need.2 K [])
end Go.Am.B
