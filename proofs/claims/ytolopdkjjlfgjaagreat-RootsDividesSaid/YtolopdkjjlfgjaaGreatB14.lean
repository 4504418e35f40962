/- natural.Gcd. -/
import Derived.Test.YtolopdkjjlfgjaaGreatB13
set_option linter.unusedVariables false
namespace Go.Am.B
open Go Go.Am.N AV Proofs.Tryz
theorem Th:aX 167 f167:=aZ func167
def GG:bh:=(168,bU (iJ De))::(181,zC)::(182,bU (lN yz))::(170,EZ)::G1
noncomputable abbrev qg:Code:=part (aH f167) [1,1,1]
theorem uy:bI P GG:=aL Kv (aL EE (aL Rn (aL HG gL)))
theorem ZB {n m:Nat} {z y:Nat->Nat}:aG T GG [] 60 [5,6] (before (aH f167) [1,1,0]) ⟨aT 0 [.ak 1 n (aB z),.ak 1 m (aB y)],[],0⟩=
  let c2:Nat:=val n fun i=>numOf (aB z i);let c1:Nat:=val m fun i=>numOf (aB y i);some (af.aj [ej n (aB z),n<2^62,nl c2<2^40,ej m (aB y),m<2^62,nl c1<2^40] (af.leaf aq.normal ([mag c2,mag c1],[]))):=ah
theorem SO {X Y:Nat}:aG T GG [23] 60 [5,6] [part (aH f167) [1,1,0,0,0]] ⟨aC [5,6] [.mag X,.mag Y],[],0⟩=
  some (af.fork (decide ((↑(nl Y):Int)>2)) (af.aj [nl X<2^40,nl Y<2^40] (af.leaf aq.normal ([mag Y,mag (if Y=0 then 0 else X%Y)],[]))) (af.leaf (aq.exit 0) ([mag X,mag Y],[]))):=ah
theorem ab8 {X Y:Nat}:aG T GG [35,39] 60 [13,14,4] (before qg [1,1,1,0]) ⟨aC [5,6] [.mag X,.mag Y],[],0⟩=
  let c2:AV:=int .u64 (↑Y:Int);let c1:Nat:=if Y=0 then 0 else X%Y;some (af.fork ((↑(nl Y):Int)==0) (af.leaf aq.ret ([tuple [],tuple [],mag X],[])) (af.fork (decide ((↑(nl X):Int)>2)) (af.aj [nl X<2^40,nl Y<2^40] (af.aj [nl Y<=2,nl c1<=2] (af.leaf aq.normal ([c2,int .u64 (↑c1:Int),tuple []],[])))) (af.aj [nl X<=2,nl Y<=2] (af.leaf aq.normal ([int .u64 (↑X:Int),c2,tuple []],[]))))):=ah
theorem Ri {x y:Nat}:aG T GG [54] 60 [13,14] [part qg [1,1,1,0,0,0]] ⟨aC [13,14] [.int .u64 x,.int .u64 y],[],0⟩=
  let c1:Int:=(↑y:Int);some (af.fork (c1 !=(0:Int)) (af.aj [c1≠(0:Int)] (af.leaf aq.normal ([int .u64 c1,int .u64 ((↑x:Int).tmod c1)],[]))) (af.leaf (aq.exit 2) ([int .u64 (↑x:Int),int .u64 c1],[]))):=ah
theorem Pv {x y:Nat}:cA T GG [] 60 f167 (behind qg [1,1,1,0]) ⟨aC [13,14] [.int .u64 x,.int .u64 y],[],0⟩=
  some (af.aj [(0:Int)<=(↑x:Int)/\(↑x:Int)<2^64] (af.leaf aq.ret [mag (↑x:Int).toNat])):=ah
theorem o9 {Y:Nat} (h:nl Y<=2):Y<2^64:=dJ.1 h
theorem Zf {n m:Nat} {z y:Nat->Nat} (hz:∀i,i<n->z i<2^32) (hy:∀i,i<m->y i<2^32) (hn:n<2^40) (hm':m<2^40) (K:Nat) (pre:aE):
  aP P 167 K [.ak 1 n (aB z),.ak 1 m (aB y)] pre (aK (.mag (Nat.gcd (val n z) (val m y))) []):=by
 refine jC hT Th rfl aW rfl (fun _ c h0=>?_) K pre
 have hk0:∀{nx:Nat} k x,c.k0 k=some x->k<nx:=jA h0
 have hA:nl (val n z)<=n:=dJ.2 (fV hz)
 have hB:nl (val m y)<=m:=dJ.2 (fV hy)
 refine au.hole [1,1,0] ah (aF.bD hT uy hm 60 [5,6] ZB ah ?_)
 simp only[af.all,aA,jz]
 generalize val n z=A at*
 generalize val m y=B at*
 refine⟨⟨gy hz,aa,aa,gy hy,aa,aa⟩,fun s' hv=>cE ?_⟩
 refine au.g8 (i:=0) (y:=part (aH f167) [1,1,0,0,0]) ah [5,6] 0 hk0 (fun p:Nat×Nat=>[.mag p.1,.mag p.2]) (fun _=>[]) (fun _=>rfl) (fun _=>trivial)
  (fun p=>Nat.gcd p.1 p.2=Nat.gcd A B/\nl p.1<2^40/\nl p.2<2^40) (fun p=>p.2) (A,B) hv ⟨rfl,by simp only;omega,by simp only;omega⟩ ?_
 rintro⟨X,Y⟩ ⟨hg,hX,hY⟩
 simp only at hg hX hY
 refine au.bD hT uy hm 60 [5,6] SO ah ?_
 simp only[af.all,aA,bw,bB]
 have hstep:∀{X Y:Nat},Y≠0->Nat.gcd Y (X%Y)=Nat.gcd X Y:=fun {X Y} _=>by rw[Nat.gcd_comm X Y,Nat.gcd_rec Y X,Nat.gcd_comm]
 refine⟨fun hb=>⟨⟨hX,hY⟩,fun s' hv=>?_⟩,fun hb s' hv=>fz ?_⟩
 ·have hY0:Y≠0:=gC.1 aa
  have hlt:=Nat.mod_lt X (show 0<Y by omega)
  refine⟨(Y,X%Y),dY hv (by rw[if_neg hY0]) rfl,⟨by rw[<-hg];exact hstep hY0,hY,Nat.lt_of_le_of_lt (gW (Nat.le_of_lt hlt)) hY⟩,hlt⟩
 have hY2:nl Y<=2:=aa
 refine cE (aF.jK (nx:=0) hv hk0 ah rfl trivial ?_)
 show aF P c f167.ntmps [qg] _ _
 refine au.hole [1,1,1,0] ah (aF.bD hT uy hm 60 [13,14,4] ab8 ah ?_)
 simp only[af.all,aA,bw,bB,beq_iff_eq,beq_eq_false_iff_ne,ne_eq]
 have rest:∀{x y:Nat} {s':aJ},x<2^64->y<2^64->Nat.gcd x y=Nat.gcd A B->bk [13,14,4] s'=some ([.int .u64 (x:Nat),.int .u64 (y:Nat)]++[.tuple []],[])->
   au P c f167.ntmps (part qg [1,1,1,0]) s' (eG (fun s'=>aF P c f167.ntmps (behind qg [1,1,1,0]) s' (eG (fun s'=>aF P c f167.ntmps [] s' (Fin T f167 (.mag (Nat.gcd A B)))) (Fin T f167 (.mag (Nat.gcd A B)))))
    (eG (fun s'=>aF P c f167.ntmps [] s' (Fin T f167 (.mag (Nat.gcd A B)))) (Fin T f167 (.mag (Nat.gcd A B))))):=by
  intro x y s' hx hy hg hv
  have hv:=jB (ls:=[13,14]) (l:=[4]) (vs:=[.int .u64 (x:Nat),.int .u64 (y:Nat)]) hv rfl rfl
  refine au.g8 (i:=2) (y:=part qg [1,1,1,0,0,0]) ah [13,14] 0 hk0 (fun p:Nat×Nat=>[.int .u64 (p.1:Nat),.int .u64 (p.2:Nat)]) (fun _=>[]) (fun _=>rfl) (fun _=>trivial)
   (fun p=>Nat.gcd p.1 p.2=Nat.gcd A B/\p.1<2^64/\p.2<2^64) (fun p=>p.2) (x,y) hv ⟨hg,hx,hy⟩ ?_
  rintro⟨x,y⟩ ⟨hg,hx,hy⟩
  simp only at hg hx hy
  refine au.bD hT uy hm 60 [13,14] Ri ah ?_
  simp only[af.all,aA,bne_iff_ne,ne_eq,bne_eq_false_iff_eq]
  refine⟨fun hb=>⟨hb,fun s' hv=>?_⟩,fun hb s' hv=>fz ?_⟩
  ·have hy0:y≠0:=aa
   have hlt:=Nat.mod_lt x (show 0<y by omega)
   exact⟨(y,x%y),dY hv (by rw[<-Int.ofNat_tmod]) rfl,⟨by rw[<-hg];exact hstep hy0,hy,by simp only;omega⟩,hlt⟩
  ·have hy0:y=0:=aa
   subst hy0
   refine cE ?_
   refine aF.mono (Q:=Fin T f167 (.mag (Nat.gcd A B))) (fun e s' h=>by cases e<;>exact h) ?_
   refine aF.x7 hT uy hm 60 (nx:=0) hv hk0 rfl trivial Pv ah ah ⟨⟨aa,aa⟩,ef ?_⟩
   rw[bu,<-hg,Nat.gcd_zero_right]
 refine⟨fun hb s' hv=>fC (fC ?_),fun hb=>⟨fun h1=>⟨⟨hX,hY⟩,⟨aa,?_⟩,fun s' hv=>cE (rest (o9 hY2) ?_ ?_ (dY hv rfl rfl))⟩,fun h1=>⟨⟨aa,aa⟩,fun s' hv=>cE (rest (o9 aa) (o9 hY2) hg (dY hv rfl rfl))⟩⟩⟩
 ·have hY0:Y=0:=by
   rcases Nat.eq_zero_or_pos Y with h1|h1
   ·exact h1
   ·have:=gC.2 (show Y≠0 by omega);omega
  refine gF (us:=[.mag X]) (.inr rfl) hv ah (ef ?_)
  rw[<-hg,hY0,Nat.gcd_zero_right]
 all_goals
  have hY0:Y≠0:=gC.1 aa
  have hlt:=Nat.mod_lt X (show 0<Y by omega)
  rw[if_neg hY0]
 ·exact Nat.le_trans (gW (Nat.le_of_lt hlt)) hY2
 ·exact Nat.lt_trans hlt (o9 hY2)
 ·rw[<-hg];exact hstep hY0
def Ij (A n B m:Nat):dD:=aK (.mag (Nat.gcd A B)) [n<2^40,m<2^40]
theorem TL:bf P (bU (iJ Ij)) 167:=
 cJ (sn fun _ _ _ _ K hz hy need=>Zf hz hy need.1 need.2 K [])
end Go.Am.B
