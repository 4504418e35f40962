/- natural.Gcd. -/
import Derived.Test.YtnniljlepppdpaaGreatB13
set_option linter.unusedVariables false
namespace Go.Am.B
open Go Go.Am.N AV
theorem acu:aR P yd ji (az ji):=aS Proofs.Tryz.func196 ag ag ag
def GG:aX:=(xp,bU (iL KM))::(uZ,FA)::(Eu,bU (mm AR))::(zh,JV)::G1
noncomputable abbrev tH:Code:=part (az ji) [1,1,1]
theorem wV:bq P GG:=aH S0 (aH Kq (aH am1 (aH RX gT)))
theorem ad6 {n m:Nat} {z y:Nat->Nat}:aI T GG [] 60 [5,6] (before (az ji) [1,1,0]) ⟨aP 0 [.ak 1 n (aB z),.ak 1 m (aB y)],[],0⟩=
  let c2:Nat:=val n fun i=>numOf (aB z i);let c1:Nat:=val m fun i=>numOf (aB y i);some (ah.aj [dZ n (aB z),n<2^62,nl c2<2^40,dZ m (aB y),m<2^62,nl c1<2^40] (ah.leaf aq.normal ([mag c2,mag c1],[]))):=ag
theorem al3 {X Y:Nat}:aI T GG [23] 60 [5,6] [part (az ji) [1,1,0,0,0]] ⟨aE [5,6] [.mag X,.mag Y],[],0⟩=
  some (ah.fork (decide ((↑(nl Y):Int)>(2:Int))) (ah.aj [nl X<2^40,nl Y<2^40] (ah.leaf aq.normal ([mag Y,mag (if Y=0 then 0 else X%Y)],[]))) (ah.leaf (aq.exit 0) ([mag X,mag Y],[]))):=ag
theorem adb {X Y:Nat}:aI T GG [35,39] 60 [13,14,4] (before tH [1,1,1,0]) ⟨aE [5,6] [.mag X,.mag Y],[],0⟩=
  let c2:AV:=int IntKind.u64 (↑Y:Int);let c1:Nat:=if Y=0 then 0 else X%Y;some (ah.fork ((↑(nl Y):Int)==(0:Int)) (ah.leaf aq.ret ([tuple [],tuple [],mag X],[])) (ah.fork (decide ((↑(nl X):Int)>(2:Int))) (ah.aj [nl X<2^40,nl Y<2^40] (ah.aj [nl Y<=2,nl c1<=2] (ah.leaf aq.normal ([c2,int IntKind.u64 (↑c1:Int),tuple []],[])))) (ah.aj [nl X<=2,nl Y<=2] (ah.leaf aq.normal ([int IntKind.u64 (↑X:Int),c2,tuple []],[]))))):=ag
theorem Yp {x y:Nat}:aI T GG [54] 60 [13,14] [part tH [1,1,1,0,0,0]] ⟨aE [13,14] [.int .u64 x,.int .u64 y],[],0⟩=
  let c1 : Int := (↑y : Int); some (ah.fork (c1 != (0 : Int)) (ah.aj [c1 ≠ (0 : Int)] (ah.leaf aq.normal ([int IntKind.u64 c1, int IntKind.u64 ((↑x : Int).tmod c1)], []))) (ah.leaf (aq.exit 2) ([int IntKind.u64 (↑x : Int), int IntKind.u64 c1], []))) := ag
theorem ZO {x y:Nat}:cJ T GG [] 60 ji (behind tH [1,1,1,0]) ⟨aE [13,14] [.int .u64 x,.int .u64 y],[],0⟩=
  some (ah.aj [(0:Int)<=(↑x:Int)/\(↑x:Int)<(2:Int)^64] (ah.leaf aq.ret [mag (↑x:Int).toNat])):=ag
theorem qF {Y:Nat} (h:nl Y<=2):Y<2^64:=dB.1 h
theorem alh {n m:Nat} {z y:Nat->Nat} (hz:∀i,i<n->z i<2^32) (hy:∀i,i<m->y i<2^32) (hn:n<2^40) (hm':m<2^40) (K:Nat) (pre:aF):
  aD P yd K [.ak 1 n (aB z),.ak 1 m (aB y)] pre (aK (.mag (Nat.gcd (val n z) (val m y))) []):=by
 refine kB hT acu rfl aW rfl (fun _ c h0=>?_) K pre
 have hk0:∀{nx:Nat} k x,c.k0 k=some x->k<nx:=kD h0
 have hA:nl (val n z)<=n:=dB.2 (gh hz)
 have hB:nl (val m y)<=m:=dB.2 (gh hy)
 refine ay.hole [1,1,0] ag (aG.bB hT wV hm 60 [5,6] ad6 ag ?_)
 simp only[ah.all,aA,j6]
 generalize val n z=A at*
 generalize val m y=B at*
 refine⟨⟨gE hz,aa,aa,gE hy,aa,aa⟩,fun s' hv=>cF ?_⟩
 refine ay.iC (i:=0) (y:=part (az ji) [1,1,0,0,0]) ag [5,6] 0 hk0 (fun p:Nat×Nat=>[.mag p.1,.mag p.2]) (fun _=>[]) (fun _=>rfl) (fun _=>trivial)
  (fun p=>Nat.gcd p.1 p.2=Nat.gcd A B/\nl p.1<2^40/\nl p.2<2^40) (fun p=>p.2) (A,B) hv ⟨rfl,by simp only;omega,by simp only;omega⟩ ?_
 rintro⟨X,Y⟩ ⟨hg,hX,hY⟩
 simp only at hg hX hY
 refine ay.bB hT wV hm 60 [5,6] al3 ag ?_
 simp only[ah.all,aA,bh,bz]
 have hstep:∀{X Y:Nat},Y≠0->Nat.gcd Y (X%Y)=Nat.gcd X Y:=fun {X Y} _=>by rw[Nat.gcd_comm X Y,Nat.gcd_rec Y X,Nat.gcd_comm]
 refine⟨fun hb=>⟨⟨hX,hY⟩,fun s' hv=>?_⟩,fun hb s' hv=>fN ?_⟩
 ·have hY0:Y≠0:=gG.1 aa
  have hlt:=Nat.mod_lt X (show 0<Y by omega)
  refine⟨(Y,X%Y),dP hv (by rw[if_neg hY0]) rfl,⟨by rw[<-hg];exact hstep hY0,hY,Nat.lt_of_le_of_lt (iA (Nat.le_of_lt hlt)) hY⟩,hlt⟩
 have hY2:nl Y<=2:=aa
 refine cF (aG.kM (nx:=0) hv hk0 ag rfl trivial ?_)
 show aG P c ji.ntmps [tH] _ _
 refine ay.hole [1,1,1,0] ag (aG.bB hT wV hm 60 [13,14,4] adb ag ?_)
 simp only[ah.all,aA,bh,bz,beq_iff_eq,beq_eq_false_iff_ne,ne_eq]
 have rest:∀{x y:Nat} {s':aJ},x<2^64->y<2^64->Nat.gcd x y=Nat.gcd A B->bw [13,14,4] s'=some ([.int .u64 (x:Nat),.int .u64 (y:Nat)]++[.tuple []],[])->
   ay P c ji.ntmps (part tH [1,1,1,0]) s' (dU (fun s'=>aG P c ji.ntmps (behind tH [1,1,1,0]) s' (dU (fun s'=>aG P c ji.ntmps [] s' (Fin T ji (.mag (Nat.gcd A B)))) (Fin T ji (.mag (Nat.gcd A B)))))
    (dU (fun s'=>aG P c ji.ntmps [] s' (Fin T ji (.mag (Nat.gcd A B)))) (Fin T ji (.mag (Nat.gcd A B))))):=by
  intro x y s' hx hy hg hv
  have hv:=iY (ls:=[13,14]) (l:=[4]) (vs:=[.int .u64 (x:Nat),.int .u64 (y:Nat)]) hv rfl rfl
  refine ay.iC (i:=2) (y:=part tH [1,1,1,0,0,0]) ag [13,14] 0 hk0 (fun p:Nat×Nat=>[.int .u64 (p.1:Nat),.int .u64 (p.2:Nat)]) (fun _=>[]) (fun _=>rfl) (fun _=>trivial)
   (fun p=>Nat.gcd p.1 p.2=Nat.gcd A B/\p.1<2^64/\p.2<2^64) (fun p=>p.2) (x,y) hv ⟨hg,hx,hy⟩ ?_
  rintro⟨x,y⟩ ⟨hg,hx,hy⟩
  simp only at hg hx hy
  refine ay.bB hT wV hm 60 [13,14] Yp ag ?_
  simp only[ah.all,aA,bne_iff_ne,ne_eq,bne_eq_false_iff_eq]
  refine⟨fun hb=>⟨hb,fun s' hv=>?_⟩,fun hb s' hv=>fN ?_⟩
  ·have hy0:y≠0:=aa
   have hlt:=Nat.mod_lt x (show 0<y by omega)
   exact⟨(y,x%y),dP hv (by rw[<-Int.ofNat_tmod]) rfl,⟨by rw[<-hg];exact hstep hy0,hy,by simp only;omega⟩,hlt⟩
  ·have hy0:y=0:=aa
   subst hy0
   refine cF ?_
   refine aG.mono (Q:=Fin T ji (.mag (Nat.gcd A B))) (fun e s' h=>by cases e<;>exact h) ?_
   refine aG.DF hT wV hm 60 (nx:=0) hv hk0 rfl trivial ZO ag ag ⟨⟨aa,aa⟩,dL ?_⟩
   rw[aZ,<-hg,Nat.gcd_zero_right]
 refine⟨fun hb s' hv=>fO (fO ?_),fun hb=>⟨fun h1=>⟨⟨hX,hY⟩,⟨aa,?_⟩,fun s' hv=>cF (rest (qF hY2) ?_ ?_ (dP hv rfl rfl))⟩,fun h1=>⟨⟨aa,aa⟩,fun s' hv=>cF (rest (qF aa) (qF hY2) hg (dP hv rfl rfl))⟩⟩⟩
 ·have hY0:Y=0:=by
   rcases Nat.eq_zero_or_pos Y with h1|h1
   ·exact h1
   ·have:=gG.2 (show Y≠0 by omega);omega
  refine gM (us:=[.mag X]) (.inr rfl) hv ag (dL ?_)
  rw[<-hg,hY0,Nat.gcd_zero_right]
 all_goals
  have hY0:Y≠0:=gG.1 aa
  have hlt:=Nat.mod_lt X (show 0<Y by omega)
  rw[if_neg hY0]
 ·exact Nat.le_trans (iA (Nat.le_of_lt hlt)) hY2
 ·exact Nat.lt_trans hlt (qF hY2)
 ·rw[<-hg];exact hstep hY0
def IG (A n B m:Nat):dw:=aK (.mag (Nat.gcd A B)) [n<2^40,m<2^40]
theorem Ty:∀K args pre r,bU (iL IG) K args pre=some r->aD P yd K args pre r:=
 cB (uJ fun _ _ _ _ K hz hy need=>alh hz hy need.1 need.2 K [])
end Go.Am.B
