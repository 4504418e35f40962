/- aV for numbers of known size: the numbers. -/
import Derived.Test.YtgfjdngnneoeoaaGreatB34
import Derived.Test.YtgfjdngnneoeoaaGreatZ2
import Derived.Test.YtgfjdngnneoeoaaGreatB37
import Init
import Derived.Test.YtgfjdngnneoeoaaGreatB33
set_option linter.unusedVariables false
noncomputable section
namespace Go.Am.B
open Go Go.Am.N AV Proofs.Tryz
structure Kd (α:Type) where
 read:AV->Option α
 make:α->AV
 ok:∀{v:AV} {a:α},read v=some a->bp v (make a)
def A1:AV->Option (V3×Nat)
 |.agg [x,y,z]=>match iD x,iD y,iD z with
  |some (x,a),some (y,b),some (z,c)=>some (⟨x,y,z⟩,max a (max b c))
  |_,_,_=>none
 |_=>none
theorem ah7 {v:AV} {a:V3×Nat} (h:A1 v=some a):bp v (vA a.1 a.2):=by
 unfold A1 at h
 split at h
 ·split at h
  ·rename_i h1 h2 h3
   simp only[ax]at h
   subst h
   exact cj ⟨(jf h1).trans (bC rfl (by simp only;omega)),(jf h2).trans (bC rfl (by simp only;omega)),(jf h3).trans (bC rfl (by simp only;omega)),trivial⟩
  ·simp at h
 ·simp at h
def dR:Kd (Rat×Nat):=⟨iD,fun a=>rA a.1 a.2,jf⟩
def dV:Kd (V3×Nat):=⟨A1,fun a=>vA a.1 a.2,ah7⟩
section specs
variable {α β γ δ:Type} {f:FuncId}
def zJ (k:Kd α) (g:α->AV) (B:α->Bool):Spec:=bX fun l=>match l with
 |[x]=>match k.read x with
  |some a=>match B a with
   |true=>some (aH (g a) [])
   |false=>none
  |_=>none
 |_=>none
theorem Ea {k:Kd α} {g:α->AV} {B:α->Bool} (h:∀a K,B a=true->aN P f K [k.make a] [] (aH (g a) [])):bf P (zJ k g B) f:=by
 refine cM fun K args r hk hs _=>?_
 split at hs
 ·split at hs
  ·rename_i h1
   split at hs
   ·rename_i hB
    simp only[ax]at hs
    subst hs
    exact eR (h _ K hB) hk ⟨k.ok h1,trivial⟩ []
   ·simp at hs
  ·simp at hs
 ·simp at hs
def gj (k:Kd α) (k2:Kd β) (g:α->β->AV) (B:α->β->Bool):Spec:=bX fun l=>match l with
 |[x,y]=>match k.read x,k2.read y with
  |some a,some b=>match B a b with
   |true=>some (aH (g a b) [])
   |false=>none
  |_,_=>none
 |_=>none
theorem gA {k:Kd α} {k2:Kd β} {g:α->β->AV} {B:α->β->Bool} (h:∀a b K,B a b=true->aN P f K [k.make a,k2.make b] [] (aH (g a b) [])):bf P (gj k k2 g B) f:=by
 refine cM fun K args r hk hs _=>?_
 split at hs
 ·split at hs
  ·rename_i h1 h2
   split at hs
   ·rename_i hB
    simp only[ax]at hs
    subst hs
    exact eR (h _ _ K hB) hk ⟨k.ok h1,k2.ok h2,trivial⟩ []
   ·simp at hs
  ·simp at hs
 ·simp at hs
def HW (k:Kd α) (k2:Kd β) (k3:Kd γ) (g:α->β->γ->AV) (B:α->β->γ->Bool):Spec:=bX fun l=>match l with
 |[x,y,z]=>match k.read x,k2.read y,k3.read z with
  |some a,some b,some c=>match B a b c with
   |true=>some (aH (g a b c) [])
   |false=>none
  |_,_,_=>none
 |_=>none
theorem ada {k:Kd α} {k2:Kd β} {k3:Kd γ} {g:α->β->γ->AV} {B:α->β->γ->Bool} (h:∀a b c K,B a b c=true->aN P f K [k.make a,k2.make b,k3.make c] [] (aH (g a b c) [])):bf P (HW k k2 k3 g B) f:=by
 refine cM fun K args r hk hs _=>?_
 split at hs
 ·split at hs
  ·rename_i h1 h2 h3
   split at hs
   ·rename_i hB
    simp only[ax]at hs
    subst hs
    exact eR (h _ _ _ K hB) hk ⟨k.ok h1,k2.ok h2,k3.ok h3,trivial⟩ []
   ·simp at hs
  ·simp at hs
 ·simp at hs
end specs
def b1 {α:Type} (e:Nat) (a:α×Nat):Bool:=Nat.blt a.2 (2^e)
def b2 {α β:Type} (e:Nat) (a:α×Nat) (b:β×Nat):Bool:=Nat.blt a.2 (2^e)&&Nat.blt b.2 (2^e)
def b3 {α β γ:Type} (e:Nat) (a:α×Nat) (b:β×Nat) (c:γ×Nat):Bool:=Nat.blt a.2 (2^e)&&(Nat.blt b.2 (2^e)&&Nat.blt c.2 (2^e))
theorem CO {a b:Nat}:Nat.blt a b=true↔a<b:=by rw[Nat.blt_eq]
theorem HD {α:Type} {e:Nat} {a:α×Nat} (h:b1 e a=true):a.2<2^e:=CO.1 h
theorem ek {α β:Type} {e:Nat} {a:α×Nat} {b:β×Nat} (h:b2 e a b=true):a.2<2^e/\b.2<2^e:=by
 simp only[b2,Bool.and_eq_true,CO]at h;exact h
theorem Wf {α β γ:Type} {e:Nat} {a:α×Nat} {b:β×Nat} {c:γ×Nat} (h:b3 e a b c=true):a.2<2^e/\b.2<2^e/\c.2<2^e:=by
 simp only[b3,Bool.and_eq_true,CO]at h;exact h
def tC:Spec:=bX fun l=>match l with
 |[.int .i64 n]=>match decide (-2^63<=n/\n<2^63)with
  |true=>some (aH (.rat (n:Rat) (max 1 (bN n.natAbs))) [])
  |false=>none
 |_=>none
abbrev zV:FuncId×Spec:=(34,tC)
abbrev ET:FuncId×Spec:=(78,gj dR dR OY (b2 42))
abbrev Dg:FuncId×Spec:=(77,gj dR dR adk (b2 42))
def gy:aV:=[(91,gj dR dR pT (b2 42)),(38,gj dR dR zo (b2 42)),(92,gj dR dR Aw (b2 42)),(35,gj dR dR wO (b2 42)),(79,gj dR dR yp (b2 42)),(84,zJ dR ye (b1 42)),zV,(37,gj dR dR rq (b2 42)),ET,Dg]
def jU:aV:=[(69,gj dR dR pT (b2 41)),(68,gj dR dR zo (b2 41)),(57,gj dR dR Aw (b2 41)),(47,gj dR dR wO (b2 41)),(96,gj dR dR yp (b2 41)),(143,zJ dR ye (b1 41)),(20,tC)]
theorem v8 {n:Nat} (h:n<2^42):n<2^44:=Nat.lt_trans h aa
theorem Jz {n:Nat} (h:n<2^41):n<2^44:=Nat.lt_trans h aa
theorem y8 {f:FuncId} (h:∀{n:Int},-2^63<=n->n<2^63->∀K,aN P f K [.int .i64 n] [] (aH (.rat (n:Rat) (max 1 (bN n.natAbs))) [])):bf P tC f:=by
 refine cM fun K args r hk hs _=>?_
 split at hs
 ·split at hs
  ·rename_i hc
   simp only[ax]at hs
   subst hs
   have:=of_decide_eq_true hc
   exact h this.1 this.2 K
  ·simp at hs
 ·simp at hs
theorem H6:bf P zV.2 zV.1:=y8 Nk
theorem VK:bf P ET.2 ET.1:=gA fun _ _ K hn=>JL (ek hn).1 (ek hn).2 K
theorem Tx:bf P Dg.2 Dg.1:=gA fun _ _ K hn=>E6 (ek hn).1 (ek hn).2 K
theorem gH:bg P gy:=aE (gA fun _ _ K hn=>MM (ek hn).1 (ek hn).2 K) (aE (gA fun _ _ K hn=>ME (ek hn).1 (ek hn).2 K) (aE (gA fun _ _ K hn=>ID (ek hn).1 (ek hn).2 K)
 (aE (gA fun _ _ K hn=>C1 (v8 (ek hn).1) (v8 (ek hn).2) K []) (aE (gA fun _ _ K hn=>CM (ek hn).1 (ek hn).2 K []) (aE (Ea fun _ K hn=>Br (v8 (HD hn)) K []) (aE H6
 (aE (gA fun _ _ K hn=>uG (ek hn).1 (ek hn).2 K) (aE VK (aE Tx bD)))))))))
theorem j8:bg P jU:=aE (gA fun _ _ K hn=>BK (ek hn).1 (ek hn).2 K) (aE (gA fun _ _ K hn=>JU (ek hn).1 (ek hn).2 K) (aE (gA fun _ _ K hn=>NW (ek hn).1 (ek hn).2 K)
 (aE (gA fun _ _ K hn=>HP (Jz (ek hn).1) (Jz (ek hn).2) K []) (aE (gA fun _ _ K hn=>Kl (ek hn).1 (ek hn).2 K) (aE (Ea fun _ K _=>Bs K []) (aE (y8 Ay) bD))))))
end Go.Am.B
namespace Go.Am.B
open Go Go.Am.N AV Proofs.Tryz
def Ik:aV:=sG::(13,gj dV dV qe (b2 38))::(27,gj dV dV qN (b2 38))::(26,gj dV dV pB (b2 38))::(19,gj dR dV I8 (b2 38))::(98,gj dV dV uv (b2 38))::(141,gj dV dV sj (b2 38))::jU
theorem PB:bg P Ik:=cB<|aE (gA fun a b K hn=>MJ a b K (ek hn)) (aE (gA fun a b K hn=>Zw a b K (ek hn)) (aE (gA fun a b K hn=>acf a b K (ek hn)) (aE (gA fun a b K hn=>R4 a b K (ek hn)) (aE (gA fun a b K hn=>abI a b K (ek hn)) (aE (gA fun a b K hn=>acn a b K (ek hn)) j8)))))
theorem DC (x:Rat):0<=x*x:=by
 rcases Rat.le_total (a:=0) (b:=x)with h|h
 ·exact Rat.mul_nonneg h h
 ·have:=Rat.mul_nonneg (a:=-x) (b:=-x) (by grind) (by grind)
  grind
theorem ahl {u:V3} (h:dot u u=0):u.x=0/\u.y=0/\u.z=0:=by
 have h1:=DC u.x
 have h2:=DC u.y
 have h3:=DC u.z
 unfold dot at h
 have a1:u.x*u.x=0:=by grind
 have a2:u.y*u.y=0:=by grind
 have a3:u.z*u.z=0:=by grind
 simp only[Rat.mul_eq_zero,or_self]at a1 a2 a3
 exact⟨a1,a2,a3⟩
open Go Go.Am.N AV ag aq IntKind Proofs.Tryz
theorem oY {w:Rat} (hw:0<w) {a b:Rat}:a*w<b*w↔a<b:=
 ⟨fun h=>Rat.not_le.1 fun g=>absurd (Rat.mul_le_mul_of_nonneg_right g (Rat.le_of_lt hw)) (Rat.not_le.2 h),fun h=>Rat.mul_lt_mul_of_pos_right h hw⟩
def fo (s t:Rat):Rat×Rat:=(cq (cr s t) 0,cr (cq s t) 1)
def cI (s t r:Rat):Rat:=(r-s)/(t-s)
theorem sA {s t r:Rat} (h:t≠s):s+cI s t r*(t-s)=r:=by
 unfold cI
 rw[Rat.div_mul_cancel (by grind)];grind
theorem Bf {f:Rat->Rat} (h:∀a b,f a<f b↔a<b) (a b:Rat):f (cq a b)=cq (f a) (f b)/\f (cr a b)=cr (f a) (f b):=by
 have h1:=h a b
 have h2:=h b a
 unfold cq cr
 grind
theorem NL {f:Rat->Rat} (h:∀a b,f a<f b↔b<a) (a b:Rat):f (cq a b)=cr (f a) (f b)/\f (cr a b)=cq (f a) (f b):=by
 have h1:=h a b
 have h2:=h b a
 have h3:f a=f b\/f a<f b\/f b<f a:=by grind
 unfold cq cr
 grind
theorem P8 {s t:Rat} (h:t≠s):cI s t s=0/\cI s t t=1:=by
 unfold cI
 exact⟨by rw[show s-s=0 by grind,Rat.div_def,Rat.zero_mul],by rw[Rat.div_def,Rat.mul_inv_cancel _ (by grind)]⟩
theorem Y5 {s t:Rat} (h:s<t) (a b:Rat):cI s t a<cI s t b↔a<b:=by
 have h1:=sA (r:=a) (show t≠s by grind)
 have h2:=sA (r:=b) (show t≠s by grind)
 have h3:=oY (show 0<t-s by grind) (a:=cI s t a) (b:=cI s t b)
 grind
theorem Q4 {s t:Rat} (h:t<s) (a b:Rat):cI s t a<cI s t b↔b<a:=by
 have h1:=sA (r:=a) (show t≠s by grind)
 have h2:=sA (r:=b) (show t≠s by grind)
 have h3:=oY (show 0<s-t by grind) (a:=cI s t a) (b:=cI s t b)
 grind
theorem IN {s t:Rat} (h:t≠s):cr (cI s t (fo s t).1) (cI s t (fo s t).2)=cr (fo (cI s t 0) (cI s t 1)).1 (fo (cI s t 0) (cI s t 1)).2/\cq (cI s t (fo s t).1) (cI s t (fo s t).2)=cq (fo (cI s t 0) (cI s t 1)).1 (fo (cI s t 0) (cI s t 1)).2/\((fo s t).1<(fo s t).2↔(fo (cI s t 0) (cI s t 1)).1<(fo (cI s t 0) (cI s t 1)).2):=by
 obtain⟨e0,e1⟩:=P8 h
 rcases(show s<t\/t<s by grind)with g|g
 ·have m:=Y5 g
  have m0:=m 0 1
  have x1:(fo s t).1=cq s 0:=by show cq (cr s t) 0=_;rw[show cr s t=s by unfold cr;grind]
  have x2:(fo s t).2=cr t 1:=by show cr (cq s t) 1=_;rw[show cq s t=t by unfold cq;grind]
  have y1:(fo (cI s t 0) (cI s t 1)).1=cI s t (fo s t).1:=by
   rw[x1,(Bf m _ _).1,e0]
   show cq (cr _ _) 0=_
   unfold cq cr;grind
  have y2:(fo (cI s t 0) (cI s t 1)).2=cI s t (fo s t).2:=by
   rw[x2,(Bf m _ _).2,e1]
   show cr (cq _ _) 1=_
   unfold cq cr;grind
  rw[y1,y2]
  exact⟨rfl,rfl,(m _ _).symm⟩
 ·have m:=Q4 g
  have m0:=m 1 0
  have x1:(fo s t).1=cq t 0:=by show cq (cr s t) 0=_;rw[show cr s t=t by unfold cr;grind]
  have x2:(fo s t).2=cr s 1:=by show cr (cq s t) 1=_;rw[show cq s t=s by unfold cq;grind]
  have y1:(fo (cI s t 0) (cI s t 1)).1=cI s t (fo s t).2:=by
   rw[x2,(NL m _ _).2,e0]
   show cq (cr _ _) 0=_
   unfold cq cr;grind
  have y2:(fo (cI s t 0) (cI s t 1)).2=cI s t (fo s t).1:=by
   rw[x1,(NL m _ _).1,e1]
   show cr (cq _ _) 1=_
   unfold cq cr;grind
  rw[y1,y2]
  exact⟨by unfold cr;grind,by unfold cq;grind,(m _ _).symm⟩
def fY (a b p:V3):Rat:=dot (bV p a) (bV b a)/dot (bV b a) (bV b a)
def iO (a b p:V3):Bool:=dY (wI (bV b a) (bV p a)) v0
theorem lN {u v:V3} (hx:u.x=v.x) (hy:u.y=v.y) (hz:u.z=v.z):u=v:=by
 cases u;cases v;simp only at hx hy hz;subst hx hy hz;rfl
theorem zC {a b:V3} (h:a≠b):dot (bV b a) (bV b a)≠0:=fun h0=>by
 obtain⟨h1,h2,h3⟩:=ahl h0
 refine h (lN ?_ ?_ ?_)
 ·have h1:b.x-a.x=0:=h1;grind
 ·have h2:b.y-a.y=0:=h2;grind
 ·have h3:b.z-a.z=0:=h3;grind
theorem AB {a b p:V3} (h:a≠b) (ho:iO a b p=true):p=iU a (fZ (fY a b p) (bV b a)):=by
 have hn:=zC h
 have hc:=lX.1 ho
 have e:fY a b p*dot (bV b a) (bV b a)=dot (bV p a) (bV b a):=by unfold fY;rw[Rat.div_mul_cancel hn]
 have c1:(bV b a).y*(bV p a).z-(bV b a).z*(bV p a).y=0:=congrArg V3.x hc
 have c2:(bV b a).z*(bV p a).x-(bV b a).x*(bV p a).z=0:=congrArg V3.y hc
 have c3:(bV b a).x*(bV p a).y-(bV b a).y*(bV p a).x=0:=congrArg V3.z hc
 have key:∀{x y:Rat},x*dot (bV b a) (bV b a)=y*dot (bV b a) (bV b a)->x=y:=fun {x y} h=>by
  have:(x-y)*dot (bV b a) (bV b a)=0:=by grind
  rcases Rat.mul_eq_zero.1 this with g|g
  ·grind
  ·exact absurd g hn
 have e':=e
 unfold dot at e'
 refine lN ?_ ?_ ?_
 ·show p.x=a.x+fY a b p*(bV b a).x
  have:(bV p a).x=fY a b p*(bV b a).x:=key (by rw[Rat.mul_assoc,Rat.mul_comm (bV b a).x,<-Rat.mul_assoc,e];unfold dot;grind)
  have e2:(bV p a).x=p.x-a.x:=rfl
  grind
 ·show p.y=a.y+fY a b p*(bV b a).y
  have:(bV p a).y=fY a b p*(bV b a).y:=key (by rw[Rat.mul_assoc,Rat.mul_comm (bV b a).y,<-Rat.mul_assoc,e];unfold dot;grind)
  have e2:(bV p a).y=p.y-a.y:=rfl
  grind
 ·show p.z=a.z+fY a b p*(bV b a).z
  have:(bV p a).z=fY a b p*(bV b a).z:=key (by rw[Rat.mul_assoc,Rat.mul_comm (bV b a).z,<-Rat.mul_assoc,e];unfold dot;grind)
  have e2:(bV p a).z=p.z-a.z:=rfl
  grind
theorem PE {a b x y:V3} (h:a≠b) (hxy:x≠y) (hx:iO a b x=true) (hy:iO a b y=true):fY a b y≠fY a b x/\fY x y a=cI (fY a b x) (fY a b y) 0/\fY x y b=cI (fY a b x) (fY a b y) 1/\iO x y a=true/\iO x y b=true:=by
 have e1:=AB h hx
 have e2:=AB h hy
 have hn:=zC h
 have hst:fY a b y≠fY a b x:=fun e=>hxy (by rw[e1,e2,e])
 have hn2:=zC hxy
 generalize hs:fY a b x=s at*
 generalize ht:fY a b y=t at*
 have hts:t-s≠0:=by grind
 have key:∀{p:V3} {r:Rat},bV p x=fZ (r-s) (bV b a)->fY x y p=cI s t r:=fun {p r} hp=>by
  have hv:bV y x=fZ (t-s) (bV b a):=by
   subst e1 e2
   refine lN ?_ ?_ ?_<;>simp only[bV,iU,fZ]<;>grind
  unfold fY
  rw[hp,hv]at*
  have d1:dot (fZ (r-s) (bV b a)) (fZ (t-s) (bV b a))=(r-s)*((t-s)*dot (bV b a) (bV b a)):=by simp only[dot,fZ];grind
  have d2:dot (fZ (t-s) (bV b a)) (fZ (t-s) (bV b a))=(t-s)*((t-s)*dot (bV b a) (bV b a)):=by simp only[dot,fZ];grind
  rw[d1,d2]
  have hq:(t-s)*dot (bV b a) (bV b a)≠0:=fun h0=>by
   rcases Rat.mul_eq_zero.1 h0 with g|g
   ·exact hts g
   ·exact hn g
  unfold cI
  generalize (t-s)*dot (bV b a) (bV b a)=Q at*
  rw[Rat.div_def,Rat.inv_mul_rev,Rat.mul_assoc,<-Rat.mul_assoc Q,Rat.mul_inv_cancel _ hq,Rat.one_mul,<-Rat.div_def]
 refine⟨hst,key (r:=0) ?_,key (r:=1) ?_,?_,?_⟩
 ·subst e1;refine lN ?_ ?_ ?_<;>simp only[bV,iU,fZ]<;>grind
 ·subst e1;refine lN ?_ ?_ ?_<;>simp only[bV,iU,fZ]<;>grind
 ·unfold iO;subst e1 e2;exact lX.2 (by refine lN ?_ ?_ ?_<;>simp only[wI,bV,iU,fZ,v0]<;>grind)
 ·unfold iO;subst e1 e2;exact lX.2 (by refine lN ?_ ?_ ?_<;>simp only[wI,bV,iU,fZ,v0]<;>grind)
theorem Zk {q r:Rat}:decide (dn q r>0)=decide (r<q):=by
 unfold dn
 by_cases h:q<r
 ·have:¬r<q:=by grind
  simp[h,this]
 ·by_cases h':r<q<;>simp[h,h']
open Go Go.Am.N AV Proofs.Tryz
theorem OR:aX 144 f144:=aM func144
theorem ais:aX 97 f97:=aM func97
theorem acw {q r:Rat} {n m:Nat}:bF T p9 [9] 60 f144 (aF f144) ⟨aS 0 [.rat q n,.rat r m],[],0⟩=
  some (ag.aj [(0:Nat)<1] (ag.fork ((↑(nl r.num.natAbs):Int)==0) (ag.aj [(0:Nat)<1] (ag.aj [(0:Nat)<1] (ag.leaf aq.ret [agg [AV.bool false,mag 0,mag 0],int .i64 (3:Int)]))) (ag.aj [(0:Nat)<1,(0:Nat)<1,(0:Nat)<1,(0:Nat)<1,nl q.num.natAbs<2^39,nl r.den<2^39,(0:Nat)<1,(0:Nat)<1,nl q.den<2^39,nl r.num.natAbs<2^39,nl (q.num.natAbs*r.den)<2^38,nl (q.den*r.num.natAbs)<2^38,q.den*r.num.natAbs≠0,(0:Nat)<1] (ag.aj [(0:Nat)<1] (ag.leaf aq.ret [rat (sQ (decide (q<0)!=decide (r<0)) (q.num.natAbs*r.den) (q.den*r.num.natAbs)) (dr (sQ (decide (q<0)!=decide (r<0)) (q.num.natAbs*r.den) (q.den*r.num.natAbs))),int .i64 (0:Int)]))))):=ah
theorem Fm {q r:Rat} {n m:Nat} (hn:n<2^41) (hm':m<2^41) (K:Nat):aN P 144 K [.rat q n,.rat r m] [] (aH (.tuple [.rat (q/r) (n+m),.int .i64 (if r=0 then 3 else 0)]) []):=by
 refine kP fun⟨hq,hr,_⟩=>?_
 have hq:Sz q n:=hq
 have hr:Sz r m:=hr
 have d1:=q.den_nz
 have d2:=r.den_nz
 have a1:nl q.num.natAbs<2^38:=fX hq.1 aa
 have a2:nl q.den<2^38:=fX hq.2 aa
 have b1:nl r.num.natAbs<2^38:=fX hr.1 aa
 have b2:nl r.den<2^38:=fX hr.2 aa
 have m1:nl (q.num.natAbs*r.den)<2^38:=fX (nL hq.1 hr.2) aa
 have m3:nl (q.den*r.num.natAbs)<2^38:=fX (nL hq.2 hr.1) aa
 refine bM hT sM hm OR rfl aW rfl 60 acw (fun _=>?_) K []
 have key:((nl r.num.natAbs:Int)==0)=decide (r=0):=by
  by_cases h:r=0
  ·subst h;rfl
  ·have h1:r.num.natAbs≠0:=fun e=>h (nT.1 e)
   have:=gE.2 h1
   simp only[h,decide_false,beq_eq_false_iff_ne];omega
 rw[key]
 simp only[ag.all,au,bz,bG]
 refine⟨aa,fun h0=>?_,fun h0=>?_⟩
 ·refine⟨aa,aa,?_,bW (by rw[if_pos h0]),trivial⟩
  have e:q/r=0:=by rw[h0,Rat.div_def,Rat.inv_zero,Rat.mul_zero]
  obtain⟨k,hk⟩:∃k,n+m=k+1:=⟨n+m-1,by have:=hq.pos;omega⟩
  rw[e,hk]
  first|exact k9|exact eE aa
 ·have hr0:r.num.natAbs≠0:=fun h=>h0 (nT.1 h)
  have hv:=BC q r h0
  (repeat' with_reducible refine And.intro ?_ ?_)
  all_goals first|omega|exact m1|exact m3|exact Nat.mul_ne_zero d1 hr0|skip
  exact⟨en hv (hq.div hr),bW (by rw[if_neg h0]),trivial⟩
def N9:aV:=[(144,fL kR kR rq oG)]
theorem Yf:bg P N9:=aE (fQ fun _ _ K hn=>Fm hn.1 hn.2 K) bD
theorem agW {q r:Rat} {n m:Nat}:bF T N9 [] 60 f97 (aF f97) ⟨aS 0 [.rat q n,.rat r m],[],0⟩=
  some (ag.aj [(0:Nat)<1,(0:Nat)<1,n<2^41,m<2^41,(0:Nat)<1] (ag.aj [(0:Nat)<1,(0:Nat)<1] (ag.aj [(0:Nat)<1] (ag.leaf aq.ret [rat (q/r) (n+m)])))):=ah
theorem FV {q r:Rat} {n m:Nat} (hn:n<2^41) (hm':m<2^41) (K:Nat):aN P 97 K [.rat q n,.rat r m] [] (aH (.rat (q/r) (n+m)) []):=by
 refine bM hT Yf hm ais rfl aW rfl 60 agW (fun _=>?_) K []
 simp only[ag.all,au]
 (repeat' with_reducible refine And.intro ?_ ?_)
 all_goals first|omega|exact bp.refl _
def Dc (a b:Rat×Nat):AV:=rA (a.1/b.1) (a.2+b.2)
def nh (n:Nat) (f:Nat->Rat):Rat:=match n with
 |0=>0
 |n+1=>nh n f+f n
structure Kn (n p:Nat) (k:Nat->Rat):Prop where
 p1:1<=p
 len:2*p+2<=n
 sorted:∀i,i+1<n->k i<=k (i+1)
 first:∀i,i<=p->k i=k 0
 last:∀i,n<=i+p+1->i<n->k i=k (n-1)
 mult:∀i,1<=i->i+p+1<n->k i<k (i+p)
theorem gG {n:Nat} {k:Nat->Rat} (h:∀i,i+1<n->k i<=k (i+1)) {i:Nat}:∀{j:Nat},i<=j->j<n->k i<=k j
 |0,hij,_=>by
    have:i=0:=by omega
    subst this;exact Rat.le_refl
 |j+1,hij,hj=>by
  by_cases he:i=j+1
  ·subst he;exact Rat.le_refl
  ·exact Rat.le_trans (gG h (j:=j) (by omega) (by omega)) (h j hj)
theorem Kn.mono {n p:Nat} {k:Nat->Rat} (h:Kn n p k) {i j:Nat} (hij:i<=j) (hj:j<n):k i<=k j:=gG h.sorted hij hj
def fr (a b t:Rat):Rat:=(t-a)/(b-a)
theorem mG {a b t:Rat} (h:a<b):fr a b t*(b-a)=t-a:=by
 unfold fr;rw[Rat.div_mul_cancel];intro e;grind
theorem PS {a b:Rat}:fr a b a=0:=by
 unfold fr;rw[Rat.sub_self,Rat.div_def,Rat.zero_mul]
theorem RP {a b:Rat} (h:a<b):fr a b b=1:=by
 unfold fr;rw[Rat.div_def,Rat.mul_inv_cancel];intro e;grind
theorem Zj {a b t:Rat} (h:a<b) (h0:a<=t):0<=fr a b t:=by
 have e:=mG (t:=t) h
 rcases Rat.le_total (a:=0) (b:=fr a b t)with h1|h1
 ·exact h1
 ·by_cases h2:fr a b t=0
  ·rw[h2];exact Rat.le_refl
  ·have:=Rat.mul_pos (a:=-fr a b t) (b:=b-a) (by grind) (by grind)
   grind
theorem ag9 {a b t:Rat} (h:a<b) (h0:t<=b):fr a b t<=1:=by
 have e:=mG (t:=t) h
 rcases Rat.le_total (a:=fr a b t) (b:=1)with h1|h1
 ·exact h1
 ·by_cases h2:fr a b t=1
  ·rw[h2];exact Rat.le_refl
  ·have:=Rat.mul_pos (a:=fr a b t-1) (b:=b-a) (by grind) (by grind)
   grind
theorem Gk {a b t:Rat} (h:a<b):1-fr a b t=(b-t)/(b-a):=by
 have hne:b-a≠0:=by intro e;grind
 have e:=mG (t:=t) h
 have e2:(b-t)/(b-a)*(b-a)=b-t:=Rat.div_mul_cancel hne
 generalize (b-t)/(b-a)=q at*
 generalize fr a b t=f at*
 have:(1-f-q)*(b-a)=0:=by grind
 rcases Rat.mul_eq_zero.1 this with h1|h1
 ·grind
 ·exact absurd h1 hne
def vB (k:Nat->Rat) (i:Nat) (t:Rat):Nat->Nat->Rat
 |0,j=>if j=0 then 1 else 0
 |d+1,j=>(if j=0 then 0 else fr (k (i-d+(j-1))) (k (i-d+(j-1)+(d+1))) t*vB k i t d (j-1))+
   (if j<=d then(1-fr (k (i-d+j)) (k (i-d+j+(d+1))) t)*vB k i t d j else 0)
theorem B1 {k:Nat->Rat} {i:Nat} {t:Rat}:∀{d j:Nat},d<j->vB k i t d j=0
 |0,j,h=>by unfold vB;rw[if_neg (by omega)]
 |d+1,j,h=>by
  unfold vB
  rw[if_neg (by omega),if_neg (by omega),B1 (d:=d) (j:=j-1) (by omega)];grind
theorem PM {k:Nat->Rat} {i:Nat} {t:Rat} {d j:Nat}:vB k i t (d+1) (j+1)=fr (k (i-d+j)) (k (i-d+j+(d+1))) t*vB k i t d j+(1-fr (k (i-d+(j+1))) (k (i-d+(j+1)+(d+1))) t)*vB k i t d (j+1):=by
 rw[vB,if_neg (by omega),Nat.add_sub_cancel]
 by_cases h:j+1<=d
 ·rw[if_pos h]
 ·rw[if_neg h,B1 (d:=d) (j:=j+1) (by omega)];grind
theorem ad7 {k:Nat->Rat} {i:Nat} {t:Rat} {d:Nat}:vB k i t (d+1) 0=(1-fr (k (i-d)) (k (i-d+(d+1))) t)*vB k i t d 0:=by
 rw[vB,if_pos rfl,if_pos (by omega)];simp only[Nat.add_zero];grind
structure At (n:Nat) (k:Nat->Rat) (i:Nat):Prop where
 lt:i+1<n
 sorted:∀i,i+1<n->k i<=k (i+1)
 wide:k i<k (i+1)
theorem At.around {n:Nat} {k:Nat->Rat} {i:Nat} (h:At n k i) {a b:Nat} (ha:a<=i) (hb:i<b) (hn:b<n):k a<k b:=by
 have h1:=gG h.sorted ha (show i<n by have:=h.lt;omega)
 have h2:=gG h.sorted (show i+1<=b by omega) hn
 have h3:=h.wide
 grind
def nC (k:Nat->Rat) (at_:Nat) (t:Rat):Nat->Nat->Rat
 |0,i=>if i=at_ then 1 else 0
 |d+1,i=>if at_<i\/i+(d+1)<at_ then 0 else
   (t-k i)/(k (i+(d+1))-k i)*nC k at_ t d i+(k (i+(d+2))-t)/(k (i+(d+2))-k (i+1))*nC k at_ t d (i+1)
theorem HI {k:Nat->Rat} {a:Nat} {t:Rat} {d i:Nat} (h:a<i\/i+d<a):nC k a t d i=0:=by
 cases d with
 |zero=>unfold nC;rw[if_neg (by omega)]
 |succ d=>unfold nC;rw[if_pos h]
theorem Ni {n:Nat} {k:Nat->Rat} {i:Nat} (h:At n k i) {t:Rat}:∀{d:Nat},d<=i->i+d<n->∀j,j<=d->vB k i t d j=nC k i t d (i-d+j)
 |0,_,_,j,hj=>by
  have:j=0:=by omega
  subst this;simp[vB,nC]
 |d+1,hd,hn,j,hj=>by
  have ih:=Ni h (t:=t) (d:=d) (by omega) (by omega)
  rw[nC,if_neg (by omega)]
  cases j with
  |zero=>
   rw[ad7,HI (d:=d) (i:=i-(d+1)+0) (by omega)]
   have hlt:=h.around (a:=i-d) (b:=i-d+(d+1)) (by omega) (by omega) (by omega)
   have e0:=ih 0 (by omega)
   simp only[Nat.add_zero]at e0
   rw[Gk hlt,e0]
   have e1:i-(d+1)+0+1=i-d:=by omega
   have e2:i-(d+1)+0+(d+2)=i-d+(d+1):=by omega
   rw[e1,e2];grind
  |succ j=>
   rw[PM]
   have e1:i-(d+1)+(j+1)=i-d+j:=by omega
   have e2:i-d+j+1=i-d+(j+1):=by omega
   have e3:i-d+j+(d+2)=i-d+(j+1)+(d+1):=by omega
   rw[e1,e2,e3,ih j (by omega)]
   by_cases hj1:j+1<=d
   ·have hlt:=h.around (a:=i-d+(j+1)) (b:=i-d+(j+1)+(d+1)) (by omega) (by omega) (by omega)
    rw[Gk hlt,ih (j+1) hj1];rfl
   ·rw[B1 (d:=d) (j:=j+1) (by omega),HI (d:=d) (i:=i-d+(j+1)) (by omega)]
    unfold fr;grind
def gW (k:Nat->Rat) (b p r:Nat) (t:Rat) (x:Nat->Rat) (j:Nat):Rat:=
 if r<j then x (j-1)+fr (k (b+j)) (k (b+j+(p-r))) t*(x j-x (j-1))else x j
def bl (k:Nat->Rat) (b p:Nat):Nat->(Nat->Rat)->List Rat->Nat->Rat
 |_,x,[]=>x
 |r,x,t::l=>bl k b p (r+1) (gW k b p r t x) l
def cm (t:Nat->Rat):Nat->Nat->List Rat
 |_,0=>[]
 |a,l+1=>t a::cm t (a+1) l
def bR (k:Nat->Rat) (b p:Nat) (t:Nat->Rat) (x:Nat->Rat):Nat->Nat->Rat
 |0=>x
 |r+1=>gW k b p r (t r) (bR k b p t x r)
variable {k:Nat->Rat} {b p:Nat}
theorem Ld {t x:Nat->Rat}:∀{l r:Nat},bl k b p r (bR k b p t x r) (cm t r l)=bR k b p t x (r+l)
 |0,r=>rfl
 |l+1,r=>by
  have:=Ld (t:=t) (x:=x) (l:=l) (r:=r+1)
  rw[show r+(l+1)=r+1+l by omega,<-this];rfl
theorem agU {t x:Nat->Rat} {l:Nat}:bR k b p t x l=bl k b p 0 x (cm t 0 l):=by
 have:=Ld (k:=k) (b:=b) (p:=p) (t:=t) (x:=x) (l:=l) (r:=0)
 rw[Nat.zero_add]at this
 exact this.symm
theorem DV:∀{l:List Rat} {r:Nat} {x y:Nat->Rat},r+l.length=p->(∀j,r<=j->j<=p->x j=y j)->bl k b p r x l p=bl k b p r y l p
 |[],r,x,y,hl,h=>h p (by simp at hl;omega) (Nat.le_refl _)
 |t::l,r,x,y,hl,h=>by
  refine DV (l:=l) (r:=r+1) (by simp at hl;omega) fun j h1 h2=>?_
  unfold gW
  rw[if_pos (by omega),if_pos (by omega),h j (by omega) h2,h (j-1) (by omega) (by omega)]
theorem Gm {x y u v:Rat} (hu:u≠0) (hv:v≠0) (h:x*(u*v)=y*(u*v)):x=y:=by
 have:(x-y)*(u*v)=0:=by grind
 simp only[Rat.mul_eq_zero]at this
 rcases this with h1|h1|h1
 ·grind
 ·exact absurd h1 hu
 ·exact absurd h1 hv
theorem QI {a1 a2 b1 b2 s t x0 x1 x2:Rat} (h1:a1<b1) (h2:a2<b1) (h3:a2<b2):
  x0+fr a1 b1 s*(x1-x0)+fr a2 b1 t*(x1+fr a2 b2 s*(x2-x1)-(x0+fr a1 b1 s*(x1-x0)))=
   x0+fr a1 b1 t*(x1-x0)+fr a2 b1 s*(x1+fr a2 b2 t*(x2-x1)-(x0+fr a1 b1 t*(x1-x0))):=by
 have n1:b1-a1≠0:=by intro e;grind
 have n2:b1-a2≠0:=by intro e;grind
 have n3:b2-a2≠0:=by intro e;grind
 have e1:=mG (t:=s) h1
 have e2:=mG (t:=t) h1
 have e3:=mG (t:=s) h2
 have e4:=mG (t:=t) h2
 have e5:=mG (t:=s) h3
 have e6:=mG (t:=t) h3
 generalize fr a1 b1 s=f1s at*
 generalize fr a1 b1 t=f1t at*
 generalize fr a2 b1 s=gs at*
 generalize fr a2 b1 t=gt at*
 generalize fr a2 b2 s=f2s at*
 generalize fr a2 b2 t=f2t at*
 have c0:(1-gt)*(1-f1s)=(1-gs)*(1-f1t):=by
  refine Gm n2 n1 ?_
  have q1:(1-gt)*(b1-a2)=b1-t:=by grind
  have q2:(1-f1s)*(b1-a1)=b1-s:=by grind
  have q3:(1-gs)*(b1-a2)=b1-s:=by grind
  have q4:(1-f1t)*(b1-a1)=b1-t:=by grind
  have l1:(1-gt)*(1-f1s)*((b1-a2)*(b1-a1))=((1-gt)*(b1-a2))*((1-f1s)*(b1-a1)):=by grind
  have l2:(1-gs)*(1-f1t)*((b1-a2)*(b1-a1))=((1-gs)*(b1-a2))*((1-f1t)*(b1-a1)):=by grind
  rw[l1,l2,q1,q2,q3,q4];grind
 have c2:gt*f2s=gs*f2t:=by
  refine Gm n2 n3 ?_
  have l1:gt*f2s*((b1-a2)*(b2-a2))=(gt*(b1-a2))*(f2s*(b2-a2)):=by grind
  have l2:gs*f2t*((b1-a2)*(b2-a2))=(gs*(b1-a2))*(f2t*(b2-a2)):=by grind
  rw[l1,l2,e3,e4,e5,e6];grind
 have f1:x0+f1s*(x1-x0)+gt*(x1+f2s*(x2-x1)-(x0+f1s*(x1-x0)))=((1-gt)*(1-f1s))*x0+(1-(1-gt)*(1-f1s)-gt*f2s)*x1+(gt*f2s)*x2:=by grind
 have f2:x0+f1t*(x1-x0)+gs*(x1+f2t*(x2-x1)-(x0+f1t*(x1-x0)))=((1-gs)*(1-f1t))*x0+(1-(1-gs)*(1-f1t)-gs*f2t)*x1+(gs*f2t)*x2:=by grind
 rw[f1,f2,c0,c2]
variable {n:Nat}
theorem QK (h:At n k (b+p)) (hn:b+p+p<n) {s t:Rat} {x:Nat->Rat} {r j:Nat} (h1:r+2<=j) (h2:j<=p):
  gW k b p (r+1) t (gW k b p r s x) j=gW k b p (r+1) s (gW k b p r t x) j:=by
 have a1:=h.around (a:=b+(j-1)) (b:=b+(j-1)+(p-r)) (by omega) (by omega) (by omega)
 have a2:=h.around (a:=b+j) (b:=b+j+(p-(r+1))) (by omega) (by omega) (by omega)
 have a3:=h.around (a:=b+j) (b:=b+j+(p-r)) (by omega) (by omega) (by omega)
 have e:b+j+(p-(r+1))=b+(j-1)+(p-r):=by omega
 rw[e]at a2
 simp only[gW]
 rw[if_pos (by omega),if_pos (by omega),if_pos (by omega),if_pos (by omega),if_pos (by omega),if_pos (by omega),e]
 exact QI a1 a2 a3
theorem x7 (h:At n k (b+p)) (hn:b+p+p<n) {l m:List Rat} (hp:l.Perm m):∀{r:Nat} {x:Nat->Rat},r+l.length=p->bl k b p r x l p=bl k b p r x m p:=by
 induction hp with
 |nil=>intro r x _;rfl
 |cons t _ ih=>intro r x hl;exact ih (by simp at hl;omega)
 |swap s t l=>
  intro r x hl
  refine DV (l:=l) (r:=r+2) (by simp at hl;omega) fun j h1 h2=>?_
  exact QK h hn h1 h2
 |trans h1 h2 ih1 ih2=>intro r x hl;rw[ih1 hl,ih2 (by rw[<-h1.length_eq];exact hl)]
def pz (t:Nat->Rat) (a:Nat):Nat->List Rat
 |0=>[]
 |l+1=>t (a+l)::pz t a l
theorem yS {t:Nat->Rat}:∀{l a:Nat},cm t a (l+1)=cm t a l++[t (a+l)]
 |0,a=>rfl
 |l+1,a=>by
  rw[cm,yS (l:=l) (a:=a+1),cm,List.cons_append,show a+1+l=a+(l+1) by omega]
theorem Bp {t:Nat->Rat} {a:Nat}:∀{l:Nat},(pz t a l).Perm (cm t a l)
 |0=>.nil
 |l+1=>by
  rw[yS,pz]
  exact((Bp (l:=l)).cons _).trans (List.perm_append_singleton _ _).symm
theorem Au {t:Nat->Rat} {m:Nat}:∀{l a:Nat},cm t a (l+m)=cm t a l++cm t (a+l) m
 |0,a=>by rw[Nat.zero_add];rfl
 |l+1,a=>by
  rw[show l+1+m=(l+m)+1 by omega,cm,Au (l:=l) (a:=a+1),cm,List.cons_append,show a+1+l=a+(l+1) by omega]
theorem lM {t:Nat->Rat}:∀{l a:Nat},(cm t a l).length=l
 |0,_=>rfl
 |l+1,a=>by rw[cm,List.length_cons,lM]
theorem agZ {l m:List Rat}:∀{r:Nat} {x:Nat->Rat},bl k b p r x (l++m)=bl k b p (r+l.length) (bl k b p r x l) m:=by
 induction l with
 |nil=>intro r x;rfl
 |cons t l ih=>
  intro r x
  rw[List.cons_append,bl,ih,bl,List.length_cons,show r+1+l.length=r+(l.length+1) by omega]
theorem FZ (h:At n k (b+p)) (hn:b+p+p<n) {J:Nat} (hJ:J<=p):∀{l r:Nat} {x:Nat->Rat},r+l=J->bl k b p r x (pz k (b+p+1) l) J=x J
 |0,r,x,_=>rfl
 |l+1,r,x,hr=>by
  rw[pz,bl,FZ h hn hJ (l:=l) (r:=r+1) (by omega)]
  unfold gW
  have a1:=h.around (a:=b+J) (b:=b+J+(p-r)) (by omega) (by omega) (by omega)
  rw[if_pos (by omega),show b+p+1+l=b+J+(p-r) by omega,RP a1];grind
theorem Is {J:Nat}:∀{l q:Nat} {x:Nat->Rat},bl k b p (J+q) x (cm k (b+J+1+q) l) (J+q+l)=x (J+q)
 |0,q,x=>rfl
 |l+1,q,x=>by
  have ih:=Is (J:=J) (l:=l) (q:=q+1) (x:=gW k b p (J+q) (k (b+J+1+q)) x)
  rw[cm,bl,show J+q+(l+1)=J+(q+1)+l by omega,show J+q+1=J+(q+1) by omega,show b+J+1+q+1=b+J+1+(q+1) by omega,ih]
  unfold gW
  rw[if_pos (by omega),show b+J+1+q=b+(J+(q+1)) by omega,PS,show J+(q+1)-1=J+q by omega];grind
theorem ahO (h:At n k (b+p)) (hn:b+p+p<n) {J:Nat} (hJ:J<=p) {x:Nat->Rat}:bl k b p 0 x (cm k (b+J+1) p) p=x J:=by
 have e:cm k (b+J+1) p=cm k (b+J+1) (p-J)++cm k (b+p+1) J:=by
  have:=Au (t:=k) (l:=p-J) (a:=b+J+1) (m:=J)
  rw[show p-J+J=p by omega,show b+J+1+(p-J)=b+p+1 by omega]at this
  exact this
 have hp:(cm k (b+J+1) p).Perm (pz k (b+p+1) J++cm k (b+J+1) (p-J)):=by
  rw[e]
  exact(List.perm_append_comm).trans ((Bp).symm.append_right _)
 rw[x7 h hn hp (by rw[lM];omega),agZ]
 have hd:(pz k (b+p+1) J).length=J:=by rw[(Bp).length_eq,lM]
 rw[hd,Nat.zero_add]
 have:=Is (k:=k) (b:=b) (p:=p) (J:=J) (l:=p-J) (q:=0) (x:=bl k b p 0 x (pz k (b+p+1) J))
 simp only[Nat.add_zero]at this
 rw[show J+(p-J)=p by omega]at this
 rw[this]
 exact FZ h hn hJ (l:=J) (r:=0) (by omega)
end Go.Am.B
namespace Go.Am.B
def k7 (g:Nat->Bool):Nat->Nat
 |0=>0
 |m+1=>if g m then m else k7 g m
theorem FQ {g:Nat->Bool} {i:Nat} (hi:g i=true):∀{m:Nat},i<m->(∀j,i<j->j<m->g j=false)->k7 g m=i
 |0,h,_=>by omega
 |m+1,h,hn=>by
  unfold k7
  by_cases he:i=m
  ·subst he;rw[if_pos hi]
  ·rw[if_neg (by rw[hn m (by omega) (by omega)];decide),FQ hi (m:=m) (by omega) fun j h1 h2=>hn j h1 (by omega)]
def bY (n:Nat) (k:Nat->Rat) (t:Rat):Nat:=k7 (fun i=>decide (k i<k (i+1))&&decide (k i<=t)) (n-1)
structure Ja (n:Nat) (k:Nat->Rat) (t:Rat) (i:Nat):Prop where
 at_:At n k i
 lo:k i<=t
 hi:t<=k (i+1)
 Cx:t<k (i+1)\/k (i+1)=k (n-1)
theorem tv {n:Nat} {k:Nat->Rat} {t:Rat} {i:Nat} (h:Ja n k t i):bY n k t=i:=by
 have hw:=h.at_.wide
 have hlo:=h.lo
 refine FQ (by simp[hw,hlo]) (by have:=h.at_.lt;omega) fun j h1 h2=>?_
 rcases h.Cx with h3|h3
 ·have:=gG h.at_.sorted (show i+1<=j by omega) (show j<n by omega)
  have:¬k j<=t:=by grind
  simp[this]
 ·have a1:=gG h.at_.sorted (show i+1<=j by omega) (show j<n by omega)
  have a2:=gG h.at_.sorted (show j+1<=n-1 by omega) (show n-1<n by omega)
  have:¬k j<k (j+1):=by grind
  simp[this]
theorem HT {g:Nat->Bool}:∀{m:Nat},(∃i,i<m/\g i=true)->g (k7 g m)=true/\k7 g m<m/\∀j,k7 g m<j->j<m->g j=false
 |0,⟨i,h,_⟩=>by omega
 |m+1,⟨i,h,hi⟩=>by
  unfold k7
  by_cases hm:g m=true
  ·rw[if_pos hm];exact⟨hm,by omega,fun j h1 h2=>by omega⟩
  ·rw[if_neg hm]
   have hi':i<m:=by
    by_cases he:i=m
    ·subst he;exact absurd hi hm
    ·omega
   obtain⟨a1,a2,a3⟩:=HT (g:=g) (m:=m) ⟨i,hi',hi⟩
   refine⟨a1,by omega,fun j h1 h2=>?_⟩
   by_cases he:j=m
   ·subst he;simpa using hm
   ·exact a3 j h1 (by omega)
theorem Kn.xX {n p:Nat} {k:Nat->Rat} (h:Kn n p k) {t:Rat} (h0:k 0<=t) (h1:t<=k (n-1)):Ja n k t (bY n k t)/\p<=bY n k t/\bY n k t+p+1<n:=by
 have hp:=h.p1
 have hl:=h.len
 have hw:k p<k (p+1):=by
  have:=h.mult 1 (by omega) (by omega)
  rw[h.first 1 (by omega),show 1+p=p+1 by omega]at this
  rw[h.first p (by omega)];exact this
 obtain⟨a1,a2,a3⟩:=HT (g:=fun i=>decide (k i<k (i+1))&&decide (k i<=t)) (m:=n-1) ⟨p,by omega,by rw[h.first p (by omega)]at*;simp[hw,h0]⟩
 have e:bY n k t=k7 (fun i=>decide (k i<k (i+1))&&decide (k i<=t)) (n-1):=rfl
 rw[<-e]at a1 a2 a3
 generalize bY n k t=i at*
 simp only[Bool.and_eq_true,decide_eq_true_eq]at a1
 have hat:At n k i:=⟨by omega,h.sorted,a1.1⟩
 -- from the next knot on
 have key:t<k (i+1)\/k (i+1)=k (n-1):=by
  by_cases ht:t<k (i+1)
  ·exact .inl ht
  ·refine .inr ?_
   have step:∀j,i+1<=j->j<=n-1->k j=k (i+1):=by
    intro j hj1 hj2
    induction j with
    |zero=>omega
    |succ j ih=>
     by_cases hji:j+1=i+1
     ·rw[hji]
     ·have e1:=ih (by omega) (by omega)
      have:=a3 j (by omega) (by omega)
      have hs:=h.sorted j (by omega)
      by_cases hlt:k j<k (j+1)
      ·simp[hlt]at this
       grind
      ·grind
   exact(step (n-1) (by omega) (by omega)).symm
 have hi2:t<=k (i+1):=by rcases key with h2|h2<;>grind
 refine⟨⟨hat,a1.2,hi2,key⟩,?_,?_⟩
 ·by_cases hge:p<=i
  ·exact hge
  ·exfalso
   have:=h.first i (by omega)
   have:=h.first (i+1) (by omega)
   have:=a1.1
   grind
 ·by_cases hge:i+p+1<n
  ·exact hge
  ·exfalso
   have:=h.last i (by omega) (by omega)
   have:=h.last (i+1) (by omega) (by omega)
   have:=a1.1
   grind
structure KG (p j:Nat) (k:Nat->Rat) (t:Rat):Prop where
 p1:1<=p
 first:∀i,i<=p->k i=k 0
 top:k (p+j)=t
 sorted:∀i,i<p+j->k i<=k (i+1)
 mult:∀i,1<=i->i<=j->k i<k (i+p)
 half:∀i,i<=p+j->∃z:Int,k i=(z:Rat)/2/\-4<=z/\z<=2+6*(j:Int)
def oc (k:Nat->Rat) (m:Nat) (t:Rat):Nat->Rat:=fun i=>if i=m then t else k i
theorem rG {k:Nat->Rat} {m:Nat} {t:Rat}:oc k m t m=t:=if_pos rfl
theorem kz {k:Nat->Rat} {m i:Nat} {t:Rat} (h:i≠m):oc k m t i=k i:=if_neg h
theorem KG.start {p:Nat} (hp:1<=p) {z:Int} (h1:-2<=z) (h2:z<=1):KG p 0 (fun _=>(z:Rat)) (z:Rat) where
 p1:=hp
 first:=fun _ _=>rfl
 top:=rfl
 sorted:=fun _ _=>Rat.le_refl
 mult:=fun i h1 h2=>by omega
 half:=fun i _=>⟨2*z,by
  have:((2*z:Int):Rat)=2*(z:Rat):=by simp
  rw[this];grind,by omega,by omega⟩
theorem KG.le_top {p j:Nat} {k:Nat->Rat} {t:Rat} (h:KG p j k t) {i:Nat} (hi:i<=p+j):k i<=t:=by
 rw[<-h.top]
 exact gG (n:=p+j+1) (fun i hi=>h.sorted i (by omega)) hi (by omega)
theorem KG.next {p j:Nat} {k:Nat->Rat} {t t':Rat} (h:KG p j k t) (hc:(t<t'/\∃z:Int,t'=t+(z:Rat)/2/\z<=6)\/(t'=t/\1<=j/\t≠k (j+1))):KG p (j+1) (oc k (p+1+j) t') t':=by
 have hle:t<=t':=by
  rcases hc with⟨h1,_⟩|⟨h1,_⟩
  ·grind
  ·rw[h1];exact Rat.le_refl
 have hp:=h.p1
 refine⟨hp,fun i hi=>?_,?_,fun i hi=>?_,fun i h1 h2=>?_,fun i hi=>?_⟩
 ·rw[kz (by omega),kz (by omega)];exact h.first i hi
 ·rw[show p+(j+1)=p+1+j by omega,rG]
 ·by_cases he:i+1=p+1+j
  ·rw[he,rG,kz (by omega),show i=p+j by omega,h.top];exact hle
  ·rw[kz (by omega),kz he];exact h.sorted i (by omega)
 ·by_cases he:i=j+1
  ·subst he
   rw[show j+1+p=p+1+j by omega,rG,kz (by omega)]
   have:=h.le_top (i:=j+1) (by omega)
   rcases hc with⟨h3,_⟩|⟨h3,h4,h5⟩
   ·grind
   ·rw[h3];grind
  ·rw[kz (by omega),kz (by omega)];exact h.mult i h1 (by omega)
 ·by_cases he:i=p+1+j
  ·subst he
   rw[rG]
   obtain⟨z,e1,e2,e3⟩:=h.half (p+j) (by omega)
   rw[h.top]at e1
   rcases hc with⟨h3,y,e4,e5⟩|⟨h3,_⟩
   ·refine⟨z+y,?_,?_,by omega⟩
    ·rw[e4,e1]
     have:((z+y:Int):Rat)=(z:Rat)+(y:Rat):=by simp
     rw[this];grind
    ·have hy:0<y:=by
      rcases Int.lt_or_le 0 y with h6|h6
      ·exact h6
      ·exfalso
       have:((y:Int):Rat)<=0:=Rat.intCast_nonpos.2 h6
       grind
     omega
   ·exact⟨z,by rw[h3,e1],e2,by omega⟩
  ·rw[kz he]
   obtain⟨z,e1,e2,e3⟩:=h.half i (by omega)
   exact⟨z,e1,e2,by omega⟩
def B5 (p j:Nat) (k:Nat->Rat) (t:Rat):Nat->Rat:=fun i=>if i<p+1+j then k i else t+1
theorem KG.done {p j:Nat} {k:Nat->Rat} {t:Rat} (h:KG p j k t):Kn (2*p+2+j) p (B5 p j k t):=by
 have hp:=h.p1
 have lo:∀{i},i<p+1+j->B5 p j k t i=k i:=fun hi=>if_pos hi
 have hi':∀{i},p+1+j<=i->B5 p j k t i=t+1:=fun hi=>if_neg (by omega)
 refine⟨hp,by omega,fun i hi=>?_,fun i hi=>?_,fun i h1 h2=>?_,fun i h1 h2=>?_⟩
 ·by_cases h1:i+1<p+1+j
  ·rw[lo h1,lo (by omega)];exact h.sorted i (by omega)
  ·rw[hi' (i:=i+1) (by omega)]
   by_cases h2:i<p+1+j
   ·rw[lo h2]
    have:=h.le_top (i:=i) (by omega)
    grind
   ·rw[hi' (by omega)];exact Rat.le_refl
 ·rw[lo (i:=i) (by omega),lo (i:=0) (by omega)];exact h.first i hi
 ·rw[hi' (i:=i) (by omega),hi' (i:=2*p+2+j-1) (by omega)]
 ·by_cases h3:i+p<p+1+j
  ·rw[lo (by omega),lo h3];exact h.mult i h1 (by omega)
  ·rw[hi' (i:=i+p) (by omega),lo (i:=i) (by omega)]
   have:=h.le_top (i:=i) (by omega)
   grind
open AV
def aC:AV->Rat
 |.rat q _=>q
 |_=>0
def bQ (f:Nat->AV) (n s:Nat):Prop:=∀i,i<n->bp (f i) (.rat (aC (f i)) s)
abbrev bq (k:Nat->Rat) (n s:Nat):AV:=.ak 3 n (fun i=>.rat (k i) s)
theorem cV {k:Nat->Rat} {n s s':Nat} (h:s<=s'):bQ (fun i=>.rat (k i) s) n s':=fun _ _=>eE h
theorem Bo {f:Nat->AV} {n s:Nat} (h:bQ f n s):bp (.ak 3 n f) (bq (fun i=>aC (f i)) n s):=dB h
def yT:AV->Option (Nat×(Nat->AV))
 |.ak 3 n f=>some (n,f)
 |.nil=>some (0,fun _=>.rat 0 1)
 |_=>none
theorem afX {v:AV} {n s:Nat} {f:Nat->AV} (h:yT v=some (n,f)) (ha:bQ f n s):bp v (bq (fun i=>aC (f i)) n s):=by
 unfold yT at h
 split at h
 ·simp only[ax,Prod.mk.injEq]at h
  obtain⟨rfl,rfl⟩:=h
  exact Bo ha
 ·simp only[ax,Prod.mk.injEq]at h
  obtain⟨rfl,rfl⟩:=h
  exact lf aa
 ·simp at h
open Go Go.Am.N AV Proofs.Tryz
def kL (s:Nat):Kind (Nat×(Nat->Rat)):=⟨fun v=>match yT v with
 |some (n,f)=>some ((n,fun i=>aC (f i)),[bQ f n s])
 |none=>none,fun a=>bq a.2 a.1 s,fun {v a q} h hq=>by
  split at h
  ·rename_i h1
   simp only[ax,Prod.mk.injEq]at h
   obtain⟨rfl,rfl⟩:=h
   exact afX h1 hq
  ·simp at h⟩
def dQ (s:Nat):Kind Rat:=⟨fun v=>match iD v with
 |some (q,n)=>some (q,[n<=s])
 |none=>none,fun a=>.rat a s,fun {v a q} h hq=>by
  split at h
  ·rename_i h1
   simp only[ax,Prod.mk.injEq]at h
   obtain⟨rfl,rfl⟩:=h
   exact(jf h1).trans (eE hq)
  ·simp at h⟩
structure qV (α:Type) where
 read:List AV->Option (α×List Prop)
 make:α->List AV
 ok:∀{l:List AV} {a:α} {q:List Prop},read l=some (a,q)->au q->dA l (make a)
def kN:qV Unit:=⟨fun l=>match l with
 |[]=>some ((),[])
 |_=>none,fun _=>[],fun {l a q} h _=>by
  split at h
  ·trivial
  ·simp at h⟩
def kC {α β:Type} (k:Kind α) (kl:qV β):qV (α×β):=⟨fun l=>match l with
 |v::l=>match k.read v,kl.read l with
  |some (a,p),some (b,q)=>some ((a,b),p++q)
  |_,_=>none
 |[]=>none,fun a=>k.make a.1::kl.make a.2,fun {l a q} h hq=>by
  split at h
  ·split at h
   ·rename_i h1 h2
    simp only[ax,Prod.mk.injEq]at h
    obtain⟨rfl,rfl⟩:=h
    obtain⟨q1,q2⟩:=dN.1 hq
    exact⟨k.ok h1 q1,kl.ok h2 q2⟩
   ·simp at h
  ·simp at h⟩
def cF {α:Type} (k:qV α) (g:α->AV) (need:α->List Prop):Spec:=bX fun l=>match k.read l with
 |some (a,p)=>some (aH (g a) (p++need a))
 |none=>none
theorem cC {α:Type} {f:FuncId} {k:qV α} {g:α->AV} {need:α->List Prop} (h:∀a K,au (need a)->aN P f K (k.make a) [] (aH (g a) [])):bf P (cF k g need) f:=by
 refine cM fun K args r hk hs _=>?_
 split at hs
 ·rename_i h1
  simp only[ax]at hs
  subst hs
  intro hn
  obtain⟨n1,hn⟩:=dN.1 hn
  exact eR (h _ K hn) hk (k.ok h1 n1) [] trivial
 ·simp at hs
def aT:AV->Pl
 |.agg [.agg [x,y,z],w]=>⟨⟨aC x,aC y,aC z⟩,aC w⟩
 |_=>⟨⟨0,0,0⟩,0⟩
def ej (f:Nat->AV) (n s:Nat):Prop:=∀i,i<n->bp (f i) (aJ (aT (f i)) s)
abbrev pM (f:Nat->Pl) (n s:Nat):AV:=.ak 12 n (fun i=>aJ (f i) s)
theorem Ep {u v:Pl} {n k:Nat} (h:u=v) (hk:n<=k):bp (aJ u n) (aJ v k):=
 h▸cj ⟨oI rfl hk,bC rfl hk,trivial⟩
theorem jt {f:Nat->Pl} {n s s':Nat} (h:s<=s'):ej (fun i=>aJ (f i) s) n s':=fun _ _=>Ep rfl h
def tU:AV->Option (Nat×(Nat->AV))
 |.ak 12 n f=>some (n,f)
 |.nil=>some (0,fun _=>.nil)
 |_=>none
theorem Xp {v:AV} {n s:Nat} {f:Nat->AV} (h:tU v=some (n,f)) (ha:ej f n s):bp v (pM (fun i=>aT (f i)) n s):=by
 unfold tU at h
 split at h
 ·simp only[ax,Prod.mk.injEq]at h
  obtain⟨rfl,rfl⟩:=h
  exact dB ha
 ·simp only[ax,Prod.mk.injEq]at h
  obtain⟨rfl,rfl⟩:=h
  exact lf aa
 ·simp at h
def JZ (s:Nat):Kind (Nat×(Nat->Pl)):=⟨fun v=>match tU v with
 |some (n,f)=>some ((n,fun i=>aT (f i)),[ej f n s])
 |none=>none,fun a=>pM a.2 a.1 s,fun {v a q} h hq=>by
  split at h
  ·rename_i h1
   simp only[ax,Prod.mk.injEq]at h
   obtain⟨rfl,rfl⟩:=h
   exact Xp h1 hq
  ·simp at h⟩
def lF (s:Nat):Kind V3:=⟨fun v=>match v with
 |.agg [x,y,z]=>match iD x,iD y,iD z with
  |some (x,a),some (y,b),some (z,c)=>some (⟨x,y,z⟩,[a<=s,b<=s,c<=s])
  |_,_,_=>none
 |_=>none,fun a=>vA a s,fun {v a q} h hq=>by
  split at h
  ·split at h
   ·rename_i h1 h2 h3
    simp only[ax,Prod.mk.injEq]at h
    obtain⟨rfl,rfl⟩:=h
    exact cj ⟨(jf h1).trans (bC rfl hq.1),(jf h2).trans (bC rfl hq.2.1),(jf h3).trans (bC rfl hq.2.2),trivial⟩
   ·simp at h
  ·simp at h⟩
abbrev b7 (h:Pl) (s:Nat):AV:=.agg [.rat h.n.x s,.rat h.n.y s,.rat h.n.z s,.rat h.d s]
def Mx (s:Nat):Kind Pl:=⟨fun v=>match v with
 |.agg [x,y,z,w]=>match iD x,iD y,iD z,iD w with
  |some (x,a),some (y,b),some (z,c),some (w,d)=>some (⟨⟨x,y,z⟩,w⟩,[a<=s,b<=s,c<=s,d<=s])
  |_,_,_,_=>none
 |_=>none,fun a=>b7 a s,fun {v a q} h hq=>by
  split at h
  ·split at h
   ·rename_i h1 h2 h3 h4
    simp only[ax,Prod.mk.injEq]at h
    obtain⟨rfl,rfl⟩:=h
    exact cj ⟨(jf h1).trans (bC rfl hq.1),(jf h2).trans (bC rfl hq.2.1),(jf h3).trans (bC rfl hq.2.2.1),(jf h4).trans (bC rfl hq.2.2.2),trivial⟩
   ·simp at h
  ·simp at h⟩
structure Cu where
 p:Int
 n:Nat
 k:Nat->Rat
 m:Nat
 f:Nat->Pl
abbrev bk (c:Cu) (s r:Nat):AV:=.agg [.int .i64 c.p,bq c.k c.n s,pM c.f c.m r]
def gk (s r:Nat):Kind Cu:=⟨fun v=>match v with
 |.agg [p,k,f]=>match kI.read p,(kL s).read k,(JZ r).read f with
  |some (p,q1),some ((n,k),q2),some ((m,f),q3)=>some (⟨p,n,k,m,f⟩,q1++(q2++q3))
  |_,_,_=>none
 |_=>none,fun a=>bk a s r,fun {v a q} h hq=>by
  split at h
  ·split at h
   ·rename_i h1 h2 h3
    simp only[ax,Prod.mk.injEq]at h
    obtain⟨rfl,rfl⟩:=h
    obtain⟨q1,hq⟩:=dN.1 hq
    obtain⟨q2,q3⟩:=dN.1 hq
    exact cj ⟨kI.ok h1 q1,(kL s).ok h2 q2,(JZ r).ok h3 q3,trivial⟩
   ·simp at h
  ·simp at h⟩
theorem EW {rl:List (Nat×Nat)} {l i s s' s2:Nat} {x y:Nat->Pl} {t:AV} {z:AV} (hx:∀i,i<l->x i=y i) (ht:bp t (aJ (y l) s')) (hk:keys t=[]) (h1:s<=s2) (h2:s'<=s2) (hi:i<l+1):
  iz rl (if i<l then aJ (x i) s else nth [t] z (i-l+0)) (aJ (y i) s2):=by
 by_cases h:i<l
 ·rw[if_pos h,hx i h];exact .inr ⟨rfl,Ep rfl h1⟩
 ·have:i=l:=aa
  subst this
  rw[if_neg h,Nat.sub_self]
  exact .inr ⟨hk,ht.trans (Ep rfl h2)⟩
open Go Go.Am.N AV ag aq IntKind Proofs.Tryz
theorem aai {u v:AV} (h:bp u v):bp (.bn u) (.bn v):=by
 refine⟨rfl,fun M w cs hc=>?_⟩
 cases hc with
 |bn h1 h2 h3=>cases h3;exact .bn (h.2 _ _ _ h1) h2 .nil
def zM {α:Type} (k:Kind α):Kind α:=⟨fun v=>match v with
 |.bn v=>k.read v
 |_=>none,fun a=>.bn (k.make a),fun {v a q} h hq=>by
  split at h
  ·exact aai (k.ok h hq)
  ·simp at h⟩
theorem Rd:aX 30 f30:=aM func30
theorem XL:aX 31 f31:=aM func31
theorem abj:aX 36 f36:=aM func36
theorem WK:aX 39 f39:=aM func39
theorem NI:aX 33 f33:=aM func33
theorem ahB:aX 32 f32:=aM func32
abbrev gT:Nat:=60000
abbrev mV:Nat:=300000
abbrev iI:Nat:=400000
abbrev gn (a:Rat×Rat) (n:Nat):AV:=.agg [.rat a.1 n,.rat a.2 n]
def Ak (s:Nat):Kind (Rat×Rat):=⟨fun v=>match v with
 |.agg [x,y]=>some ((aC x,aC y),[bp x (.rat (aC x) s),bp y (.rat (aC y) s)])
 |_=>none,fun a=>gn a s,fun {v a q} h hq=>by
  split at h
  ·simp only[ax,Prod.mk.injEq]at h
   obtain⟨rfl,rfl⟩:=h
   exact cj ⟨hq.1,hq.2,trivial⟩
  ·simp at h⟩
def oJ:aV:=(75,gj dV dV sj (b2 38))::(76,gj dV dV uv (b2 38))::(166,gj dV dV qN (b2 38))::(73,gj dV dV pB (b2 38))::(74,zJ dV yo (b1 38))::(72,gj dV dV qe (b2 38))::gy
def Ah:aV:=[(33,cQ T (sG::gy) [] 60 f33),(121,cQ T (sG::oJ) [] 60 f121)]
def A8:aV:=[(59,cQ T (sG::Ah) [] 60 f59),(71,cQ T (sG::Ah) [] 60 f71),(90,cQ T (sG::gy) [] 60 f90)]
abbrev aU (k:Nat->Rat) (f:Nat->Pl):Cu:=⟨1,4,k,2,f⟩
def iG (c:Cu):Bool:=decide ((c.f 0).d=(c.f 1).d)&&!dY (c.f 0).n (c.f 1).n
def mq (c:Cu) (i:Nat):V3:=if(c.f 0).d=(c.f 1).d then(c.f i).n else v0
def er (c:Cu):Prop:=c.p=1/\c.n=4/\c.m=2
def Nt:Spec:=cF (kC (gk 1000 1000) kN) (fun a=>.tuple [vA (mq a.1 0) 2000,vA (mq a.1 1) 2000,.bool (iG a.1)]) fun a=>[er a.1]
def KQ:aV:=sG::(A8++oJ)
def GV:aV:=sG::Ah
def mu (a b p:V3):Bool:=iO a b p&&!decide (dot (bV b a) (bV b a)=0)
def pK (a b p:V3):Rat:=if iO a b p=true then fY a b p else 0
def LF:Spec:=cF (kC (lF 2000) (kC (lF 2000) (kC (lF 2000) kN))) (fun a=>.tuple [.rat (pK a.1 a.2.1 a.2.2.1) gT,.bool (mu a.1 a.2.1 a.2.2.1)]) fun _=>[]
def A3:aV:=[(37,fL kR kR rq nX)]
def MS:aV:=nG::(75,fL kV kV sj gd)::(76,fL kV kV uv gd)::(73,fL kV kV pB gd)::(74,wZ kV yo n1)::A3
def J1:aV:=nG::(A3++eV)
def K8:Spec:=cF (kC (dQ gT) (kC (zM (dQ gT)) (kC (zM (dQ gT)) kN))) (fun a=>.rat (cI a.2.1 a.2.2.1 a.1) mV) fun _=>[]
def Gc (s:Nat):Spec:=cF (kC (dQ s) (kC (dQ s) kN)) (fun a=>.rat (cr a.1 a.2.1) s) fun _=>[]
def NQ (s:Nat):Spec:=cF (kC (dQ s) (kC (dQ s) kN)) (fun a=>.rat (cq a.1 a.2.1) s) fun _=>[]
def BN (s:Nat):aV:=nG::(78,Gc s)::(77,NQ s)::eV
def Cn (s:Nat):Spec:=cF (kC (dQ s) (kC (dQ s) kN)) (fun a=>gn (cr a.1 a.2.1,cq a.1 a.2.1) s) fun _=>[]
def wH (a b:Rat×Rat):Rat:=cq a.1 b.1
def xg (a b:Rat×Rat):Rat:=cr a.2 b.2
def nJ (a b:Rat×Rat):Bool:=!decide (xg a b<wH a b)
def qv (a b:Rat×Rat):Rat×Rat:=if xg a b<wH a b then(0,0)else(wH a b,xg a b)
def Gj (s:Nat):Spec:=cF (kC (Ak s) (kC (Ak s) kN)) (fun a=>.tuple [gn (qv a.1 a.2.1) s,.bool (nJ a.1 a.2.1)]) fun _=>[]
def pP (c:Cu) (s t:Rat):Rat×Rat:=(cr (c.k 0+s*(c.k 3-c.k 0)) (c.k 0+t*(c.k 3-c.k 0)),cq (c.k 0+s*(c.k 3-c.k 0)) (c.k 0+t*(c.k 3-c.k 0)))
def EP:Spec:=cF (kC (gk 1000 1000) kN) (fun a=>gn (a.1.k 0,a.1.k 3) 1000) fun a=>[er a.1,a.1.k 0<a.1.k 3]
def Jn:Spec:=cF (kC (Ak 1000) kN) (fun a=>.rat (a.1.2-a.1.1) 2001) fun _=>[]
def NR:Spec:=cF (kC (gk 1000 1000) (kC (dQ mV) (kC (dQ mV) kN))) (fun a=>gn (pP a.1 a.2.1 a.2.2.1) iI) fun a=>[er a.1,a.1.k 0<a.1.k 3]
def NS (n:Nat):aV:=nG::(59,EP)::(90,Jn)::(33,Cn (1000+(n+2001)+1))::eV
theorem aeL {k:Nat->Rat} {f:Nat->Pl}:bF T KQ [29] 60 f30 (aF f30) ⟨aS 0 [bk (aU k f) 1000 1000],[],0⟩=
  let c5:Rat:=(f (Int.toNat (1:Int))).d;let c4:AV:=rat 0 1;let c3:Prop:=0<1;let c2:Pl:=f (Int.toNat (0:Int));let c1:V3:=(f (i64.wrap ((↑(2:Nat):Int)-1)).toNat).n;some (fork (bif bif (1:Int)!=1 then true else(↑(2:Nat):Int)!=2 then true else !decide (c2.d=c5)) (aj [c3,c3] (leaf ret [agg [c4,c4,c4],agg [c4,c4,c4],AV.bool false])) (aj [c3,c3,c3,c3] (aj [c3,c3] (leaf ret [agg [rat (c2.n.x+0) 1002,rat (c2.n.y+0) 1002,rat (c2.n.z+0) 1002],agg [rat (c1.x+0) 1002,rat (c1.y+0) 1002,rat (c1.z+0) 1002],AV.bool !dY (V3.mk (c2.n.x+0) (c2.n.y+0) (c2.n.z+0)) (V3.mk (c1.x+0) (c1.y+0) (c1.z+0))])))):=ah
theorem acU {a b p:V3} {n:Nat}:bF T MS [22] 60 f31 (aF f31) ⟨aS 0 [vA a n,vA b n,vA p n],[],0⟩=
  let c4:Nat:=2^38;let c3:V3:=V3.mk (b.x-a.x) (b.y-a.y) (b.z-a.z);let c2:Prop:=0<1;let c1:Nat:=n+n+1;let c7:Prop:=c1<=c1;let c6:Nat:=3*(c1+c1)+4;let c5:Nat:=c1+c1+(c1+c1)+1;let c8:Prop:=c6<2^42;some (aj [c2,c2,n<=n,n<=n,n<=n,n<=n,n<c4,n<c4,c2,c2,n<=n,n<=n,n<=n,n<=n,n<c4,n<c4,c2,c2] (aj [c2,c2,c7,c7,c7,c7,c1<c4,c1<c4,c5<=c5,c5<=c5,c5<c4] (fork (!dY (V3.mk ((b.y-a.y)*(p.z-a.z)-(b.z-a.z)*(p.y-a.y)) ((b.z-a.z)*(p.x-a.x)-(b.x-a.x)*(p.z-a.z)) ((b.x-a.x)*(p.y-a.y)-(b.y-a.y)*(p.x-a.x))) v0) (aj [c2] (aj [c2] (leaf ret [agg [AV.bool false,mag 0,mag 0],AV.bool false]))) (aj [c2,c2,c7,c7,c7,c7,c1<c4,c1<c4,c2,c2,c7,c7,c7,c7,c1<c4,c1<c4,c8,c8,c2] (aj [c2,c2] (aj [c2] (leaf ret [rat (dot (V3.mk (p.x-a.x) (p.y-a.y) (p.z-a.z)) c3/dot c3 c3) (c6+c6),AV.bool ((if dot c3 c3=0 then(3:Int)else(0:Int))==0)]))))))):=ah
theorem adQ {r s t:Rat} {n:Nat}:bF T J1 [] 60 f36 (aF f36) ⟨aS 0 [.rat r n,.bn (.rat s n),.bn (.rat t n)],[],0⟩=
  let c3:Nat:=n+n+1;let c2:Prop:=0<1;let c1:Nat:=2^42;some (aj [c2,n<c1,n<c1,n<c1,n<c1,c3<c1,c3<c1,c2] (aj [c2,c2] (aj [c2] (leaf ret [rat ((r-s)/(t-s)) (c3+c3)])))):=ah
theorem aia {x y:Rat} {s:Nat}:bF T (BN s) [] 60 f33 (aF f33) ⟨aS 0 [.rat x s,.rat y s],[],0⟩=
  let c1:Prop:=0<1;some (aj [c1,c1,s<=s,s<=s,c1,c1,s<=s,s<=s,c1] (aj [c1] (leaf ret [agg [rat (cr x y) s,rat (cq x y) s]]))):=ah
theorem TC {x y:Rat×Rat} {s:Nat}:bF T (BN s) [23] 60 f32 (aF f32) ⟨aS 0 [gn x s,gn y s],[],0⟩=
  let c4:AV:=rat 0 1;let c3:Prop:=s<2^42;let c2:Int:=dn (cq x.fst y.fst) (cr x.snd y.snd);let c1:Prop:=0<1;some (aj [c1,c1,s<=s,s<=s,c1,c1,s<=s,s<=s,c1] (aj [c1,c1,c3,c3] (fork (decide (c2>0)) (aj [c1] (aj [c1] (leaf ret [agg [c4,c4],AV.bool false]))) (aj [c1,c1] (aj [c1] (leaf ret [agg [rat (cq x.fst y.fst) s,rat (cr x.snd y.snd) s],AV.bool true])))))):=ah
theorem RJ {k:Nat->Rat} {f:Nat->Pl}:bF T GV [] 60 f59 (aF f59) ⟨aS 0 [bk (aU k f) 1000 1000],[],0⟩=
  let c1:Rat:=k (i64.wrap ((↑(4:Nat):Int)-1)).toNat;some (aj [(0:Nat)<1] (aj [(0:Nat)<1] (leaf ret [agg [rat (cr (k (Int.toNat (0:Int))) c1) 1000,rat (cq (k (Int.toNat (0:Int))) c1) 1000]]))):=ah
theorem Ph {x y:Rat}:bF T (sG::gy) [] 60 f90 (aF f90) ⟨aS 0 [gn (x,y) 1000],[],0⟩=
  some (aj [(0:Nat)<1] (leaf ret [rat (y-x) 2001])):=ah
theorem adr {k:Nat->Rat} {f:Nat->Pl} {s t:Rat} {n:Nat}:bF T (NS n) [] 60 f39 (aF f39) ⟨aS 0 [bk (aU k f) 1000 1000,.rat s n,.rat t n],[],0⟩=
  let c9:Nat:=n+2001;let c7:Rat:=aC (rat (k 3) 1000);let c5:Nat:=2^42;let c4:Prop:=0<1;let c2:Rat:=aC (rat (k 0) 1000);let c8:AV:=rat c2 1000;let c6:AV:=rat c7 1000;let c3:Nat:=1000+c9+1;let c1:Rat:=aC c6-aC c8;some (aj [c4,bQ (fun i=>rat (k i) 1000) 4 1000,ej (fun i=>aJ (f i) 1000) 2 1000,er (Cu.mk (1:Int) 4 (fun i=>aC (rat (k i) 1000)) 2 fun i=>aT (aJ (f i) 1000)),c2<c7,c4] (aj [c4,bp c8 (rat (aC c8) 1000),bp c6 (rat (aC c6) 1000),c4] (aj [c4,c4,c4,n<c5,(2001:Nat)<c5,(1000:Nat)<c5,c9<c5,c4,c4,c4,n<c5,(2001:Nat)<c5,(1000:Nat)<c5,c9<c5,c3<=c3,c3<=c3,c4] (aj [c4] (leaf ret [agg [rat (cr (c2+s*c1) (c2+t*c1)) c3,rat (cq (c2+s*c1) (c2+t*c1)) c3]]))))):=ah
theorem pg:bg P oJ:=aE (gA fun a b K hn=>DM a b K (ek hn)) (aE (gA fun a b K hn=>Dp a b K (ek hn)) (aE (gA fun a b K hn=>M7 a b K (ek hn)) (aE (gA fun a b K hn=>Dm a b K (ek hn)) (aE (Ea fun a K hn=>El a K (HD hn)) (aE (gA fun a b K hn=>Bt a b K (ek hn)) gH)))))
theorem Di:bg P Ah:=aE (cT hT (cB gH) hm NI _ _) (aE (cT hT (cB pg) hm (aM func121) _ _) bD)
theorem NO:aX 59 f59:=aM func59
theorem KA:aX 90 f90:=aM func90
theorem KT:bg P A8:=aE (cT hT (cB Di) hm NO _ _) (aE (cT hT (cB Di) hm (aM func71) _ _) (aE (cT hT (cB gH) hm KA _ _) bD))
theorem aeF:bg P KQ:=cB (iK KT pg)
theorem abU:bg P GV:=cB Di
theorem pL {c:Cu} (h:er c):c=aU c.k c.f:=by
 obtain⟨p,n,k,m,f⟩:=c
 obtain⟨h1,h2,h3⟩:=h
 dsimp only at h1 h2 h3
 subst h1 h2 h3;rfl
theorem jz {k:Nat->Rat} {f:Nat->Pl}:er (aU k f):=⟨rfl,rfl,rfl⟩
theorem VD {v:V3}:V3.mk (v.x+0) (v.y+0) (v.z+0)=v:=lN (Rat.add_zero _) (Rat.add_zero _) (Rat.add_zero _)
theorem XJ:bf P Nt 30:=cC fun⟨c,_⟩ K hn=>by
 dsimp only
 rw[pL (show er c from hn)]
 generalize c.k=k,c.f=f
 refine bM (r:=aH (.tuple [vA (mq (aU k f) 0) 2000,vA (mq (aU k f) 1) 2000,.bool (iG (aU k f))]) []) hT aeF hm Rd rfl aW rfl 60 aeL (fun _=>?_) K []
 have e1:(f (i64.wrap (((2:Nat):Int)-1)).toNat)=f 1:=rfl
 simp only[ag.all,au,VD,e1,Int.toNat_zero,Int.toNat_one,show((1:Int)!=1)=false from rfl,show(((2:Nat):Int)!=2)=false from rfl,cond_false,Bool.not_eq_true',Bool.not_eq_false',bz,bG]
 refine⟨fun h=>⟨aa,?_⟩,fun h=>⟨aa,aa,?_⟩⟩
 ·have q:∀i,mq (aU k f) i=v0:=fun i=>if_neg h
  rw[q,q,show iG (aU k f)=false by unfold iG;simp[h]]
  exact⟨cj ⟨eE (by decide),eE (by decide),eE (by decide),trivial⟩,cj ⟨eE (by decide),eE (by decide),eE (by decide),trivial⟩,.refl _,trivial⟩
 ·have q:∀i,mq (aU k f) i=(f i).n:=fun i=>if_pos h
  rw[q,q,show iG (aU k f)=!dY (f 0).n (f 1).n by unfold iG;simp[h]]
  exact⟨DQ (Rat.add_zero _) (Rat.add_zero _) (Rat.add_zero _) (by decide) (by decide) (by decide),DQ (Rat.add_zero _) (Rat.add_zero _) (Rat.add_zero _) (by decide) (by decide) (by decide),.refl _,trivial⟩
theorem Ou:bg P A3:=aE (fQ fun _ _ K hn=>uG hn.1 hn.2 K) bD
theorem VQ:bg P MS:=eP (aE (fQ DM) (aE (fQ Dp) (aE (fQ Dm) (aE (zh El) Ou))))
theorem YP {a b p:V3} {n s:Nat} (hn:n<2^30) (hs:6*(n+n+1+(n+n+1))+8<=s) (K:Nat):aN P 31 K [vA a n,vA b n,vA p n] [] (aH (.tuple [.rat (pK a b p) s,.bool (mu a b p)]) []):=by
 refine bM (r:=aH (.tuple [.rat (pK a b p) s,.bool (mu a b p)]) []) hT VQ hm XL rfl aW rfl 60 acU (fun _=>?_) K []
 have e1:dot (V3.mk (p.x-a.x) (p.y-a.y) (p.z-a.z)) (V3.mk (b.x-a.x) (b.y-a.y) (b.z-a.z))/dot (V3.mk (b.x-a.x) (b.y-a.y) (b.z-a.z)) (V3.mk (b.x-a.x) (b.y-a.y) (b.z-a.z))=fY a b p:=rfl
 have e2:dot (V3.mk (b.x-a.x) (b.y-a.y) (b.z-a.z)) (V3.mk (b.x-a.x) (b.y-a.y) (b.z-a.z))=dot (bV b a) (bV b a):=rfl
 have e3:dY (V3.mk ((b.y-a.y)*(p.z-a.z)-(b.z-a.z)*(p.y-a.y)) ((b.z-a.z)*(p.x-a.x)-(b.x-a.x)*(p.z-a.z)) ((b.x-a.x)*(p.y-a.y)-(b.y-a.y)*(p.x-a.x))) v0=iO a b p:=rfl
 simp only[ag.all,au,e1,e2,e3,Bool.not_eq_true',Bool.not_eq_false']
 refine⟨aa,aa,fun h=>⟨aa,aa,?_,?_,trivial⟩,fun h=>⟨aa,aa,aa,bC ?_ aa,?_,trivial⟩⟩
 ·rw[show pK a b p=0 from if_neg (by rw[h];decide)]
  exact(k9 (k:=0)).trans (eE aa)
 ·rw[show mu a b p=false by unfold mu;rw[h];rfl];exact .refl _
 ·exact(if_pos h).symm
 ·rw[show((if dot (bV b a) (bV b a)=0 then(3:Int)else 0)==0)=mu a b p by unfold mu;rw[h];by_cases g:dot (bV b a) (bV b a)=0<;>simp[g]]
  exact .refl _
theorem Uh:bf P LF 31:=cC fun⟨a,b,p,_⟩ K _=>YP (by decide) (by decide) K
theorem ahH:bg P J1:=eP (iK Ou fB)
theorem Qx {r s t:Rat} {n w:Nat} (hn:n<2^38) (hw:4*n+2<=w) (K:Nat):aN P 36 K [.rat r n,.bn (.rat s n),.bn (.rat t n)] [] (aH (.rat (cI s t r) w) []):=by
 refine bM (r:=aH (.rat (cI s t r) w) []) hT ahH hm abj rfl aW rfl 60 adQ (fun _=>?_) K []
 simp only[ag.all,au]
 (repeat' with_reducible refine And.intro ?_ ?_)
 all_goals first|omega|exact bC rfl aa
theorem Qg:bf P K8 36:=cC fun⟨r,s,t,_⟩ K _=>Qx (by decide) (by decide) K
theorem Qu {s:Nat} (hs:s<2^42):bf P (Gc s) 78:=cC fun⟨x,y,_⟩ K _=>by
 have:=JL (q:=x) (r:=y) hs hs K;rw[Nat.max_self]at this;exact this
theorem ahI {s:Nat} (hs:s<2^42):bf P (NQ s) 77:=cC fun⟨x,y,_⟩ K _=>by
 have:=E6 (q:=x) (r:=y) hs hs K;rw[Nat.max_self]at this;exact this
theorem Nn {s:Nat} (hs:s<2^42):bg P (BN s):=eP (aE (Qu hs) (aE (ahI hs) fB))
theorem G4 {s:Nat} (hs:s<2^42):bf P (Cn s) 33:=cC fun⟨x,y,_⟩ K _=>by
 refine bM (r:=aH (gn (cr x y,cq x y) s) []) hT (Nn hs) hm NI rfl aW rfl 60 aia (fun _=>?_) K []
 simp only[ag.all,au]
 (repeat' with_reducible refine And.intro ?_ ?_)
 all_goals first|omega|exact .refl _
theorem HS {x y:Rat×Rat} {s:Nat} (h1:1<=s):(dn (cq x.1 y.1) (cr x.2 y.2)>0->dA [.agg [.rat 0 1,.rat 0 1],.bool false] [gn (qv x y) s,.bool (nJ x y)])/\(¬dn (cq x.1 y.1) (cr x.2 y.2)>0->dA [.agg [.rat (cq x.1 y.1) s,.rat (cr x.2 y.2) s],.bool true] [gn (qv x y) s,.bool (nJ x y)]):=by
 have e:dn (cq x.1 y.1) (cr x.2 y.2)>0↔xg x y<wH x y:=decide_eq_decide.1 Zk
 unfold qv nJ
 rw[e]
 refine⟨fun h=>?_,fun h=>?_⟩
 ·rw[if_pos h,decide_eq_true h];exact⟨cj ⟨eE h1,eE h1,trivial⟩,.refl _,trivial⟩
 ·rw[if_neg h,decide_eq_false h];exact⟨.refl _,.refl _,trivial⟩
theorem afr {s:Nat} (h1:1<=s) (hs:s<2^42):bf P (Gj s) 32:=cC fun⟨x,y,_⟩ K _=>by
 refine bM (r:=aH (.tuple [gn (qv x y) s,.bool (nJ x y)]) []) hT (Nn hs) hm ahB rfl aW rfl 60 TC (fun _=>?_) K []
 simp only[ag.all,au,bz,bG]
 exact⟨aa,aa,fun h=>⟨aa,aa,(HS h1).1 h⟩,fun h=>⟨aa,aa,(HS h1).2 h⟩⟩
theorem Dq {q:Rat} {n:Nat}:aC (.rat q n)=q:=rfl
theorem OO {a b:Rat} (h:a<b):cr a b=a/\cq a b=b:=by unfold cr cq;grind
theorem HH:bf P EP 59:=cC fun⟨c,_⟩ K hn=>by
 dsimp only
 have hl:c.k 0<c.k 3:=hn.2
 rw[pL (show er c from hn.1)]
 generalize c.k=k at hl
 generalize c.f=f
 obtain⟨m1,m2⟩:=OO hl
 refine bM (r:=aH (gn (k 0,k 3) 1000) []) hT abU hm NO rfl aW rfl 60 RJ (fun _=>?_) K []
 have e3:(i64.wrap (((4:Nat):Int)-1)).toNat=3:=rfl
 simp only[ag.all,au,e3,Int.toNat_zero,m1,m2]
 exact⟨aa,aa,.refl _⟩
theorem YI:bf P Jn 90:=cC fun⟨⟨x,y⟩,_⟩ K _=>by
 refine bM (r:=aH (.rat (y-x) 2001) []) hT (cB gH) hm KA rfl aW rfl 60 Ph (fun _=>?_) K []
 simp only[ag.all,au]
 exact⟨aa,.refl _⟩
theorem afM {n:Nat} (hn:n<2^38):bg P (NS n):=eP (aE HH (aE YI (aE (G4 aa) fB)))
theorem adR {k:Nat->Rat} {f:Nat->Pl} {s t:Rat} {n w:Nat} (hk:k 0<k 3) (hn:n<2^38) (hw:n+3002<=w) (K:Nat):aN P 39 K [bk (aU k f) 1000 1000,.rat s n,.rat t n] [] (aH (gn (pP (aU k f) s t) w) []):=by
 refine bM (r:=aH (gn (pP (aU k f) s t) w) []) hT (afM hn) hm WK rfl aW rfl 60 adr (fun _=>?_) K []
 simp only[ag.all,au,Dq]
 (repeat' with_reducible refine And.intro ?_ ?_)
 all_goals first|(with_reducible exact bp.refl _)|(with_reducible exact cV aR)|(with_reducible exact jt aR)|exact jz|exact hk|(with_reducible exact Nat.le_refl _)|(with_reducible exact cj ⟨bC rfl aa,bC rfl aa,trivial⟩)|skip
 all_goals first|omega|skip
 have e:1000+(n+2001)+1<=w:=by grind
 generalize 1000+(n+2001)+1=q at e
 exact cj ⟨bC rfl e,bC rfl e,trivial⟩
theorem adN:bf P NR 39:=cC fun⟨c,s,t,_⟩ K hn=>by
 dsimp only
 have hl:c.k 0<c.k 3:=hn.2
 rw[pL (show er c from hn.1)]
 exact adR hl (by decide) (by decide) K
theorem ah9:aX 9 f9:=aM func9
def MI:aV:=sG::(30,Nt)::(31,LF)::(39,NR)::(36,K8)::(32,Gj gT)::(33,Cn gT)::zV::(35,gj dR dR wO (b2 42))::[]
def kj (c d:Cu):Bool:=iG c&&(iG d&&(iO (c.f 0).n (c.f 1).n (d.f 0).n&&iO (c.f 0).n (c.f 1).n (d.f 1).n))
def hH (c d:Cu):Rat:=fY (c.f 0).n (c.f 1).n (d.f 0).n
def ir (c d:Cu):Rat:=fY (c.f 0).n (c.f 1).n (d.f 1).n
def cW (c d:Cu):Rat×Rat:=fo (hH c d) (ir c d)
def dO (c d:Cu):Bool:=kj c d&&decide ((cW c d).1<(cW c d).2)
def e9 (c d:Cu):Rat×Rat:=if dO c d=true then pP c (cW c d).1 (cW c d).2 else(0,0)
def ic (c d:Cu):Rat×Rat:=if dO c d=true then pP d (cI (hH c d) (ir c d) (cW c d).1) (cI (hH c d) (ir c d) (cW c d).2)else(0,0)
def A9:Spec:=cF (kC (gk 1000 1000) (kC (gk 1000 1000) kN)) (fun a=>.tuple [gn (e9 a.1 a.2.1) iI,gn (ic a.1 a.2.1) iI,.bool (dO a.1 a.2.1)]) fun a=>[er a.1,er a.2.1,a.1.k 0<a.1.k 3,a.2.1.k 0<a.2.1.k 3]
theorem WU {k h:Nat->Rat} {f g:Nat->Pl}:bF T MI [33,36,55,58,73,79] 200 f9 (aF f9) ⟨aS 0 [bk (aU k f) 1000 1000,bk (aU h g) 1000 1000],[],0⟩=
  let c30:Prop:=gT<=gT;let c29:Prop:=0<1;let c28:Prop:=ej (fun i=>aJ (f i) 1000) 2 1000;let c27:Prop:=ej (fun i=>aJ (g i) 1000) 2 1000;let c26:Prop:=bQ (fun i=>rat (k i) 1000) 4 1000;let c25:Prop:=bQ (fun i=>rat (h i) 1000) 4 1000;let c23:AV:=rat 0 1;let bK:AV:=rat (cr (↑(0:Int):Rat) (↑(1:Int):Rat)) gT;let c19:AV:=rat (cq (↑(0:Int):Rat) (↑(1:Int):Rat)) gT;let c18:Rat:=aC (rat (h 3) 1000);let c17:Rat:=aC (rat (k 3) 1000);let c14:Rat:=aC (rat (h 0) 1000);let c13:Rat:=aC (rat (k 0) 1000);let c12:Prop:=2000<=2000;let c4:Cu:=Cu.mk (1:Int) 4 (fun i=>aC (rat (h i) 1000)) 2 fun i=>aT (aJ (g i) 1000);let c3:Cu:=Cu.mk (1:Int) 4 (fun i=>aC (rat (k i) 1000)) 2 fun i=>aT (aJ (f i) 1000);let c38:V3:=mq c3 1;let c37:V3:=mq c4 1;let c36:V3:=mq c3 0;let c31:List Prop:=[c12,c12,c12,c12,c12,c12,c12,c12,c12];let c21:V3:=mq c4 0;let c10:ag (List AV):=aj [c29,c29] (leaf ret [agg [c23,c23],agg [c23,c23],AV.bool false]);let c9:Rat×Rat:=(aC bK,aC c19);let c41:V3:=V3.mk c21.x c21.y c21.z;let c22:V3:=V3.mk c37.x c37.y c37.z;let c16:V3:=V3.mk c38.x c38.y c38.z;let c15:V3:=V3.mk c36.x c36.y c36.z;let c11:Bool:=!mu c15 c16 c41;let c8:Rat:=pK c15 c16 c22;let c7:Rat:=pK c15 c16 c41;let c33:AV:=rat (cq c7 c8) gT;let c32:AV:=rat (cr c7 c8) gT;let c2:Rat×Rat:=(aC c32,aC c33);let c24:Rat×Rat:=qv c2 c9;let c40:Rat:=c13+c24.snd*(c17-c13);let c39:Rat:=c13+c24.fst*(c17-c13);let c35:Rat:=c14+cI c7 c8 c24.fst*(c18-c14);let c34:Rat:=c14+cI c7 c8 c24.snd*(c18-c14);let c5:ag (List AV):=aj [c26,c28,gT<=mV,gT<=mV,er c3,c13<c17,c30,c30,c30,c30,c30,c30,c25,c27,mV<=mV,mV<=mV,er c4,c14<c18] (aj [c29,c29] (leaf ret [agg [rat (cr c39 c40) 400000,rat (cq c39 c40) 400000],agg [rat (cr c35 c34) 400000,rat (cq c35 c34) 400000],AV.bool true]));let c1:ag (List AV):=aj [c30,c30,Max.max 1 (bN (Int.natAbs (0:Int)))<=gT,Max.max 1 (bN (Int.natAbs (1:Int)))<=gT,bp c32 (rat (aC c32) gT),bp c33 (rat (aC c33) gT),bp bK (rat (aC bK) gT),bp c19 (rat (aC c19) gT)] (fork (!nJ c2 c9) (aj [(!nJ c2 c9)=true] (fork true c10 c5)) (aj [(!nJ c2 c9)=false] (fork (bif false then true else decide (c24.fst=c24.snd)) c10 c5)));let c6:ag (List AV):=aj c31 (aj c31 (fork c11 (aj [c11=true] (fork true c10 c1)) (aj [c11=false] (fork (bif false then true else !mu c15 c16 c22) c10 c1))));some (aj [c26,c28,er c3] (aj [c25,c27,er c4] (fork (!iG c3) (aj [(!iG c3)=true] (fork true c10 c6)) (aj [(!iG c3)=false] (fork (bif false then true else !iG c4) c10 c6))))):=ah
theorem Yp:bg P MI:=cB (aE XJ (aE Uh (aE adN (aE Qg (aE (afr (by decide) (by decide)) (aE (G4 (by decide)) (aE H6 (aE (gA fun _ _ K hn=>C1 (v8 (ek hn).1) (v8 (ek hn).2) K []) bD))))))))
theorem rU {c d:Cu} (h:dO c d=false):dA [.agg [.rat 0 1,.rat 0 1],.agg [.rat 0 1,.rat 0 1],.bool false] [gn (e9 c d) iI,gn (ic c d) iI,.bool (dO c d)]:=by
 have hn:¬dO c d=true:=by rw[h];decide
 have z:bp (.agg [.rat 0 1,.rat 0 1]) (gn (0,0) iI):=cj ⟨eE (by decide),eE (by decide),trivial⟩
 rw[show e9 c d=(0,0)from if_neg hn,show ic c d=(0,0)from if_neg hn,h]
 exact⟨z,z,.refl _,trivial⟩
theorem wV {c:Cu} (h:iG c=true):(∀i,mq c i=(c.f i).n)/\(c.f 0).n≠(c.f 1).n:=by
 unfold iG at h
 simp only[Bool.and_eq_true,bz,Bool.not_eq_true']at h
 exact⟨fun i=>if_pos h.1,fun e=>absurd (lX.2 e) (by rw[h.2];decide)⟩
theorem PG {a b p:V3} (h:a≠b):mu a b p=iO a b p:=by
 unfold mu;rw[decide_eq_false (zC h)];simp
theorem G9 {q:Pl} {n:Nat}:aT (aJ q n)=q:=rfl
theorem agD {u v:Rat}:wH (cr u v,cq u v) (cr ((0:Int):Rat) ((1:Int):Rat),cq ((0:Int):Rat) ((1:Int):Rat))=(fo u v).1/\xg (cr u v,cq u v) (cr ((0:Int):Rat) ((1:Int):Rat),cq ((0:Int):Rat) ((1:Int):Rat))=(fo u v).2:=by
 rw[show cr ((0:Int):Rat) ((1:Int):Rat)=0 by decide+kernel,show cq ((0:Int):Rat) ((1:Int):Rat)=1 by decide+kernel]
 exact⟨rfl,rfl⟩
theorem aeZ {k h:Nat->Rat} {f g:Nat->Pl} (hk:k 0<k 3) (hh:h 0<h 3) (K:Nat):aN P 9 K [bk (aU k f) 1000 1000,bk (aU h g) 1000 1000] [] (aH (.tuple [gn (e9 (aU k f) (aU h g)) iI,gn (ic (aU k f) (aU h g)) iI,.bool (dO (aU k f) (aU h g))]) []):=by
 refine bM (r:=aH (.tuple [gn (e9 (aU k f) (aU h g)) iI,gn (ic (aU k f) (aU h g)) iI,.bool (dO (aU k f) (aU h g))]) []) hT Yp hm ah9 rfl aW rfl 200 WU (fun _=>?_) K []
 have r1:bQ (fun i=>.rat (k i) 1000) 4 1000:=cV aR
 have r2:bQ (fun i=>.rat (h i) 1000) 4 1000:=cV aR
 have r3:ej (fun i=>aJ (f i) 1000) 2 1000:=jt aR
 have r4:ej (fun i=>aJ (g i) 1000) 2 1000:=jt aR
 have r5:er (aU k f):=jz
 have r6:er (aU h g):=jz
 have r7:gT<=mV:=by decide
 have r8:max 1 (bN (Int.natAbs 0))<=gT:=by decide+kernel
 have r9:max 1 (bN (Int.natAbs 1))<=gT:=by decide+kernel
 have v1:∀p:V3,V3.mk p.x p.y p.z=p:=fun _=>rfl
 have z1:(0:Nat)<1:=by decide
 have av:∀v,bp v v:=fun v=>.refl v
 simp only[ag.all,au,Dq,G9,v1,r1,r2,r3,r4,r5,r6,r7,r8,r9,z1,av,hk,hh,Nat.le_refl,and_true,true_and]
 cases q1:iG (aU k f)with
 |false=>
  have hf:dO (aU k f) (aU h g)=false:=by unfold dO kj;rw[q1];rfl
  simp only[Bool.not_false,Bool.not_true,cond_false,cond_true,reduceCtorEq,false_implies,true_implies,and_true,true_and]
  exact rU hf
 |true=>
  cases q2:iG (aU h g)with
  |false=>
   have hf:dO (aU k f) (aU h g)=false:=by unfold dO kj;rw[q1,q2];rfl
   simp only[Bool.not_false,Bool.not_true,cond_false,cond_true,reduceCtorEq,false_implies,true_implies,and_true,true_and]
   exact rU hf
  |true=>
   obtain⟨p1,n1⟩:=wV q1
   obtain⟨p2,n2⟩:=wV q2
   simp only[p1,p2,PG n1,Bool.not_false,Bool.not_true,cond_false,cond_true,reduceCtorEq,false_implies,true_implies,and_true,true_and]
   cases q3:iO (f 0).n (f 1).n (g 0).n with
   |false=>
    have hf:dO (aU k f) (aU h g)=false:=by unfold dO kj;rw[q1,q2];simp only[q3];rfl
    simp only[Bool.not_false,Bool.not_true,cond_false,cond_true,reduceCtorEq,false_implies,true_implies,and_true,true_and]
    exact rU hf
   |true=>
    cases q4:iO (f 0).n (f 1).n (g 1).n with
    |false=>
     have hf:dO (aU k f) (aU h g)=false:=by unfold dO kj;rw[q1,q2];simp only[q3,q4];rfl
     simp only[Bool.not_false,Bool.not_true,cond_false,cond_true,reduceCtorEq,false_implies,true_implies,and_true,true_and]
     exact rU hf
    |true=>
     have a1:pK (f 0).n (f 1).n (g 0).n=hH (aU k f) (aU h g):=if_pos q3
     have a2:pK (f 0).n (f 1).n (g 1).n=ir (aU k f) (aU h g):=if_pos q4
     have hb:kj (aU k f) (aU h g)=true:=by unfold kj;rw[q1,q2];simp only[q3,q4];rfl
     have hx:∀{b:Bool},decide ((cW (aU k f) (aU h g)).1<(cW (aU k f) (aU h g)).2)=b->dO (aU k f) (aU h g)=b:=fun e=>by unfold dO;rw[hb,e];rfl
     obtain⟨l1,l2⟩:=agD (u:=hH (aU k f) (aU h g)) (v:=ir (aU k f) (aU h g))
     have x0:fo (hH (aU k f) (aU h g)) (ir (aU k f) (aU h g))=cW (aU k f) (aU h g):=rfl
     simp only[a1,a2,nJ,qv,l1,l2,x0,Bool.not_false,Bool.not_true,cond_false,cond_true,reduceCtorEq,false_implies,true_implies,and_true,true_and,Bool.not_not,bz,bG]
     by_cases g1:(cW (aU k f) (aU h g)).2<(cW (aU k f) (aU h g)).1
     ·have hf:=hx (decide_eq_false (p:=(cW (aU k f) (aU h g)).1<(cW (aU k f) (aU h g)).2) (by grind))
      simp only[g1,true_implies,not_true_eq_false,false_implies,and_true]
      exact⟨trivial,rU hf⟩
     ·simp only[g1,if_false,false_implies,not_false_eq_true,true_implies,true_and]
      by_cases g2:(cW (aU k f) (aU h g)).1=(cW (aU k f) (aU h g)).2
      ·have hf:=hx (decide_eq_false (p:=(cW (aU k f) (aU h g)).1<(cW (aU k f) (aU h g)).2) (by grind))
       refine⟨fun _=>rU hf,fun h=>absurd g2 h⟩
      ·have ht:=hx (decide_eq_true (p:=(cW (aU k f) (aU h g)).1<(cW (aU k f) (aU h g)).2) (by grind))
       refine⟨fun h=>absurd h g2,fun _=>?_⟩
       rw[show e9 (aU k f) (aU h g)=pP (aU k f) (cW (aU k f) (aU h g)).1 (cW (aU k f) (aU h g)).2 from if_pos ht,show ic (aU k f) (aU h g)=pP (aU h g) (cI (hH (aU k f) (aU h g)) (ir (aU k f) (aU h g)) (cW (aU k f) (aU h g)).1) (cI (hH (aU k f) (aU h g)) (ir (aU k f) (aU h g)) (cW (aU k f) (aU h g)).2)from if_pos ht,ht]
       exact⟨.refl _,.refl _,.refl _,trivial⟩
theorem Nr:bf P A9 9:=cC fun⟨c,d,_⟩ K hn=>by
 dsimp only
 obtain⟨h1,h2,h3,h4⟩:er c/\er d/\c.k 0<c.k 3/\d.k 0<d.k 3:=hn
 rw[pL h1,pL h2]
 exact aeZ h3 h4 K
theorem adF {c:Cu} (h:c.k 0<c.k 3) (a b:Rat):c.k 0+a*(c.k 3-c.k 0)<c.k 0+b*(c.k 3-c.k 0)↔a<b:=by
 have:=oY (show 0<c.k 3-c.k 0 by grind) (a:=a) (b:=b)
 grind
theorem Ao {c:Cu} (h:c.k 0<c.k 3) {a b:Rat}:pP c a b=(c.k 0+cr a b*(c.k 3-c.k 0),c.k 0+cq a b*(c.k 3-c.k 0)):=by
 obtain⟨h1,h2⟩:=Bf (f:=fun r=>c.k 0+r*(c.k 3-c.k 0)) (fun a b=>adF h a b) a b
 exact Prod.ext h2.symm h1.symm
theorem aif:aX 202 f202:=aM func202
theorem acE:aX 48 f48:=aM func48
def ig:aV:=nG::gy
def yw:aV:=nG::jU
abbrev sK:Nat:=4096
abbrev ls (k:Nat->Rat) (n:Nat):AV:=bq k n sK
abbrev tP (t:Rat) (s:Nat):az:=⟨false,true,3,1,fun _=>.rat t s⟩
abbrev wD:List Nat:=[0,5,8,9,6,7]
abbrev B2 (n:Nat) (k:Nat->Rat) (l i:Nat):List AV:=[ls k n,.ptr 0 0 3 0 [],.int .i64 l,.int .i64 i,.int .i64 0,.int .i64 0]
abbrev vG:Code:=aF f202
theorem aag {n:Nat} {k:Nat->Rat} {p:Int} {t:Rat}:aL T ig [200013,21,31] 60 wD (before vG [1,1,1,0,1]) ⟨aS 0 [ls k n,.int .i64 p,.rat t sK],[],0⟩=
  let c11:Prop:=((↑n:Int)==0)=false;let c10:Prop:=0<1;let c9:AV:=ak 3 n fun i=>rat (k i) 4096;let c8:Nat:=Int.toNat (0:Int);let c7:AV:=ptr 0 0 (bE (rat t sK)).size 0 [];let c6:AV:=int i64 0;let c5:Nat×az:=(0,az.mk false true (bE (rat t sK)).size 1 fun x=>rat t 4096);let c4:Int:=(↑n:Int)-1;let c12:Prop:=(0:Int)<=0/\c8<n;let c3:Bool:=bif false then true else decide (dn t (k c8)<0);let c2:ag (List AV×aD):=leaf ret ([c9,c7,tuple [],tuple [],c6,int i64 7],[c5]);let c1:ag (List AV×aD):=leaf normal ([c9,c7,c6,c6,c6,c6],[c5]);some (fork c3 (aj [c11,c10,c12,c3=true] (fork true c2 c1)) (aj [c11,c10,c12,c3=false,c10,-(2:Int)^63<=c4/\c4<2^63,(0:Int)<=c4/\c4.toNat<n] (fork (bif false then true else decide (dn t (k c4.toNat)>0)) c2 c1))):=ah
theorem agQ {n l i:Nat} {k:Nat->Rat} {t:Rat}:aL T ig [36,49,58] 60 wD [part vG [1,1,1,0,1,0,0]] ⟨aG wD (B2 n k l i),[(0,tP t sK)],1⟩=
  let c7:Int:=(↑i:Int);let c6:List AV:=[int i64 0,int i64 0];let c5:AV:=ptr 0 0 3 0 [];let c4:AV:=ak 3 n fun i=>rat (k i) 4096;let c2:Nat×az:=((0:Nat),bL fun x=>rat t 4096);let c10:AV:=int i64 c7;let c1:Int:=c7+1;let c8:Int:=dn (k c7.toNat) (k c1.toNat);let c3:Prop:=-(2:Int)^63<=c1/\c1<2^63;let c9:List Prop:=[c3,(0:Int)<=c1/\c1.toNat<n];some (aj [c3] (fork (decide (c1<(↑n:Int))) (aj (((0:Int)<=c7/\c7.toNat<n)::c9) (fork (decide (c8>=0)) (aj [c3] (leaf normal (c4::c5::int i64 (↑l:Int)::int i64 c1::c6,[c2]))) (aj (((0:Nat)<1)::c9) (fork (decide (dn t (k c1.toNat)<0)) (leaf (exit 0) (c4::c5::c10::c10::c6,[c2])) (aj [c3] (leaf normal (c4::c5::c10::int i64 c1::c6,[c2]))))))) (leaf (exit 0) (c4::c5::int i64 (↑l:Int)::c10::c6,[c2])))):=ah
theorem aeR {n l i:Nat} {k:Nat->Rat} {t:Rat}:cP T ig [] 60 f202 [part vG [1,1,1,1]] ⟨aG wD (B2 n k l i),[(0,tP t sK)],1⟩=
  some (leaf ret [int i64 (↑l:Int),int i64 0]):=ah
abbrev vQ:List Nat:=[0,5,9,6,7]
abbrev wU (n:Nat) (k:Nat->Rat) (i:Nat):List AV:=[ls k n,.ptr 0 0 3 0 [],.int .i64 i,.int .i64 0,.int .i64 0]
abbrev vw:Code:=aF f48
theorem RO {n p:Nat} {k:Nat->Rat} {t:Rat}:aL T yw [19,27] 60 vQ (before vw [1,1,1,1,0]) ⟨aS 0 [ls k n,.int .i64 p,.rat t sK],[],0⟩=
  let c13:AV:=int i64 0;let c12:Prop:=0<1;let c10:Prop:=(0:Int)<=0/\Int.toNat (0:Int)<n;let c9:AV:=ak 3 n fun i=>rat (k i) 4096;let c7:AV:=ptr 0 0 (bE (rat t sK)).size 0 [];let c6:Nat×az:=(0,az.mk false true (bE (rat t sK)).size 1 fun x=>rat t 4096);let c5:Int:=(2:Int)^63;let c4:Int:=dn t (k (Int.toNat (0:Int)));let c3:Int:=(↑n:Int)-1;let c14:Int:=c3-(↑p:Int);let c11:Bool:=decide (c4<0);let c2:ag (List AV×aD):=leaf ret ([c9,c7,tuple [],c13,int i64 7],[c6]);let c8:Int:=c14-1;let c1:ag (List AV×aD):=aj [-c5<=c14/\c14<c5,-c5<=c8/\c8<c5] (leaf normal ([c9,c7,int i64 c8,c13,c13],[c6]));some (aj [-c5<=c3/\c3<c5] (fork c11 (aj [c12,c10,c11=true] (fork true c2 c1)) (aj [c12,c10,c11=false,c12,(0:Int)<=c3/\c3.toNat<n] (fork (bif false then true else decide (dn t (k c3.toNat)>0)) c2 c1)))):=ah
theorem Ze {n i:Nat} {k:Nat->Rat} {t:Rat}:aL T yw [34,42] 60 vQ [part vw [1,1,1,1,0,0,0]] ⟨aG vQ (wU n k i),[(0,tP t sK)],1⟩=
  let c7:AV:=int i64 0;let c6:AV:=ptr 0 0 3 0 [];let c5:AV:=ak 3 n fun i=>rat (k i) 4096;let c4:Nat×az:=((0:Nat),bL fun x=>rat t 4096);let c3:Int:=(↑i:Int);let c9:Int:=c3-1;let c8:Bool:=decide (c3>0);let c2:ag (List AV×aD):=leaf (exit 0) ([c5,c6,int i64 c3,c7,c7],[c4]);let c1:ag (List AV×aD):=aj [-(2:Int)^63<=c9/\c9<2^63] (leaf normal ([c5,c6,int i64 c9,c7,c7],[c4]));some (fork c8 (aj [c8=true,(0:Nat)<1,(0:Int)<=c3/\c3.toNat<n] (fork (bif true then decide (dn t (k c3.toNat)<0)else false) c1 c2)) (aj [c8=false] (fork false c1 c2))):=ah
theorem aid {n i:Nat} {k:Nat->Rat} {t:Rat}:cP T yw [] 60 f48 [part vw [1,1,1,1,1]] ⟨aG vQ (wU n k i),[(0,tP t sK)],1⟩=
  some (leaf ret [int i64 (↑i:Int),int i64 0]):=ah
theorem l6:bg P ig:=eP gH
theorem aeo:bg P yw:=eP j8
theorem k8 {q:Rat} {n:Nat}:aC (.rat q n)=q:=rfl
theorem PI:max 1 (bN (Int.natAbs 1))=1:=by decide
theorem ta {a b:Rat}:dn a b>=0↔b<=a:=by
 have:=@oD a b
 constructor
 ·intro h
  have:¬a<b:=fun h'=>by have:=oD.2 h';omega
  grind
 ·intro h
  have:¬dn a b<0:=fun h'=>by have:=oD.1 h';grind
  omega
theorem m8 {rl:List (Nat×Nat)} {l i s s' s2:Nat} {x y:Nat->Rat} {t:Rat} (hx:∀i,i<l->x i=y i) (ht:t=y l) (h1:s<=s2) (h2:s'<=s2) (hi:i<l+1):iz rl (if i<l then .rat (x i) s else nth [.rat t s'] (.rat 0 1) (i-l+0)) (.rat (y i) s2):=by
 by_cases h:i<l
 ·rw[if_pos h,hx i h];exact .inr ⟨rfl,bC rfl h1⟩
 ·have:i=l:=aa
  subst this
  rw[if_neg h,Nat.sub_self,ht]
  exact .inr ⟨rfl,bC rfl h2⟩
theorem WQ {rl:List (Nat×Nat)} {i s' s2:Nat} {y:Nat->Rat} {t:Rat} (ht:t=y 0) (h2:s'<=s2) (hi:i<1):iz rl (nth [.rat t s'] (.rat 0 1) (i+0)) (.rat (y i) s2):=by
 have:i=0:=aa
 subst this
 rw[ht]
 exact .inr ⟨rfl,bC rfl h2⟩
def fk (n:Nat) (k:Nat->Rat) (t:Rat):Prop:=t<k 0\/k (n-1)<t
instance {n:Nat} {k:Nat->Rat} {t:Rat}:Decidable (fk n k t):=inferInstanceAs (Decidable (t<k 0\/k (n-1)<t))
def jK (n:Nat) (k:Nat->Rat) (t:Rat):Nat:=if fk n k t then 0 else bY n k t
def g9 (n:Nat) (k:Nat->Rat) (t:Rat):Int:=if fk n k t then 7 else 0
abbrev q9 (n:Nat) (k:Nat->Rat) (t:Rat):AV:=.tuple [.int .i64 (jK n k t),.int .i64 (g9 n k t)]
theorem zK {n:Nat} {k:Nat->Rat} {t:Rat} (h:fk n k t):fA [.int .i64 0,.int .i64 7] (q9 n k t):=
 ⟨bW (by unfold jK;rw[if_pos h];rfl),bW (by unfold g9;rw[if_pos h]),trivial⟩
theorem G0 {n i:Nat} {k:Nat->Rat} {t:Rat} (h:¬fk n k t) (hi:i=bY n k t):fA [.int .i64 i,.int .i64 0] (q9 n k t):=
 ⟨bW (by unfold jK;rw[if_neg h,hi]),bW (by unfold g9;rw[if_neg h]),trivial⟩
abbrev uf (k:Nat->Rat) (t:Rat) (i:Nat):Nat:=k7 (fun i=>decide (k i<k (i+1))&&decide (k i<=t)) i
theorem F1 {g:Nat->Bool} {m:Nat}:k7 g (m+1)=if g m then m else k7 g m:=rfl
theorem agy {n p0:Nat} {k:Nat->Rat} {p:Int} {t:Rat} (h:Kn n p0 k) (hn:n<2^40) (K:Nat):aN P 202 K [ls k n,.int .i64 p,.rat t sK] [] (aH (q9 n k t) []):=by
 have hp:=h.p1
 have hl:=h.len
 refine iu (r:=aH (q9 n k t) []) hT l6 hm aif rfl aW rfl [1,1,1,0,1] (i:=0) (y:=part vG [1,1,1,0,1,0,0]) (z:=part vG [1,1,1,1]) ah ah ah (f1:=[200013,21,31]) (f2:=[36,49,58]) (f3:=[]) 60 wD 1
  (fun a:Nat×Nat=>B2 n k a.2 a.1) (fun _=>[(0,tP t sK)]) (fun a=>a.1+1<=n/\a.2=uf k t a.1/\k a.1<=t/\¬fk n k t) (fun a=>a.2=bY n k t/\¬fk n k t) (fun a=>n-a.1) (fun _=>⟨⟨_,aag,?_⟩,fun⟨i,l⟩ ⟨h1,h2,h3,h4⟩=>⟨_,agQ,?_⟩,fun⟨i,l⟩ ⟨h1,h2⟩=>⟨_,aeR,G0 h2 h1⟩⟩) K []
 ·simp only[ag.all,au,bz,bG,oD,qW,cond_false,Int.toNat_zero,beq_eq_false_iff_ne,ne_eq,show((n:Int)-1).toNat=n-1 by omega]
  (repeat' with_reducible first|refine And.intro ?_ ?_|intro _)
  all_goals first|omega|assumption|skip
  ·exact⟨_,ah,zK (.inl ‹_›)⟩
  ·exact absurd ‹true=false› (by decide)
  ·exact⟨_,ah,zK (.inr ‹_›)⟩
  ·rename_i a b
   have hin:¬fk n k t:=fun h=>h.elim (fun h=>a h) fun h=>b h
   exact⟨(0,0),⟨aa,rfl,by show k 0<=t;grind,hin⟩,[(0,0)],rfl,rfl,rfl,aY trivial⟩
 ·have hs:∀i,i+1<n->k i<=k (i+1):=h.sorted
  simp only at h1 h2 h3
  simp only[ag.all,au,bz,bG,oD,ta,br,show((i:Int)+1).toNat=i+1 by omega]
  (repeat' with_reducible first|refine And.intro ?_ ?_|intro _)
  all_goals first|omega|assumption|skip
  ·rename_i hi hge
   have:=hs i aa
   have e:uf k t (i+1)=uf k t i:=by
    have:¬k i<k (i+1):=by grind
    rw[uf,F1,if_neg (by simp[this])]
   exact⟨(i+1,l),⟨aa,h2.trans e.symm,by show k (i+1)<=t;grind,h4⟩,by dsimp only;omega,[(0,0)],rfl,rfl,rfl,aY trivial⟩
  ·rename_i hi hlt hb
   have:k i<k (i+1):=by grind
   have hiv:bY n k t=i:=tv ⟨⟨aa,hs,this⟩,h3,by grind,.inl hb⟩
   exact⟨rfl,(i,i),⟨hiv.symm,h4⟩,[(0,0)],rfl,rfl,rfl,aY trivial⟩
  ·rename_i hi hlt hb
   have:k i<k (i+1):=by grind
   have e:uf k t (i+1)=i:=by
    rw[uf,F1,if_pos (by simp[this,h3])]
   exact⟨(i+1,i),⟨aa,e.symm,by show k (i+1)<=t;grind,h4⟩,by dsimp only;omega,[(0,0)],rfl,rfl,rfl,aY trivial⟩
  ·have hin:i=n-1:=aa
   subst hin
   exact⟨rfl,(n-1,l),⟨h2,h4⟩,[(0,0)],rfl,rfl,rfl,aY trivial⟩
theorem VB {n p:Nat} {k:Nat->Rat} {t:Rat} (h:Kn n p k) (hn:n<2^40) (K:Nat):aN P 48 K [ls k n,.int .i64 p,.rat t sK] [] (aH (q9 n k t) []):=by
 have hp:=h.p1
 have hl:=h.len
 refine iu (r:=aH (q9 n k t) []) hT aeo hm acE rfl aW rfl [1,1,1,1,0] (i:=0) (y:=part vw [1,1,1,1,0,0,0]) (z:=part vw [1,1,1,1,1]) ah ah ah (f1:=[19,27]) (f2:=[34,42]) (f3:=[]) 60 vQ 1
  (fun i:Nat=>wU n k i) (fun _=>[(0,tP t sK)]) (fun i=>i+p+2<=n/\(∀j,i<j->j+p+2<=n->t<k j)/\¬fk n k t) (fun i=>i=bY n k t/\¬fk n k t) (fun i=>i) (fun _=>⟨⟨_,RO,?_⟩,fun i ⟨h1,h2,h4⟩=>⟨_,Ze,?_⟩,fun i ⟨h1,h2⟩=>⟨_,aid,G0 h2 h1⟩⟩) K []
 ·simp only[ag.all,au,bz,bG,oD,qW,cond_false,Int.toNat_zero,show((n:Int)-1).toNat=n-1 by omega]
  (repeat' with_reducible first|refine And.intro ?_ ?_|intro _)
  all_goals first|omega|assumption|skip
  ·exact⟨_,ah,zK (.inl ‹_›)⟩
  ·exact absurd ‹true=false› (by decide)
  ·exact⟨_,ah,zK (.inr ‹_›)⟩
  ·rename_i a b
   have hin:¬fk n k t:=fun h=>h.elim (fun h=>a h) fun h=>b h
   refine⟨n-p-2,⟨aa,fun j h1 h2=>aa,hin⟩,[(0,0)],rfl,?_,rfl,aY trivial⟩
   rw[show(n:Int)-1-(p:Int)-1=((n-p-2:Nat):Int) by omega]
   rfl
 ·simp only[ag.all,au,bz,bG,oD,br,cond_true]
  have hin:k 0<=t/\t<=k (n-1):=by
   constructor
   ·have:¬t<k 0:=fun h=>h4 (.inl h)
    grind
   ·have:¬k (n-1)<t:=fun h=>h4 (.inr h)
    grind
  have fin:k i<=t->i=bY n k t:=fun h3=>by
   by_cases hi:i+p+2<n
   ·have h5:=h2 (i+1) aa aa
    exact(tv ⟨⟨aa,h.sorted,by grind⟩,h3,by grind,.inl h5⟩).symm
   ·have e1:=h.last (i+1) aa aa
    have e2:=h.last (i+p) aa aa
    have e3:=h.mult i aa aa
    exact(tv ⟨⟨aa,h.sorted,by rw[e1,<-e2];exact e3⟩,h3,by rw[e1];exact hin.2,.inr e1⟩).symm
  (repeat' with_reducible first|refine And.intro ?_ ?_|intro _)
  all_goals first|omega|assumption|skip
  ·rename_i a b
   refine⟨i-1,⟨aa,fun j h5 h6=>?_,h4⟩,by dsimp only;omega,[(0,0)],rfl,?_,rfl,aY trivial⟩
   ·by_cases hj:j=i
    ·subst hj;exact b
    ·exact h2 j aa h6
   ·rw[show(i:Int)-1=((i-1:Nat):Int) by omega];rfl
  ·rename_i a b
   exact⟨rfl,i,⟨fin (by grind),h4⟩,[(0,0)],rfl,rfl,rfl,aY trivial⟩
  ·exact absurd ‹false=true› (by decide)
  ·have hi:i=0:=aa
   subst hi
   exact⟨rfl,0,⟨fin hin.1,h4⟩,[(0,0)],rfl,rfl,rfl,aY trivial⟩
abbrev N6:qV ((Nat×(Nat->Rat))×Int×Rat×Unit):=kC (kL sK) (kC kI (kC (dQ sK) kN))
def u7:Spec:=cF N6 (fun a=>q9 a.1.1 a.1.2 a.2.2.1) fun a=>[Kn a.1.1 a.2.1.toNat a.1.2,0<=a.2.1,a.1.1<2^40]
theorem ae2:bf P u7 202:=cC fun _ K hn=>agy hn.1 hn.2.2 K
theorem Nb:bf P u7 48:=cC fun⟨⟨n,k⟩,p,t,_⟩ K hn=>by
 have:=VB hn.1 hn.2.2 K (t:=t)
 rw[Int.toNat_of_nonneg hn.2.1]at this
 exact this
theorem PF:aX 213 f213:=aM func213
def Iz:aV:=(37,fL kR kR rq nX)::eV
theorem Wp {a b t:Rat} {n:Nat}:bF T Iz [] 60 f213 (aF f213) ⟨aS 0 [.rat a n,.rat b n,.rat t n],[],0⟩=
  let c3:Nat:=n+n+1;let c2:Nat:=2^42;let c1:Prop:=0<1;some (aj [c1,c1,n<c2,n<c2,c1,c1,n<c2,n<c2,c3<c2,c3<c2,c1] (aj [c1,c1] (aj [c1] (leaf ret [rat ((t-a)/(b-a)) (c3+c3)])))):=ah
abbrev sF:Nat:=16386
def Gu:Spec:=cF (kC (dQ sK) (kC (dQ sK) (kC (dQ sK) kN))) (fun a=>.rat (fr a.1 a.2.1 a.2.2.1) sF) fun _=>[]
theorem PV:bg P Iz:=aE (fQ fun _ _ K hn=>uG hn.1 hn.2 K) fB
theorem Ut:bf P Gu 213:=cC fun⟨a,b,t,_⟩ K _=>by
 refine bM (r:=aH (.rat (fr a b t) sF) []) hT PV hm PF rfl aW rfl 60 Wp (fun _=>?_) K []
 simp only[ag.all,au]
 have h1:sK=4096:=rfl
 (repeat' with_reducible refine And.intro ?_ ?_)
 all_goals first|omega|exact(bC rfl (show sK+sK+1+(sK+sK+1)<=sF by decide))
def SB (d:Nat):Nat:=65536*4^d
abbrev Ad (m:Nat) (x:Nat->Rat) (s:Nat->Nat):az:=⟨true,true,3,m,fun i=>.rat (x i) (s i)⟩
theorem B4 {d:Nat}:SB (d+1)=4*SB d:=by unfold SB;rw[Nat.pow_succ];omega
theorem BT:∀{d:Nat},65536<=SB d
 |0=>by unfold SB;omega
 |d+1=>by rw[B4];have:=BT (d:=d);omega
theorem Ip:sF=16386:=rfl
theorem aaJ {d e:Nat} (h:d<=e):SB d<=SB e:=Nat.mul_le_mul_left _ (Nat.pow_le_pow_right aa h)
abbrev sV:Nat:=268435456
theorem xZ {d:Nat} (h:d<=6):SB d<=sV:=Nat.le_trans (aaJ h) (by decide)
def wK (n:Nat) (k:Nat->Rat) (p:Nat) (t:Rat) (f:Nat->Rat):AV:=.tuple [.int .i64 (if fk n k t then 0 else(bY n k t:Int)-p),.ak 3 (if fk n k t then 0 else p+1) (fun j=>.rat (f j) sV),.int .i64 (g9 n k t)]
abbrev Dh (n:Nat) (k:Nat->Rat) (p:Nat) (t:Rat):AV:=wK n k p t (vB k (bY n k t) t p)
theorem Ql {n p:Nat} {k f:Nat->Rat} {t:Rat} (h:fk n k t):fA [.int .i64 0,.nil,.int .i64 7] (wK n k p t f):=by
 unfold wK g9
 rw[if_pos h,if_pos h,if_pos h]
 exact⟨.refl _,lf aa,.refl _,trivial⟩
theorem ab9 {n p:Nat} {k f:Nat->Rat} {t:Rat} {g:Nat->AV} (h:¬fk n k t) (hg:∀j,j<p+1->bp (g j) (.rat (f j) sV)):fA [.int .i64 ((bY n k t:Int)-p),.ak 3 (p+1) g,.int .i64 0] (wK n k p t f):=by
 unfold wK g9
 rw[if_neg h,if_neg h,if_neg h]
 exact⟨.refl _,dB hg,.refl _,trivial⟩
def N5 (k:Nat->Rat) (i:Nat) (t:Rat) (d j:Nat):Rat:=if j=0 then 0 else fr (k (i-d+(j-1))) (k (i-d+(j-1)+(d+1))) t*vB k i t d (j-1)
theorem abA:aX 186 f186:=aM func186
def Jb:Spec:=cF N6 (fun a=>Dh a.1.1 a.1.2 a.2.1.toNat a.2.2.1) fun a=>[Kn a.1.1 a.2.1.toNat a.1.2,0<=a.2.1,a.2.1<=6,a.1.1<2^40]
def Ar:Spec:=cF (kC (kL sK) (kC kI kN)) (fun a=>.int .i64 ((a.1.1:Int)-a.2.1-1)) fun a=>[a.1.1<2^40,-2^40<a.2.1,a.2.1<2^40]
theorem Yo {n:Nat} {k:Nat->Rat} {p:Int}:bF T [nG] [] 60 f186 (aF f186) ⟨aS 0 [ls k n,.int .i64 p],[],0⟩=
  let c3:Int:=(↑n:Int)-p;let c1:Int:=(2:Int)^63;let c2:Int:=c3-1;some (aj [-c1<=c3/\c3<c1,-c1<=c2/\c2<c1] (leaf ret [int i64 c2])):=ah
theorem BG:bf P Ar 186:=cC fun⟨⟨n,k⟩,p,_⟩ K hn=>by
 obtain⟨h1,h2,h3⟩:=hn
 have h3:p<2^40:=h3
 simp only at h1 h2
 refine bM (r:=aH (.int .i64 ((n:Int)-p-1)) []) hT (eP bD) hm abA rfl aW rfl 60 Yo (fun _=>?_) K []
 simp only[ag.all,au]
 exact⟨aa,.refl _⟩
abbrev zO:az:=⟨false,true,3,1,fun _=>.rat 0 1⟩
theorem abO {n:Nat} {k:Nat->Rat} {t:Rat} (h:g9 n k t≠0):fk n k t:=by
 unfold g9 at h
 by_cases ho:fk n k t
 ·exact ho
 ·rw[if_neg ho]at h;exact absurd rfl h
theorem HO {n:Nat} {k:Nat->Rat} {t:Rat} (h:g9 n k t=0):¬fk n k t:=fun ho=>by unfold g9 at h;rw[if_pos ho]at h;omega
theorem Kn.vW {n p:Nat} {k:Nat->Rat} (h:Kn n p k) {t:Rat} (hin:¬fk n k t):p<=bY n k t/\bY n k t+p+1<n:=by
 have h1:¬t<k 0:=fun h=>hin (.inl h)
 have h2:¬k (n-1)<t:=fun h=>hin (.inr h)
 exact(h.xX (by grind) (by grind)).2
def bU (k:Nat->Rat) (t:Rat):Nat->Nat
 |0=>0
 |i+1=>bU k t i+if k i=t then 1 else 0
def gv (k:Nat->Rat) (i:Nat):Prop:=i=0\/k i≠k (i-1)
instance {k:Nat->Rat} {i:Nat}:Decidable (gv k i):=inferInstanceAs (Decidable (i=0\/k i≠k (i-1)))
def bO (k:Nat->Rat):Nat->Nat
 |0=>0
 |i+1=>bO k i+if gv k i then 1 else 0
def cy (k:Nat->Rat):Nat->Nat->Rat
 |0=>fun _=>0
 |i+1=>if gv k i then oc (cy k i) (bO k i) (k i)else cy k i
theorem Iy {k:Nat->Rat} {t:Rat}:∀{n:Nat},bU k t n<=n
 |0=>Nat.le_refl _
 |n+1=>by
  have:=Iy (k:=k) (t:=t) (n:=n)
  unfold bU;split<;>omega
theorem rO {k:Nat->Rat}:∀{n:Nat},bO k n<=n
 |0=>Nat.le_refl _
 |n+1=>by
  have:=rO (k:=k) (n:=n)
  unfold bO;split<;>omega
theorem y9 {k:Nat->Rat}:∀{n:Nat},0<bO k (n+1)/\cy k (n+1) 0=k 0/\cy k (n+1) (bO k (n+1)-1)=k n
 |0=>by simp[bO,cy,gv,oc]
 |n+1=>by
  obtain⟨h1,h2,h3⟩:=y9 (k:=k) (n:=n)
  rw[bO,cy]
  by_cases h:gv k (n+1)
  ·rw[if_pos h,if_pos h]
   refine⟨by omega,by rw[kz (by omega)];exact h2,?_⟩
   rw[show bO k (n+1)+1-1=bO k (n+1) by omega,rG]
  ·rw[if_neg h,if_neg h]
   refine⟨by omega,h2,?_⟩
   show cy k (n+1) (bO k (n+1)-1)=_
   rw[h3]
   unfold gv at h
   have:k (n+1)=k (n+1-1):=by
    by_cases e:k (n+1)=k (n+1-1)
    ·exact e
    ·exact absurd (.inr e) h
   rw[this];rfl
theorem Be {k:Nat->Rat}:∀{n j:Nat},j<bO k n->∃i,i<n/\cy k n j=k i
 |0,j,h=>by simp[bO]at h
 |n+1,j,h=>by
  rw[cy]
  rw[bO]at h
  by_cases hn:gv k n
  ·rw[if_pos hn]at h ⊢
   by_cases he:j=bO k n
   ·subst he;exact⟨n,by omega,rG⟩
   ·obtain⟨i,h1,h2⟩:=Be (k:=k) (n:=n) (j:=j) (by omega)
    exact⟨i,by omega,by rw[kz he];exact h2⟩
  ·rw[if_neg hn]at h ⊢
   obtain⟨i,h1,h2⟩:=Be (k:=k) (n:=n) (j:=j) (by omega)
   exact⟨i,by omega,h2⟩
def ql (n:Nat) (k:Nat->Rat):Prop:=∀i,i+1<n->k i<=k (i+1)
def kU (n:Nat) (k:Nat->Rat) (p:Nat) (t:Rat):Prop:=((t=k 0\/t=k (n-1))/\bU k t n≠p+1)\/(¬(t=k 0\/t=k (n-1))/\p<bU k t n)
instance {n:Nat} {k:Nat->Rat} {p:Nat} {t:Rat}:Decidable (kU n k p t):=inferInstanceAs (Decidable (((t=k 0\/t=k (n-1))/\bU k t n≠p+1)\/(¬(t=k 0\/t=k (n-1))/\p<bU k t n)))
def rI (n:Nat) (k:Nat->Rat) (p:Nat):Prop:=ql n k/\k 0≠k (n-1)/\∀j,j<bO k n->¬kU n k p (cy k n j)
open Classical in
def iN (n:Nat) (k:Nat->Rat) (p:Int):Int:=
 if p<1\/6<p then 1 else if(n:Int)<2*p+2 then 5 else if 40<(n:Int)-p-1 then 2 else if rI n k p.toNat then 0 else 5
theorem HA {k:Nat->Rat} {t:Rat} {a b:Nat} (hab:a<=b):∀{n:Nat},(∀i,i<n->k i=t->a<=i/\i<b)->bU k t n<=min n b-min n a
 |0,_=>by simp[bU]
 |n+1,h=>by
  have ih:=HA (k:=k) (t:=t) hab (n:=n) fun i hi=>h i (by omega)
  rw[bU]
  split
  ·rename_i e
   have:=h n (by omega) e
   omega
  ·omega
theorem D6 {k:Nat->Rat} {t:Rat} {a b:Nat} (hab:a<=b):∀{n:Nat},(∀i,i<n->(k i=t↔a<=i/\i<b))->bU k t n=min n b-min n a
 |0,_=>by simp[bU]
 |n+1,h=>by
  have ih:=D6 (k:=k) (t:=t) hab (n:=n) fun i hi=>h i (by omega)
  rw[bU]
  have:=h n (by omega)
  split
  ·rename_i e
   have:=this.1 e
   omega
  ·rename_i e
   have:¬(a<=n/\n<b):=fun h=>e (this.2 h)
   omega
theorem least {q:Nat->Prop} [DecidablePred q]:∀{n:Nat},q n->∃a,a<=n/\q a/\∀i,i<a->¬q i
 |0,h=>⟨0,Nat.le_refl _,h,fun i hi=>by omega⟩
 |n+1,h=>by
  by_cases h2:∃i,i<n+1/\q i
  ·obtain⟨i,hi,hq⟩:=h2
   obtain⟨a,h3,h4,h5⟩:=least_lt hi hq
   exact⟨a,by omega,h4,h5⟩
  ·exact⟨n+1,Nat.le_refl _,h,fun i hi hq=>h2 ⟨i,hi,hq⟩⟩
where
 least_lt {q:Nat->Prop} [DecidablePred q]:∀{n i:Nat},i<n->q i->∃a,a<n/\q a/\∀i,i<a->¬q i
 |0,i,h,_=>by omega
 |n+1,i,h,hq=>by
  by_cases h2:∃j,j<n/\q j
  ·obtain⟨j,hj,hq⟩:=h2
   obtain⟨a,h3,h4,h5⟩:=least_lt hj hq
   exact⟨a,by omega,h4,h5⟩
  ·have:i=n:=by
    by_cases e:i=n
    ·exact e
    ·exact absurd ⟨i,by omega,hq⟩ h2
   subst this
   exact⟨i,h,hq,fun j hj hq=>h2 ⟨j,hj,hq⟩⟩
theorem Kn.rI {n p:Nat} {k:Nat->Rat} (h:Kn n p k):rI n k p:=by
 have hp:=h.p1
 have hl:=h.len
 have hw:k p<k (p+1):=by
  have:=h.mult 1 (by omega) (by omega)
  rw[h.first 1 (by omega),show 1+p=p+1 by omega]at this
  rw[h.first p (by omega)];exact this
 have hw2:k (n-p-2)<k (n-p-1):=by
  by_cases he:n=2*p+2
  ·have e1:n-p-2=p:=by omega
   have e2:n-p-1=p+1:=by omega
   rw[e1,e2];exact hw
  ·have:=h.mult (n-p-2) (by omega) (by omega)
   rw[h.last (n-p-2+p) (by omega) (by omega),<-h.last (n-p-1) (by omega) (by omega)]at this
   exact this
 have m:∀{i j},i<=j->j<n->k i<=k j:=fun hi hj=>gG h.sorted hi hj
 have h0l:k 0<k (n-1):=by
  have a:=m (i:=p+1) (j:=n-1) (by omega) (by omega)
  have b:=h.first p (Nat.le_refl _)
  grind
 refine⟨h.sorted,by grind,fun j hj=>?_⟩
 obtain⟨i,hi,e⟩:=Be hj
 rw[e]
 unfold kU
 by_cases h0:k i=k 0
 ·have:bU k (k i) n=p+1:=by
   rw[D6 (a:=0) (b:=p+1) (by omega) (n:=n) fun x hx=>?_]
   ·omega
   ·rw[h0]
    constructor
    ·intro ex
     refine⟨by omega,?_⟩
     by_cases hx2:x<p+1
     ·exact hx2
     ·have:=m (i:=p+1) (j:=x) (by omega) hx
      have b:=h.first p (Nat.le_refl _)
      grind
    ·intro hx2;exact h.first x (by omega)
  rw[this]
  simp[h0]
 ·by_cases h1:k i=k (n-1)
  ·have:bU k (k i) n=p+1:=by
    rw[D6 (a:=n-p-1) (b:=n) (by omega) (n:=n) fun x hx=>?_]
    ·omega
    ·rw[h1]
     constructor
     ·intro ex
      refine⟨?_,hx⟩
      by_cases hx2:n-p-1<=x
      ·exact hx2
      ·have:=m (i:=x) (j:=n-p-2) (by omega) (by omega)
       have b:=h.last (n-p-1) (by omega) (by omega)
       grind
     ·intro hx2;exact h.last x (by omega) hx
   rw[this]
   simp[h1]
  ·obtain⟨a,ha,e,hlt⟩:=least (q:=fun x=>k x=k i) (n:=i) rfl
   have ha0:p<a:=by
    by_cases hx:p<a
    ·exact hx
    ·have:=h.first a (by omega)
     rw[this]at e;exact absurd e.symm h0
   have hal:a+p+1<n:=by
    by_cases hx:a+p+1<n
    ·exact hx
    ·have:=h.last a (by omega) (by omega)
     rw[this]at e;exact absurd e.symm h1
   have hm:=h.mult a (by omega) hal
   have:bU k (k i) n<=min n (a+p)-min n a:=by
    refine HA (by omega) fun x hx ex=>⟨?_,?_⟩
    ·by_cases hx2:a<=x
     ·exact hx2
     ·exact absurd ex (hlt x (by omega))
    ·by_cases hx2:x<a+p
     ·exact hx2
     ·have:=m (i:=a+p) (j:=x) (by omega) hx
      grind
   intro hb
   rcases hb with⟨h2,_⟩|⟨_,h2⟩
   ·exact h2.elim h0 h1
   ·omega
theorem Kn.Tg {n p:Nat} {k:Nat->Rat} (h:Kn n p k) (hp6:p<=6) (hn:n<=p+41):iN n k p=0:=by
 have hp:=h.p1
 have hl:=h.len
 unfold iN
 rw[if_neg (by omega),if_neg (by omega),if_neg (by omega),if_pos (by rw[Int.toNat_natCast];exact h.rI)]
def jo (k:Nat->Rat) (l i:Nat):Rat:=if i<bO k l then cy k l i else k i
theorem C5 {k:Nat->Rat}:∀{b:Nat},(∀i,i<b->gv k i)->bO k b=b/\∀i,i<b->cy k b i=k i
 |0,_=>⟨rfl,fun i hi=>by omega⟩
 |b+1,h=>by
  obtain⟨h1,h2⟩:=C5 (k:=k) (b:=b) fun i hi=>h i (by omega)
  rw[bO,cy,if_pos (h b (by omega)),if_pos (h b (by omega)),h1]
  refine⟨rfl,fun i hi=>?_⟩
  unfold oc
  split
  ·rename_i e;rw[e]
  ·exact h2 i (by omega)
theorem ain {k:Nat->Rat} {b:Nat} (h:∀i,i<b->gv k i) (hb:¬gv k b):bO k (b+1)=b/\∀i,jo k (b+1) i=k i:=by
 obtain⟨h1,h2⟩:=C5 h
 have e:bO k (b+1)=b:=by rw[bO,if_neg hb,h1];rfl
 refine⟨e,fun i=>?_⟩
 unfold jo
 rw[e,cy,if_neg hb]
 split
 ·exact h2 i ‹_›
 ·rfl
theorem H7 {k:Nat->Rat} {n:Nat} (h:∀i,i<n->gv k i):bO k n=n/\∀i,i<n->cy k n i=k i:=C5 h
theorem aiw {k:Nat->Rat} {l i:Nat} (h:gv k l) (hl:bO k l<=l):jo k (l+1) i=if i=bO k l then k l else jo k l i:=by
 unfold jo
 rw[bO,cy,if_pos h,if_pos h]
 unfold oc
 by_cases h1:i=bO k l
 ·subst h1
  rw[if_pos (by omega),if_pos rfl,if_pos rfl]
 ·rw[if_neg h1]
  by_cases h2:i<bO k l
  ·rw[if_pos (by omega),if_pos h2,if_neg h1]
  ·rw[if_neg (by omega),if_neg h2,if_neg h1]
theorem Zy {k:Nat->Rat} {l i:Nat} (h:¬gv k l):bO k (l+1)=bO k l/\jo k (l+1) i=jo k l i:=by
 unfold jo
 rw[bO,cy,if_neg h,if_neg h]
 exact⟨rfl,rfl⟩
theorem abJ {k:Nat->Rat} {l:Nat} (h:gv k l):bO k (l+1)=bO k l+1:=by rw[bO,if_pos h]
theorem MG {k:Nat->Rat} {l:Nat} (h:¬gv k l):bO k (l+1)=bO k l:=by rw[bO,if_neg h];rfl
theorem FB {k:Nat->Rat} {l i:Nat} (h:bO k l<=i):jo k l i=k i:=by unfold jo;rw[if_neg (by omega)]
theorem IX {k:Nat->Rat} {b:Nat} (hb:¬gv k b):∀{l:Nat},b<l->bO k l<l
 |0,h=>by omega
 |l+1,h=>by
  by_cases he:l=b
  ·subst he;rw[MG hb];have:=rO (k:=k) (n:=l);omega
  ·have:=IX hb (l:=l) (by omega)
   have h2:=rO (k:=k) (n:=l)
   rw[bO];split<;>omega
open Classical in
theorem Rz {n:Nat} {k:Nat->Rat} {p:Int} (h:p<1\/6<p):iN n k p=1:=if_pos h
theorem afp {n:Nat} {k:Nat->Rat} {p:Int} (h:¬(p<1\/6<p)) (h2:(n:Int)<2*p+2):iN n k p=5:=by unfold iN;rw[if_neg h,if_pos h2]
theorem S8 {n:Nat} {k:Nat->Rat} {p:Int} (h:¬(p<1\/6<p)) (h2:¬(n:Int)<2*p+2) (h3:40<(n:Int)-p-1):iN n k p=2:=by unfold iN;rw[if_neg h,if_neg h2,if_pos h3]
theorem X5 {n:Nat} {k:Nat->Rat} {p:Int} (h:¬(p<1\/6<p)) (h2:¬(n:Int)<2*p+2) (h3:¬40<(n:Int)-p-1) (h4:rI n k p.toNat):iN n k p=0:=by unfold iN;rw[if_neg h,if_neg h2,if_neg h3,if_pos h4]
theorem Ex {n:Nat} {k:Nat->Rat} {p:Int} (h:¬(p<1\/6<p)) (h2:¬(n:Int)<2*p+2) (h3:¬40<(n:Int)-p-1) (h4:¬rI n k p.toNat):iN n k p=5:=by unfold iN;rw[if_neg h,if_neg h2,if_neg h3,if_neg h4]
open Go Go.Am.N AV ag aq IntKind Proofs.Tryz
theorem PT:aX 113 f113:=aM func113
theorem Ci:aX 152 f152:=aM func152
abbrev vT:List Nat:=[3,5,8,9,10]
abbrev xI (n:Nat) (k:Nat->Rat) (c i:Nat):List AV:=[.ptr 0 0 3 0 [],.int .i64 c,ls k n,.int .i64 n,.int .i64 i]
abbrev vY:Code:=aF f113
abbrev sJ:Nat:=4000
abbrev gM (m:Nat) (k:Nat->Rat):az:=⟨true,true,3,m,fun i=>.rat (k i) sK⟩
abbrev xl:List Nat:=[3,9,10,11]
abbrev BD (n:Nat) (k:Nat->Rat) (i:Nat):List AV:=[.own 0 3 0 i,bq k n sJ,.int .i64 n,.int .i64 i]
abbrev nq:Code:=aF f152
theorem XO {n:Nat} {k:Nat->Rat} {t:Rat}:aL T ig [] 60 vT (before vY [1,1,0,1]) ⟨aS 0 [ls k n,.rat t sK],[],0⟩=
  some (leaf normal ([ptr 0 0 (bE (rat t sK)).size 0 [],int i64 0,ak 3 n fun i=>rat (k i) 4096,int i64 (↑n:Int),int i64 0],[(0,az.mk false true (bE (rat t sK)).size 1 fun x=>rat t 4096)])):=ah
theorem ahy {n c i:Nat} {k:Nat->Rat} {t:Rat}:aL T ig [11,16] 60 vT [part vY [1,1,0,1,0,0]] ⟨aG vT (xI n k c i),[(0,tP t sK)],1⟩=
  let c10:Int:=(↑n:Int);let c9:Prop:=0<1;let c8:Int:=(↑c:Int)+1;let c7:AV:=ak 3 n fun i=>rat (k i) 4096;let c5:Int:=(↑i:Int);let c4:AV:=ptr 0 0 3 0 [];let c2:Int:=(2:Int)^63;let c1:Nat×az:=((0:Nat),bL fun x=>rat t 4096);let c6:Int:=c5+1;let c3:List AV:=[c7,int i64 c10,int i64 c6];some (fork (decide (c5<c10)) (aj [(0:Int)<=c5/\c5.toNat<n,c9] (aj [c9,c9] (fork (decide (k c5.toNat=t)) (aj [-c2<=c8/\c8<c2] (aj [-c2<=c6/\c6<c2] (leaf normal (c4::int i64 c8::c3,[c1])))) (aj [-c2<=c6/\c6<c2] (leaf normal (c4::int i64 (↑c:Int)::c3,[c1])))))) (leaf (exit 0) ([c4,int i64 (↑c:Int),c7,int i64 c10,int i64 c5],[c1]))):=ah
theorem afe {n c i:Nat} {k:Nat->Rat} {t:Rat}:cP T ig [] 60 f113 [part vY [1,1,1]] ⟨aG vT (xI n k c i),[(0,tP t sK)],1⟩=
  some (leaf ret [int i64 (↑c:Int)]):=ah
theorem Q3 {n:Nat} {k:Nat->Rat}:aL T ig [] 60 xl (before nq [1,1,0,1]) ⟨aS 0 [bq k n sJ],[],0⟩=
  let c1:Int:=(↑n:Int);some (aj [(0:Int)<=0/\(0:Int)<=c1/\c1<=2^47/\c1*(↑(56:Nat):Int)<=2^47] (leaf normal ([own 12288 3 0 0,ak 3 n fun i=>rat (k i) 4000,int i64 c1,int i64 0],[(12288,az.mk true true 3 0 fun x=>rat 0 1)]))):=ah
theorem UD {n i:Nat} {k:Nat->Rat}:aL T ig [12] 60 xl [part nq [1,1,0,1,0,0]] ⟨aG xl (BD n k i),[(0,gM i k)],1⟩=
  let c4:Int:=(↑n:Int);let c2:AV:=ak 3 n fun i=>rat (k i) 4000;let c1:Int:=(↑i:Int);let c3:Int:=c1+1;some (fork (decide (c1<c4)) (aj [(0:Int)<=c1/\c1.toNat<n,(0:Nat)<1] (aj [(0:Nat)<1,(1:Nat)*3<=2^24,(i+1)*((56:Nat)+1)*2<=2^47] (aj [-(2:Int)^63<=c3/\c3<2^63] (leaf normal ([own 40961 3 0 (i+1),c2,int i64 c4,int i64 c3],[(40961,az.mk true true 3 (i+1) fun i_1=>if i_1<i then rat (k i_1) sK else nth [rat (k c1.toNat+0) (sJ+1+1)] (rat 0 1) (i_1-i+0))]))))) (leaf (exit 0) ([own 0 3 0 i,c2,int i64 c4,int i64 c1],[(0,az.mk true true 3 i fun i=>rat (k i) 4096)]))):=ah
theorem Px {n i:Nat} {k:Nat->Rat}:aL T ig [] 60 [2] [part nq [1,1,1]] ⟨aG xl (BD n k i),[(0,gM i k)],1⟩=
  some (leaf ret ([own 0 3 0 i],[(0,az.mk true true 3 i fun i=>rat (k i) 4096)])):=ah
theorem Wu {k:Nat->Rat} {t:Rat} {i:Nat} (h:k i=t):bU k t (i+1)=bU k t i+1:=by rw[bU,if_pos h]
theorem adJ {k:Nat->Rat} {t:Rat} {i:Nat} (h:¬k i=t):bU k t (i+1)=bU k t i:=by rw[bU,if_neg h];rfl
theorem ahQ {n:Nat} {k:Nat->Rat} {t:Rat} (hn:n<2^40) (K:Nat):aN P 113 K [ls k n,.rat t sK] [] (aH (.int .i64 (bU k t n)) []):=by
 refine iu (r:=aH (.int .i64 (bU k t n)) []) hT l6 hm PT rfl aW rfl [1,1,0,1] (i:=0) (y:=part vY [1,1,0,1,0,0]) (z:=part vY [1,1,1]) ah ah ah (f1:=[]) (f2:=[11,16]) (f3:=[]) 60 vT 1
  (fun i:Nat=>xI n k (bU k t i) i) (fun _=>[(0,tP t sK)]) (fun i=>i<=n) (fun i=>i=n) (fun i=>n-i) (fun _=>⟨⟨_,XO,?_⟩,fun i hi=>⟨_,ahy,?_⟩,fun i hi=>⟨_,afe,?_⟩⟩) K []
 ·simp only[ag.all,au]
  exact⟨0,Nat.zero_le _,[(0,0)],rfl,rfl,rfl,aY trivial⟩
 ·have h1:=Iy (k:=k) (t:=t) (n:=i)
  simp only[ag.all,au,bz,bG,br,Nat.add_zero]
  refine⟨fun h2=>⟨aa,aa,fun h3=>⟨aa,aa,i+1,aa,by dsimp only;omega,[(0,0)],rfl,?_,rfl,aY trivial⟩,fun h3=>⟨aa,i+1,aa,by dsimp only;omega,[(0,0)],rfl,?_,rfl,aY trivial⟩⟩,fun h2=>⟨rfl,i,aa,[(0,0)],rfl,rfl,rfl,aY trivial⟩⟩
  ·show _=(xI n k (bU k t (i+1)) (i+1)).map _
   rw[Wu h3];rfl
  ·show _=(xI n k (bU k t (i+1)) (i+1)).map _
   rw[adJ h3];rfl
 ·subst hi
  simp only[ag.all,au]
  exact .refl _
abbrev aa4:qV ((Nat×(Nat->Rat))×Rat×Unit):=kC (kL sK) (kC (dQ sK) kN)
def xQ:Spec:=cF aa4 (fun a=>.int .i64 (bU a.1.2 a.2.1 a.1.1)) fun a=>[a.1.1<2^40]
theorem Dj:bf P xQ 113:=cC fun⟨⟨n,k⟩,t,_⟩ K hn=>ahQ hn K
theorem R6 {args:List AV} {n:Nat} {k:Nat->Rat} {l:List Prop} (ha:au l->fU (bA []) args [bq k n sJ]) (hn:au l->n<2^40) (K:Nat):aN P 152 K args [] ⟨jx [.own K 3 0 n],[(K,gM n k)],l⟩:=by
 refine DK hT Ci ha aW fun need c hk=>?_
 have hn:=hn need
 refine ay.tY hT l6 hm [1,1,0,1] (i:=0) (y:=part nq [1,1,0,1,0,0]) (z:=part nq [1,1,1]) ah ah ah Ci.dst hk (f1:=[]) (f2:=[12]) 60 xl 1 (fun i:Nat=>BD n k i) (fun i=>[(0,gM i k)])
  (fun i=>i<=n) (fun i=>i=n) (fun i=>n-i) (fun _=>False) ⟨_,Q3,?_⟩ (fun i hi=>⟨_,UD,?_⟩) (fun i hi=>?_) (fun _ _ h=>h.elim)
 ·simp only[ag.all,au]
  exact⟨aa,0,Nat.zero_le _,[(0,12288)],rfl,rfl,rfl,cJ rfl rfl rfl (fun i hi=>absurd hi (Nat.not_lt_zero i)) trivial⟩
 ·simp only[ag.all,au,bz,bG,br,Nat.add_zero]
  exact⟨fun h2=>⟨aa,aa,aa,i+1,aa,by dsimp only;omega,[(0,40961)],rfl,rfl,rfl,cJ rfl rfl rfl (fun j hj=>m8 (fun _ _=>rfl) (Rat.add_zero _) aR (by decide) hj) trivial⟩,fun h2=>⟨rfl,i,aa,[(0,0)],rfl,rfl,rfl,cJ rfl rfl rfl (fun j hj=>eJ rfl rfl) trivial⟩⟩
 ·subst hi
  refine ay.bH hT l6 hm 60 [2] Px ah fun s' hs'=>⟨.inr rfl,[2],_,[.own 0 3 0 i],_,0,_,hs',ah,⟨⟨rfl,dx (by simp[bA,look]) rfl rfl⟩,trivial⟩,rfl,jm rfl fun i hi=>gu rfl⟩
def Hj:Spec:=oF fun K l=>match l with
 |[v]=>match(kL sJ).read v with
  |some ((n,k),q)=>some ⟨.own K 3 0 n,[(K,gM n k)],q++[n<2^40]⟩
  |none=>none
 |_=>none
theorem U6:bf P Hj 152:=by
 refine qd fun K args r hk hs=>?_
 split at hs
 ·rename_i v
  split at hs
  ·rename_i n k q hv
   simp only[ax]at hs
   subst hs
   exact R6 (fun hn=>rT hk (by cases v<;>first|rfl|simp[kL,yT]at hv) ⟨(kL sJ).ok hv (dN.1 hn).1,trivial⟩) (fun hn=>(dN (a:=q) (b:=[n<2^40]).1 hn).2) K
  ·simp at hs
 ·simp at hs
end Go.Am.B
