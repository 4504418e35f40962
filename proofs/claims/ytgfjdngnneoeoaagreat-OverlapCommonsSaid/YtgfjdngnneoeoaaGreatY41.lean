/- aU for numbers of known size: the numbers. -/
import Derived.Test.YtgfjdngnneoeoaaGreatB34
import Derived.Test.YtgfjdngnneoeoaaGreatZ2
import Derived.Test.YtgfjdngnneoeoaaGreatB37
import Init
import Derived.Test.YtgfjdngnneoeoaaGreatB33
set_option linter.unusedVariables false
noncomputable section
namespace Go.Am.B
open Go Go.Am.N AV Proofs.Tryz
structure Kd (α:Type) where
 read:AV->Option α
 make:α->AV
 ok:∀{v:AV} {a:α},read v=some a->bg v (make a)
def B2:AV->Option (V3×Nat)
 |.agg [x,y,z]=>match ig x,ig y,ig z with
  |some (x,a),some (y,b),some (z,c)=>some (⟨x,y,z⟩,max a (max b c))
  |_,_,_=>none
 |_=>none
theorem aeM {v:AV} {a:V3×Nat} (h:B2 v=some a):bg v (vA a.1 a.2):=by
 unfold B2 at h
 split at h
 ·split at h
  ·rename_i h1 h2 h3
   simp only[ax]at h
   subst h
   exact cz ⟨(iS h1).trans (bI rfl (by simp only;omega)),(iS h2).trans (bI rfl (by simp only;omega)),(iS h3).trans (bI rfl (by simp only;omega)),trivial⟩
  ·simp at h
 ·simp at h
def dR:Kd (Rat×Nat):=⟨ig,fun a=>rA a.1 a.2,iS⟩
def dV:Kd (V3×Nat):=⟨B2,fun a=>vA a.1 a.2,aeM⟩
section specs
variable {α β γ δ:Type} {f:FuncId}
def zJ (k:Kd α) (g:α->AV) (B:α->Bool):Spec:=bY fun l=>match l with
 |[x]=>match k.read x with
  |some a=>match B a with
   |true=>some (aI (g a) [])
   |false=>none
  |_=>none
 |_=>none
theorem CZ {k:Kd α} {g:α->AV} {B:α->Bool} (h:∀a K,B a=true->aO P f K [k.make a] [] (aI (g a) [])):aY P (zJ k g B) f:=by
 refine cJ fun K args r hk hs _=>?_
 split at hs
 ·split at hs
  ·rename_i h1
   split at hs
   ·rename_i hB
    simp only[ax]at hs
    subst hs
    exact eW (h _ K hB) hk ⟨k.ok h1,trivial⟩ []
   ·simp at hs
  ·simp at hs
 ·simp at hs
def fX (k:Kd α) (k2:Kd β) (g:α->β->AV) (B:α->β->Bool):Spec:=bY fun l=>match l with
 |[x,y]=>match k.read x,k2.read y with
  |some a,some b=>match B a b with
   |true=>some (aI (g a b) [])
   |false=>none
  |_,_=>none
 |_=>none
theorem gb {k:Kd α} {k2:Kd β} {g:α->β->AV} {B:α->β->Bool} (h:∀a b K,B a b=true->aO P f K [k.make a,k2.make b] [] (aI (g a b) [])):aY P (fX k k2 g B) f:=by
 refine cJ fun K args r hk hs _=>?_
 split at hs
 ·split at hs
  ·rename_i h1 h2
   split at hs
   ·rename_i hB
    simp only[ax]at hs
    subst hs
    exact eW (h _ _ K hB) hk ⟨k.ok h1,k2.ok h2,trivial⟩ []
   ·simp at hs
  ·simp at hs
 ·simp at hs
def K6 (k:Kd α) (k2:Kd β) (k3:Kd γ) (g:α->β->γ->AV) (B:α->β->γ->Bool):Spec:=bY fun l=>match l with
 |[x,y,z]=>match k.read x,k2.read y,k3.read z with
  |some a,some b,some c=>match B a b c with
   |true=>some (aI (g a b c) [])
   |false=>none
  |_,_,_=>none
 |_=>none
theorem ace {k:Kd α} {k2:Kd β} {k3:Kd γ} {g:α->β->γ->AV} {B:α->β->γ->Bool} (h:∀a b c K,B a b c=true->aO P f K [k.make a,k2.make b,k3.make c] [] (aI (g a b c) [])):aY P (K6 k k2 k3 g B) f:=by
 refine cJ fun K args r hk hs _=>?_
 split at hs
 ·split at hs
  ·rename_i h1 h2 h3
   split at hs
   ·rename_i hB
    simp only[ax]at hs
    subst hs
    exact eW (h _ _ _ K hB) hk ⟨k.ok h1,k2.ok h2,k3.ok h3,trivial⟩ []
   ·simp at hs
  ·simp at hs
 ·simp at hs
end specs
def b1 {α:Type} (e:Nat) (a:α×Nat):Bool:=Nat.blt a.2 (2^e)
def b2 {α β:Type} (e:Nat) (a:α×Nat) (b:β×Nat):Bool:=Nat.blt a.2 (2^e)&&Nat.blt b.2 (2^e)
def b3 {α β γ:Type} (e:Nat) (a:α×Nat) (b:β×Nat) (c:γ×Nat):Bool:=Nat.blt a.2 (2^e)&&(Nat.blt b.2 (2^e)&&Nat.blt c.2 (2^e))
theorem AS {a b:Nat}:Nat.blt a b=true↔a<b:=by rw[Nat.blt_eq]
theorem HA {α:Type} {e:Nat} {a:α×Nat} (h:b1 e a=true):a.2<2^e:=AS.1 h
theorem dL {α β:Type} {e:Nat} {a:α×Nat} {b:β×Nat} (h:b2 e a b=true):a.2<2^e/\b.2<2^e:=by
 simp only[b2,Bool.and_eq_true,AS]at h;exact h
theorem NI {α β γ:Type} {e:Nat} {a:α×Nat} {b:β×Nat} {c:γ×Nat} (h:b3 e a b c=true):a.2<2^e/\b.2<2^e/\c.2<2^e:=by
 simp only[b3,Bool.and_eq_true,AS]at h;exact h
def B6:Spec:=bY fun l=>match l with
 |[.int .i64 n]=>match decide (-2^63<=n/\n<2^63)with
  |true=>some (aI (.rat (n:Rat) (max 1 (bO n.natAbs))) [])
  |false=>none
 |_=>none
abbrev yP:FuncId×Spec:=(34,B6)
abbrev BC:FuncId×Spec:=(78,fX dR dR Tv (b2 42))
abbrev CT:FuncId×Spec:=(77,fX dR dR U2 (b2 42))
def gk:aU:=[(91,fX dR dR zU (b2 42)),(38,fX dR dR zE (b2 42)),(92,fX dR dR zg (b2 42)),(35,fX dR dR rR (b2 42)),(79,fX dR dR xH (b2 42)),(84,zJ dR xK (b1 42)),yP,(37,fX dR dR sZ (b2 42)),BC,CT]
def j3:aU:=[(69,fX dR dR zU (b2 41)),(68,fX dR dR zE (b2 41)),(57,fX dR dR zg (b2 41)),(47,fX dR dR rR (b2 41)),(96,fX dR dR xH (b2 41)),(143,zJ dR xK (b1 41)),(20,B6)]
theorem uQ {n:Nat} (h:n<2^42):n<2^44:=Nat.lt_trans h aa
theorem zn {n:Nat} (h:n<2^41):n<2^44:=Nat.lt_trans h aa
theorem ET {f:FuncId} (h:∀{n:Int},-2^63<=n->n<2^63->∀K,aO P f K [.int .i64 n] [] (aI (.rat (n:Rat) (max 1 (bO n.natAbs))) [])):aY P B6 f:=by
 refine cJ fun K args r hk hs _=>?_
 split at hs
 ·split at hs
  ·rename_i hc
   simp only[ax]at hs
   subst hs
   have:=of_decide_eq_true hc
   exact h this.1 this.2 K
  ·simp at hs
 ·simp at hs
theorem J4:aY P yP.2 yP.1:=ET KR
theorem ab8:aY P BC.2 BC.1:=gb fun _ _ K hn=>F6 (dL hn).1 (dL hn).2 K
theorem ago:aY P CT.2 CT.1:=gb fun _ _ K hn=>HS (dL hn).1 (dL hn).2 K
theorem gz:aZ P gk:=aE (gb fun _ _ K hn=>MI (dL hn).1 (dL hn).2 K) (aE (gb fun _ _ K hn=>GJ (dL hn).1 (dL hn).2 K) (aE (gb fun _ _ K hn=>Lv (dL hn).1 (dL hn).2 K)
 (aE (gb fun _ _ K hn=>Bu (uQ (dL hn).1) (uQ (dL hn).2) K []) (aE (gb fun _ _ K hn=>Aw (dL hn).1 (dL hn).2 K []) (aE (CZ fun _ K hn=>B4 (uQ (HA hn)) K []) (aE J4
 (aE (gb fun _ _ K hn=>u7 (dL hn).1 (dL hn).2 K) (aE ab8 (aE ago bA)))))))))
theorem kM:aZ P j3:=aE (gb fun _ _ K hn=>DJ (dL hn).1 (dL hn).2 K) (aE (gb fun _ _ K hn=>Kt (dL hn).1 (dL hn).2 K) (aE (gb fun _ _ K hn=>Fe (dL hn).1 (dL hn).2 K)
 (aE (gb fun _ _ K hn=>B3 (zn (dL hn).1) (zn (dL hn).2) K []) (aE (gb fun _ _ K hn=>IW (dL hn).1 (dL hn).2 K) (aE (CZ fun _ K _=>BI K []) (aE (ET I3) bA))))))
end Go.Am.B
namespace Go.Am.B
open Go Go.Am.N AV Proofs.Tryz
def BK:aU:=sG::(13,fX dV dV rK (b2 38))::(27,fX dV dV rN (b2 38))::(26,fX dV dV nU (b2 38))::(19,fX dR dV Iv (b2 38))::(98,fX dV dV p9 (b2 38))::(141,fX dV dV rD (b2 38))::j3
theorem FB:aZ P BK:=ct<|aE (gb fun a b K hn=>EI a b K (dL hn)) (aE (gb fun a b K hn=>Og a b K (dL hn)) (aE (gb fun a b K hn=>BW a b K (dL hn)) (aE (gb fun a b K hn=>Xs a b K (dL hn)) (aE (gb fun a b K hn=>AK a b K (dL hn)) (aE (gb fun a b K hn=>Ja a b K (dL hn)) kM)))))
theorem BM (x:Rat):0<=x*x:=by
 rcases Rat.le_total (a:=0) (b:=x)with h|h
 ·exact Rat.mul_nonneg h h
 ·have:=Rat.mul_nonneg (a:=-x) (b:=-x) (by grind) (by grind)
  grind
theorem afB {u:V3} (h:dot u u=0):u.x=0/\u.y=0/\u.z=0:=by
 have h1:=BM u.x
 have h2:=BM u.y
 have h3:=BM u.z
 unfold dot at h
 have a1:u.x*u.x=0:=by grind
 have a2:u.y*u.y=0:=by grind
 have a3:u.z*u.z=0:=by grind
 simp only[Rat.mul_eq_zero,or_self]at a1 a2 a3
 exact⟨a1,a2,a3⟩
open Go Go.Am.N AV ag ak IntKind Proofs.Tryz
theorem jH {w:Rat} (hw:0<w) {a b:Rat}:a*w<b*w↔a<b:=
 ⟨fun h=>Rat.not_le.1 fun g=>absurd (Rat.mul_le_mul_of_nonneg_right g (Rat.le_of_lt hw)) (Rat.not_le.2 h),fun h=>Rat.mul_lt_mul_of_pos_right h hw⟩
theorem R4 {lo w s t:Rat} (hw:0<w):bX lo (bW (lo+s*w) (lo+t*w))=lo+bX (bW s t) 0*w:=by
 have k1:=jH hw (a:=s) (b:=t)
 have k2:=jH hw (a:=t) (b:=s)
 have k3:=jH hw (a:=s) (b:=0)
 have k4:=jH hw (a:=t) (b:=0)
 have k5:=jH hw (a:=0) (b:=s)
 have k6:=jH hw (a:=0) (b:=t)
 unfold bX bW
 grind
theorem V0 {lo w s t:Rat} (hw:0<w):bW (lo+w) (bX (lo+s*w) (lo+t*w))=lo+bW (bX s t) 1*w:=by
 have k1:=jH hw (a:=s) (b:=t)
 have k2:=jH hw (a:=t) (b:=s)
 have k3:=jH hw (a:=s) (b:=1)
 have k4:=jH hw (a:=t) (b:=1)
 have k5:=jH hw (a:=1) (b:=s)
 have k6:=jH hw (a:=1) (b:=t)
 unfold bX bW
 grind
def fk (s t:Rat):Rat×Rat:=(bX (bW s t) 0,bW (bX s t) 1)
def cB (s t r:Rat):Rat:=(r-s)/(t-s)
theorem zk {s t r:Rat} (h:t≠s):s+cB s t r*(t-s)=r:=by
 unfold cB
 rw[Rat.div_mul_cancel (by grind)];grind
theorem Da {f:Rat->Rat} (h:∀a b,f a<f b↔a<b) (a b:Rat):f (bX a b)=bX (f a) (f b)/\f (bW a b)=bW (f a) (f b):=by
 have h1:=h a b
 have h2:=h b a
 unfold bX bW
 grind
theorem MW {f:Rat->Rat} (h:∀a b,f a<f b↔b<a) (a b:Rat):f (bX a b)=bW (f a) (f b)/\f (bW a b)=bX (f a) (f b):=by
 have h1:=h a b
 have h2:=h b a
 have h3:f a=f b\/f a<f b\/f b<f a:=by grind
 unfold bX bW
 grind
theorem agW {s t:Rat} (h:t≠s):cB s t s=0/\cB s t t=1:=by
 unfold cB
 exact⟨by rw[show s-s=0 by grind,Rat.div_def,Rat.zero_mul],by rw[Rat.div_def,Rat.mul_inv_cancel _ (by grind)]⟩
theorem YH {s t:Rat} (h:s<t) (a b:Rat):cB s t a<cB s t b↔a<b:=by
 have h1:=zk (r:=a) (show t≠s by grind)
 have h2:=zk (r:=b) (show t≠s by grind)
 have h3:=jH (show 0<t-s by grind) (a:=cB s t a) (b:=cB s t b)
 grind
theorem Vm {s t:Rat} (h:t<s) (a b:Rat):cB s t a<cB s t b↔b<a:=by
 have h1:=zk (r:=a) (show t≠s by grind)
 have h2:=zk (r:=b) (show t≠s by grind)
 have h3:=jH (show 0<s-t by grind) (a:=cB s t a) (b:=cB s t b)
 grind
theorem RN {s t:Rat} (h:t≠s):bW (cB s t (fk s t).1) (cB s t (fk s t).2)=bW (fk (cB s t 0) (cB s t 1)).1 (fk (cB s t 0) (cB s t 1)).2/\bX (cB s t (fk s t).1) (cB s t (fk s t).2)=bX (fk (cB s t 0) (cB s t 1)).1 (fk (cB s t 0) (cB s t 1)).2/\((fk s t).1<(fk s t).2↔(fk (cB s t 0) (cB s t 1)).1<(fk (cB s t 0) (cB s t 1)).2):=by
 obtain⟨e0,e1⟩:=agW h
 rcases(show s<t\/t<s by grind)with g|g
 ·have m:=YH g
  have m0:=m 0 1
  have x1:(fk s t).1=bX s 0:=by show bX (bW s t) 0=_;rw[show bW s t=s by unfold bW;grind]
  have x2:(fk s t).2=bW t 1:=by show bW (bX s t) 1=_;rw[show bX s t=t by unfold bX;grind]
  have y1:(fk (cB s t 0) (cB s t 1)).1=cB s t (fk s t).1:=by
   rw[x1,(Da m _ _).1,e0]
   show bX (bW _ _) 0=_
   unfold bX bW;grind
  have y2:(fk (cB s t 0) (cB s t 1)).2=cB s t (fk s t).2:=by
   rw[x2,(Da m _ _).2,e1]
   show bW (bX _ _) 1=_
   unfold bX bW;grind
  rw[y1,y2]
  exact⟨rfl,rfl,(m _ _).symm⟩
 ·have m:=Vm g
  have m0:=m 1 0
  have x1:(fk s t).1=bX t 0:=by show bX (bW s t) 0=_;rw[show bW s t=t by unfold bW;grind]
  have x2:(fk s t).2=bW s 1:=by show bW (bX s t) 1=_;rw[show bX s t=s by unfold bX;grind]
  have y1:(fk (cB s t 0) (cB s t 1)).1=cB s t (fk s t).2:=by
   rw[x2,(MW m _ _).2,e0]
   show bX (bW _ _) 0=_
   unfold bX bW;grind
  have y2:(fk (cB s t 0) (cB s t 1)).2=cB s t (fk s t).1:=by
   rw[x1,(MW m _ _).1,e1]
   show bW (bX _ _) 1=_
   unfold bX bW;grind
  rw[y1,y2]
  exact⟨by unfold bW;grind,by unfold bX;grind,(m _ _).symm⟩
def dQ (a b p:V3):Rat:=dot (bV p a) (bV b a)/dot (bV b a) (bV b a)
def gC (a b p:V3):Bool:=gr (tJ (bV b a) (bV p a)) v0
theorem mw {u v:V3} (hx:u.x=v.x) (hy:u.y=v.y) (hz:u.z=v.z):u=v:=by
 cases u;cases v;simp only at hx hy hz;subst hx hy hz;rfl
theorem xW {a b:V3} (h:a≠b):dot (bV b a) (bV b a)≠0:=fun h0=>by
 obtain⟨h1,h2,h3⟩:=afB h0
 refine h (mw ?_ ?_ ?_)
 ·have h1:b.x-a.x=0:=h1;grind
 ·have h2:b.y-a.y=0:=h2;grind
 ·have h3:b.z-a.z=0:=h3;grind
theorem xq {a b p:V3} (h:a≠b) (ho:gC a b p=true):p=kO a (gW (dQ a b p) (bV b a)):=by
 have hn:=xW h
 have hc:=oX.1 ho
 have e:dQ a b p*dot (bV b a) (bV b a)=dot (bV p a) (bV b a):=by unfold dQ;rw[Rat.div_mul_cancel hn]
 have c1:(bV b a).y*(bV p a).z-(bV b a).z*(bV p a).y=0:=congrArg V3.x hc
 have c2:(bV b a).z*(bV p a).x-(bV b a).x*(bV p a).z=0:=congrArg V3.y hc
 have c3:(bV b a).x*(bV p a).y-(bV b a).y*(bV p a).x=0:=congrArg V3.z hc
 have key:∀{x y:Rat},x*dot (bV b a) (bV b a)=y*dot (bV b a) (bV b a)->x=y:=fun {x y} h=>by
  have:(x-y)*dot (bV b a) (bV b a)=0:=by grind
  rcases Rat.mul_eq_zero.1 this with g|g
  ·grind
  ·exact absurd g hn
 have e':=e
 unfold dot at e'
 refine mw ?_ ?_ ?_
 ·show p.x=a.x+dQ a b p*(bV b a).x
  have:(bV p a).x=dQ a b p*(bV b a).x:=key (by rw[Rat.mul_assoc,Rat.mul_comm (bV b a).x,<-Rat.mul_assoc,e];unfold dot;grind)
  have e2:(bV p a).x=p.x-a.x:=rfl
  grind
 ·show p.y=a.y+dQ a b p*(bV b a).y
  have:(bV p a).y=dQ a b p*(bV b a).y:=key (by rw[Rat.mul_assoc,Rat.mul_comm (bV b a).y,<-Rat.mul_assoc,e];unfold dot;grind)
  have e2:(bV p a).y=p.y-a.y:=rfl
  grind
 ·show p.z=a.z+dQ a b p*(bV b a).z
  have:(bV p a).z=dQ a b p*(bV b a).z:=key (by rw[Rat.mul_assoc,Rat.mul_comm (bV b a).z,<-Rat.mul_assoc,e];unfold dot;grind)
  have e2:(bV p a).z=p.z-a.z:=rfl
  grind
theorem agT {a b x y:V3} (h:a≠b) (hx:gC a b x=true) (hy:gC a b y=true):o6 a x y=v0/\o6 b x y=v0:=by
 have e1:=xq h hx
 have e2:=xq h hy
 generalize dQ a b x=s at*
 generalize dQ a b y=t at*
 subst e1 e2
 constructor<;>(refine mw ?_ ?_ ?_<;>simp only[o6,tJ,bV,kO,gW,v0]<;>grind)
theorem UI {a b x y:V3} (h:a≠b) (hxy:x≠y) (hx:gC a b x=true) (hy:gC a b y=true):dQ a b y≠dQ a b x/\dQ x y a=cB (dQ a b x) (dQ a b y) 0/\dQ x y b=cB (dQ a b x) (dQ a b y) 1/\gC x y a=true/\gC x y b=true:=by
 have e1:=xq h hx
 have e2:=xq h hy
 have hn:=xW h
 have hst:dQ a b y≠dQ a b x:=fun e=>hxy (by rw[e1,e2,e])
 have hn2:=xW hxy
 generalize hs:dQ a b x=s at*
 generalize ht:dQ a b y=t at*
 have hts:t-s≠0:=by grind
 have key:∀{p:V3} {r:Rat},bV p x=gW (r-s) (bV b a)->dQ x y p=cB s t r:=fun {p r} hp=>by
  have hv:bV y x=gW (t-s) (bV b a):=by
   subst e1 e2
   refine mw ?_ ?_ ?_<;>simp only[bV,kO,gW]<;>grind
  unfold dQ
  rw[hp,hv]at*
  have d1:dot (gW (r-s) (bV b a)) (gW (t-s) (bV b a))=(r-s)*((t-s)*dot (bV b a) (bV b a)):=by simp only[dot,gW];grind
  have d2:dot (gW (t-s) (bV b a)) (gW (t-s) (bV b a))=(t-s)*((t-s)*dot (bV b a) (bV b a)):=by simp only[dot,gW];grind
  rw[d1,d2]
  have hq:(t-s)*dot (bV b a) (bV b a)≠0:=fun h0=>by
   rcases Rat.mul_eq_zero.1 h0 with g|g
   ·exact hts g
   ·exact hn g
  unfold cB
  generalize (t-s)*dot (bV b a) (bV b a)=Q at*
  rw[Rat.div_def,Rat.inv_mul_rev,Rat.mul_assoc,<-Rat.mul_assoc Q,Rat.mul_inv_cancel _ hq,Rat.one_mul,<-Rat.div_def]
 refine⟨hst,key (r:=0) ?_,key (r:=1) ?_,?_,?_⟩
 ·subst e1;refine mw ?_ ?_ ?_<;>simp only[bV,kO,gW]<;>grind
 ·subst e1;refine mw ?_ ?_ ?_<;>simp only[bV,kO,gW]<;>grind
 ·unfold gC;subst e1 e2;exact oX.2 (by refine mw ?_ ?_ ?_<;>simp only[tJ,bV,kO,gW,v0]<;>grind)
 ·unfold gC;subst e1 e2;exact oX.2 (by refine mw ?_ ?_ ?_<;>simp only[tJ,bV,kO,gW,v0]<;>grind)
theorem S5:aW 95 f95:=aN func95
theorem P8:aW 94 f94:=aN func94
theorem aay {q r:Rat} {n m:Nat}:bD T ki [8] 60 f95 (aF f95) ⟨aT 0 [.rat q n,.rat r m],[],0⟩=
  let c1:Prop:=0<1;some (aj [c1,c1,m<2^41,n<2^41] (fork (decide (cZ r q<0)) (aj [c1,c1] (aj [c1] (leaf ret [rat r m]))) (aj [c1,c1] (aj [c1] (leaf ret [rat q n]))))):=ah
theorem ZK {q r:Rat} {n m:Nat}:bD T ki [8] 60 f94 (aF f94) ⟨aT 0 [.rat q n,.rat r m],[],0⟩=
  let c1:Prop:=0<1;some (aj [c1,c1,m<2^41,n<2^41] (fork (decide (cZ r q>0)) (aj [c1,c1] (aj [c1] (leaf ret [rat r m]))) (aj [c1,c1] (aj [c1] (leaf ret [rat q n]))))):=ah
theorem UL {q r:Rat}:decide (cZ q r<0)=decide (q<r):=by unfold cZ;by_cases h:q<r<;>by_cases h':r<q<;>simp[h,h']
theorem GW {q r:Rat}:decide (cZ q r>0)=decide (r<q):=by
 unfold cZ
 by_cases h:q<r
 ·have:¬r<q:=by grind
  simp[h,this]
 ·by_cases h':r<q<;>simp[h,h']
theorem Va {q r:Rat} {n m:Nat} (hn:n<2^41) (hm':m<2^41) (K:Nat):aO P 95 K [.rat q n,.rat r m] [] (aI (.rat (bW q r) (max n m)) []):=by
 refine bJ hT lH hm S5 rfl aV rfl 60 aay (fun _=>?_) K []
 rw[UL]
 simp only[ag.all,au,bz,bF]
 (repeat' with_reducible first|refine And.intro ?_ ?_|intro _)
 all_goals first|omega|skip
 ·rename_i h;unfold bW;rw[if_pos h];exact fC (Nat.le_max_right _ _)
 ·rename_i h;unfold bW;rw[if_neg h];exact fC (Nat.le_max_left _ _)
theorem XH {q r:Rat} {n m:Nat} (hn:n<2^41) (hm':m<2^41) (K:Nat):aO P 94 K [.rat q n,.rat r m] [] (aI (.rat (bX q r) (max n m)) []):=by
 refine bJ hT lH hm P8 rfl aV rfl 60 ZK (fun _=>?_) K []
 rw[GW]
 simp only[ag.all,au,bz,bF]
 (repeat' with_reducible first|refine And.intro ?_ ?_|intro _)
 all_goals first|omega|skip
 ·rename_i h;unfold bX;rw[if_pos h];exact fC (Nat.le_max_right _ _)
 ·rename_i h;unfold bX;rw[if_neg h];exact fC (Nat.le_max_left _ _)
open Go Go.Am.N AV Proofs.Tryz
theorem aeL:aW 142 f142:=aN func142
theorem WW:aW 93 f93:=aN func93
def De:aU:=(13,fS kV kV rK fW)::(26,fS kV kV nU fW)::(98,fS kV kV p9 fW)::(141,fS kV kV rD fW)::[]
def IY:aU:=(142,wI kV tX n1)::De
theorem LH:aZ P De:=aE (fY EI) (aE (fY BW) (aE (fY AK) (aE (fY Ja) bA)))
theorem ON {u:V3} {n:Nat}:bD T De [] 60 f142 (aF f142) ⟨aT 0 [vA u n],[],0⟩=
  some (ag.aj [(0:Nat)<1,n<=n,n<=n,(1:Nat)<=1,(1:Nat)<=1,n<2^38,(1:Nat)<2^38] (ag.leaf ak.ret [AV.bool (gr (V3.mk u.x u.y u.z) (V3.mk 0 0 0))])):=ah
theorem NT (a:V3×Nat) (K:Nat) (h:au (n1 a)):aO P 142 K [kV.make a] [] (aI (tX a) []):=by
 obtain⟨u,n⟩:=a
 have h1:n<2^38:=h
 refine bJ hT LH hm aeL rfl aV rfl 60 ON (fun _=>?_) K []
 simp only[ag.all,au,Nat.max_self]
 (repeat' with_reducible refine And.intro ?_ ?_)
 all_goals first|omega|decide|exact bg.refl _
theorem ad6:aZ P IY:=aE (xN NT) LH
theorem Th {u v w:V3} {n m k:Nat}:bD T IY [17] 60 f93 (aF f93) ⟨aT 0 [vA u n,vA v m,vA w k],[],0⟩=
  let c10:Rat:=(v.x-u.x)*(w.y-u.y)-(v.y-u.y)*(w.x-u.x);let c9:Rat:=(v.z-u.z)*(w.x-u.x)-(v.x-u.x)*(w.z-u.z);let c8:Rat:=(v.y-u.y)*(w.z-u.z)-(v.z-u.z)*(w.y-u.y);let c7:AV:=rat 0 1;let c6:Nat:=k+n+1;let c5:Nat:=m+n+1;let c4:Nat:=2^38;let c2:Prop:=0<1;let c3:V3:=V3.mk c8 c9 c10;let c1:Nat:=c5+c6+(c5+c6)+1;some (ag.aj [c2,c2,m<=m,m<=m,n<=n,n<=n,m<c4,n<c4,c2,c2,k<=k,k<=k,n<=n,n<=n,k<c4,n<c4,c5<=c5,c5<=c5,c6<=c6,c6<=c6,c5<c4,c6<c4,c2] (ag.aj [c2,c1<=c1,c1<=c1,c1<c4] (ag.fork (gr c3 v0) (ag.aj [c2] (ag.aj [c2] (ag.leaf ak.ret [agg [agg [c7,c7,c7],c7],int .i64 (9:Int)]))) (ag.aj [c2,c2,c2,c1<=c1,c1<=c1,n<=n,n<=n,c1<c4,n<c4,c2] (ag.aj [c2] (ag.leaf ak.ret [agg [agg [rat c8 c1,rat c9 c1,rat c10 c1],rat (dot c3 (V3.mk u.x u.y u.z)) ((3:Nat)*(c1+n)+4)],int .i64 (0:Int)])))))):=ah
theorem QM (a b c:V3×Nat) (K:Nat) (h:au (n3 a b c)):aO P 93 K [kV.make a,kV.make b,kV.make c] [] (aI (IM a b c) []):=by
 obtain⟨u,n⟩:=a
 obtain⟨v,m⟩:=b
 obtain⟨w,k⟩:=c
 obtain⟨h1,h2,h3⟩:n<2^34/\m<2^34/\k<2^34:=h
 refine bJ hT ad6 hm WW rfl aV rfl 60 Th (fun _=>?_) K []
 simp only[ag.all,au,Nat.max_self]
 (repeat' with_reducible first|refine And.intro ?_ ?_|intro _)
 all_goals first|omega|decide|skip
 ·rename_i hz
  have hn:o6 u v w=v0:=oX.1 hz
  have he:yG u v w=⟨v0,0⟩:=by unfold yG;rw[hn];congr 1;show(0:Rat)+0*u.x+0*u.y+0*u.z=0;grind
  refine⟨?_,bU ?_,trivial⟩
  ·show bg _ (aK (yG u v w) _)
   rw[he]
   exact SX (u:=⟨v0,0⟩) (n:=1) rfl (by simp only;omega)
  ·show(9:Int)=iM u v w
   unfold iM
   rw[if_pos (oX.2 hn)]
 ·rename_i hz
  refine⟨cz ⟨BY rfl rfl rfl (by simp only;omega) (by simp only;omega) (by simp only;omega),bI rfl (by simp only;omega),trivial⟩,bU ?_,trivial⟩
  show(0:Int)=iM u v w
  unfold iM
  rw[if_neg (by rw[Bool.not_eq_true];exact hz)]
theorem UG:aW 144 f144:=aN func144
theorem Pz:aW 97 f97:=aN func97
theorem adE {q r:Rat} {n m:Nat}:bD T qB [9] 60 f144 (aF f144) ⟨aT 0 [.rat q n,.rat r m],[],0⟩=
  some (ag.aj [(0:Nat)<1] (ag.fork ((↑(nl r.num.natAbs):Int)==0) (ag.aj [(0:Nat)<1] (ag.aj [(0:Nat)<1] (ag.leaf ak.ret [agg [AV.bool false,mag 0,mag 0],int .i64 (3:Int)]))) (ag.aj [(0:Nat)<1,(0:Nat)<1,(0:Nat)<1,(0:Nat)<1,nl q.num.natAbs<2^39,nl r.den<2^39,(0:Nat)<1,(0:Nat)<1,nl q.den<2^39,nl r.num.natAbs<2^39,nl (q.num.natAbs*r.den)<2^38,nl (q.den*r.num.natAbs)<2^38,q.den*r.num.natAbs≠0,(0:Nat)<1] (ag.aj [(0:Nat)<1] (ag.leaf ak.ret [rat (sQ (decide (q<0)!=decide (r<0)) (q.num.natAbs*r.den) (q.den*r.num.natAbs)) (dj (sQ (decide (q<0)!=decide (r<0)) (q.num.natAbs*r.den) (q.den*r.num.natAbs))),int .i64 (0:Int)]))))):=ah
theorem SM {q r:Rat} {n m:Nat} (hn:n<2^41) (hm':m<2^41) (K:Nat):aO P 144 K [.rat q n,.rat r m] [] (aI (.tuple [.rat (q/r) (n+m),.int .i64 (if r=0 then 3 else 0)]) []):=by
 refine j8 fun⟨hq,hr,_⟩=>?_
 have hq:Sz q n:=hq
 have hr:Sz r m:=hr
 have d1:=q.den_nz
 have d2:=r.den_nz
 have a1:nl q.num.natAbs<2^38:=fM hq.1 aa
 have a2:nl q.den<2^38:=fM hq.2 aa
 have b1:nl r.num.natAbs<2^38:=fM hr.1 aa
 have b2:nl r.den<2^38:=fM hr.2 aa
 have m1:nl (q.num.natAbs*r.den)<2^38:=fM (nV hq.1 hr.2) aa
 have m3:nl (q.den*r.num.natAbs)<2^38:=fM (nV hq.2 hr.1) aa
 refine bJ hT rG hm UG rfl aV rfl 60 adE (fun _=>?_) K []
 have key:((nl r.num.natAbs:Int)==0)=decide (r=0):=by
  by_cases h:r=0
  ·subst h;rfl
  ·have h1:r.num.natAbs≠0:=fun e=>h (nK.1 e)
   have:=gA.2 h1
   simp only[h,decide_false,beq_eq_false_iff_ne];omega
 rw[key]
 simp only[ag.all,au,bz,bF]
 refine⟨aa,fun h0=>?_,fun h0=>?_⟩
 ·refine⟨aa,aa,?_,bU (by rw[if_pos h0]),trivial⟩
  have e:q/r=0:=by rw[h0,Rat.div_def,Rat.inv_zero,Rat.mul_zero]
  obtain⟨k,hk⟩:∃k,n+m=k+1:=⟨n+m-1,by have:=hq.pos;omega⟩
  rw[e,hk]
  first|exact mT|exact fC aa
 ·have hr0:r.num.natAbs≠0:=fun h=>h0 (nK.1 h)
  have hv:=Ar q r h0
  (repeat' with_reducible refine And.intro ?_ ?_)
  all_goals first|omega|exact m1|exact m3|exact Nat.mul_ne_zero d1 hr0|skip
  exact⟨er hv (hq.div hr),bU (by rw[if_neg h0]),trivial⟩
def EX:aU:=[(144,fS kR kR sZ oG)]
theorem Tg:aZ P EX:=aE (fY fun _ _ K hn=>SM hn.1 hn.2 K) bA
theorem QJ {q r:Rat} {n m:Nat}:bD T EX [] 60 f97 (aF f97) ⟨aT 0 [.rat q n,.rat r m],[],0⟩=
  some (ag.aj [(0:Nat)<1,(0:Nat)<1,n<2^41,m<2^41,(0:Nat)<1] (ag.aj [(0:Nat)<1,(0:Nat)<1] (ag.aj [(0:Nat)<1] (ag.leaf ak.ret [rat (q/r) (n+m)])))):=ah
theorem M4 {q r:Rat} {n m:Nat} (hn:n<2^41) (hm':m<2^41) (K:Nat):aO P 97 K [.rat q n,.rat r m] [] (aI (.rat (q/r) (n+m)) []):=by
 refine bJ hT Tg hm Pz rfl aV rfl 60 QJ (fun _=>?_) K []
 simp only[ag.all,au]
 (repeat' with_reducible refine And.intro ?_ ?_)
 all_goals first|omega|exact bg.refl _
def Eb (a b:Rat×Nat):AV:=rA (a.1/b.1) (a.2+b.2)
def rB (n:Nat) (f:Nat->Rat):Rat:=match n with
 |0=>0
 |n+1=>rB n f+f n
structure Kn (n p:Nat) (k:Nat->Rat):Prop where
 p1:1<=p
 len:2*p+2<=n
 sorted:∀i,i+1<n->k i<=k (i+1)
 first:∀i,i<=p->k i=k 0
 last:∀i,n<=i+p+1->i<n->k i=k (n-1)
 mult:∀i,1<=i->i+p+1<n->k i<k (i+p)
theorem gB {n:Nat} {k:Nat->Rat} (h:∀i,i+1<n->k i<=k (i+1)) {i:Nat}:∀{j:Nat},i<=j->j<n->k i<=k j
 |0,hij,_=>by
    have:i=0:=by omega
    subst this;exact Rat.le_refl
 |j+1,hij,hj=>by
  by_cases he:i=j+1
  ·subst he;exact Rat.le_refl
  ·exact Rat.le_trans (gB h (j:=j) (by omega) (by omega)) (h j hj)
theorem Kn.mono {n p:Nat} {k:Nat->Rat} (h:Kn n p k) {i j:Nat} (hij:i<=j) (hj:j<n):k i<=k j:=gB h.sorted hij hj
def fr (a b t:Rat):Rat:=(t-a)/(b-a)
theorem mF {a b t:Rat} (h:a<b):fr a b t*(b-a)=t-a:=by
 unfold fr;rw[Rat.div_mul_cancel];intro e;grind
theorem YE {a b:Rat}:fr a b a=0:=by
 unfold fr;rw[Rat.sub_self,Rat.div_def,Rat.zero_mul]
theorem abL {a b:Rat} (h:a<b):fr a b b=1:=by
 unfold fr;rw[Rat.div_def,Rat.mul_inv_cancel];intro e;grind
theorem R7 {a b t:Rat} (h:a<b) (h0:a<=t):0<=fr a b t:=by
 have e:=mF (t:=t) h
 rcases Rat.le_total (a:=0) (b:=fr a b t)with h1|h1
 ·exact h1
 ·by_cases h2:fr a b t=0
  ·rw[h2];exact Rat.le_refl
  ·have:=Rat.mul_pos (a:=-fr a b t) (b:=b-a) (by grind) (by grind)
   grind
theorem aag {a b t:Rat} (h:a<b) (h0:t<=b):fr a b t<=1:=by
 have e:=mF (t:=t) h
 rcases Rat.le_total (a:=fr a b t) (b:=1)with h1|h1
 ·exact h1
 ·by_cases h2:fr a b t=1
  ·rw[h2];exact Rat.le_refl
  ·have:=Rat.mul_pos (a:=fr a b t-1) (b:=b-a) (by grind) (by grind)
   grind
def vB (k:Nat->Rat) (i:Nat) (t:Rat):Nat->Nat->Rat
 |0,j=>if j=0 then 1 else 0
 |d+1,j=>(if j=0 then 0 else fr (k (i-d+(j-1))) (k (i-d+(j-1)+(d+1))) t*vB k i t d (j-1))+
   (if j<=d then(1-fr (k (i-d+j)) (k (i-d+j+(d+1))) t)*vB k i t d j else 0)
structure At (n:Nat) (k:Nat->Rat) (i:Nat):Prop where
 lt:i+1<n
 sorted:∀i,i+1<n->k i<=k (i+1)
 wide:k i<k (i+1)
theorem At.around {n:Nat} {k:Nat->Rat} {i:Nat} (h:At n k i) {a b:Nat} (ha:a<=i) (hb:i<b) (hn:b<n):k a<k b:=by
 have h1:=gB h.sorted ha (show i<n by have:=h.lt;omega)
 have h2:=gB h.sorted (show i+1<=b by omega) hn
 have h3:=h.wide
 grind
def gR (k:Nat->Rat) (b p r:Nat) (t:Rat) (x:Nat->Rat) (j:Nat):Rat:=
 if r<j then x (j-1)+fr (k (b+j)) (k (b+j+(p-r))) t*(x j-x (j-1))else x j
def bl (k:Nat->Rat) (b p:Nat):Nat->(Nat->Rat)->List Rat->Nat->Rat
 |_,x,[]=>x
 |r,x,t::l=>bl k b p (r+1) (gR k b p r t x) l
def b7 (t:Nat->Rat):Nat->Nat->List Rat
 |_,0=>[]
 |a,l+1=>t a::b7 t (a+1) l
def bR (k:Nat->Rat) (b p:Nat) (t:Nat->Rat) (x:Nat->Rat):Nat->Nat->Rat
 |0=>x
 |r+1=>gR k b p r (t r) (bR k b p t x r)
variable {k:Nat->Rat} {b p:Nat}
theorem MD {t x:Nat->Rat}:∀{l r:Nat},bl k b p r (bR k b p t x r) (b7 t r l)=bR k b p t x (r+l)
 |0,r=>rfl
 |l+1,r=>by
  have:=MD (t:=t) (x:=x) (l:=l) (r:=r+1)
  rw[show r+(l+1)=r+1+l by omega,<-this];rfl
theorem Y8 {t x:Nat->Rat} {l:Nat}:bR k b p t x l=bl k b p 0 x (b7 t 0 l):=by
 have:=MD (k:=k) (b:=b) (p:=p) (t:=t) (x:=x) (l:=l) (r:=0)
 rw[Nat.zero_add]at this
 exact this.symm
theorem Bh:∀{l:List Rat} {r:Nat} {x y:Nat->Rat},r+l.length=p->(∀j,r<=j->j<=p->x j=y j)->bl k b p r x l p=bl k b p r y l p
 |[],r,x,y,hl,h=>h p (by simp at hl;omega) (Nat.le_refl _)
 |t::l,r,x,y,hl,h=>by
  refine Bh (l:=l) (r:=r+1) (by simp at hl;omega) fun j h1 h2=>?_
  unfold gR
  rw[if_pos (by omega),if_pos (by omega),h j (by omega) h2,h (j-1) (by omega) (by omega)]
theorem MJ {x y u v:Rat} (hu:u≠0) (hv:v≠0) (h:x*(u*v)=y*(u*v)):x=y:=by
 have:(x-y)*(u*v)=0:=by grind
 simp only[Rat.mul_eq_zero]at this
 rcases this with h1|h1|h1
 ·grind
 ·exact absurd h1 hu
 ·exact absurd h1 hv
theorem aaF {a1 a2 b1 b2 s t x0 x1 x2:Rat} (h1:a1<b1) (h2:a2<b1) (h3:a2<b2):
  x0+fr a1 b1 s*(x1-x0)+fr a2 b1 t*(x1+fr a2 b2 s*(x2-x1)-(x0+fr a1 b1 s*(x1-x0)))=
   x0+fr a1 b1 t*(x1-x0)+fr a2 b1 s*(x1+fr a2 b2 t*(x2-x1)-(x0+fr a1 b1 t*(x1-x0))):=by
 have n1:b1-a1≠0:=by intro e;grind
 have n2:b1-a2≠0:=by intro e;grind
 have n3:b2-a2≠0:=by intro e;grind
 have e1:=mF (t:=s) h1
 have e2:=mF (t:=t) h1
 have e3:=mF (t:=s) h2
 have e4:=mF (t:=t) h2
 have e5:=mF (t:=s) h3
 have e6:=mF (t:=t) h3
 generalize fr a1 b1 s=f1s at*
 generalize fr a1 b1 t=f1t at*
 generalize fr a2 b1 s=gs at*
 generalize fr a2 b1 t=gt at*
 generalize fr a2 b2 s=f2s at*
 generalize fr a2 b2 t=f2t at*
 have c0:(1-gt)*(1-f1s)=(1-gs)*(1-f1t):=by
  refine MJ n2 n1 ?_
  have q1:(1-gt)*(b1-a2)=b1-t:=by grind
  have q2:(1-f1s)*(b1-a1)=b1-s:=by grind
  have q3:(1-gs)*(b1-a2)=b1-s:=by grind
  have q4:(1-f1t)*(b1-a1)=b1-t:=by grind
  have l1:(1-gt)*(1-f1s)*((b1-a2)*(b1-a1))=((1-gt)*(b1-a2))*((1-f1s)*(b1-a1)):=by grind
  have l2:(1-gs)*(1-f1t)*((b1-a2)*(b1-a1))=((1-gs)*(b1-a2))*((1-f1t)*(b1-a1)):=by grind
  rw[l1,l2,q1,q2,q3,q4];grind
 have c2:gt*f2s=gs*f2t:=by
  refine MJ n2 n3 ?_
  have l1:gt*f2s*((b1-a2)*(b2-a2))=(gt*(b1-a2))*(f2s*(b2-a2)):=by grind
  have l2:gs*f2t*((b1-a2)*(b2-a2))=(gs*(b1-a2))*(f2t*(b2-a2)):=by grind
  rw[l1,l2,e3,e4,e5,e6];grind
 have f1:x0+f1s*(x1-x0)+gt*(x1+f2s*(x2-x1)-(x0+f1s*(x1-x0)))=((1-gt)*(1-f1s))*x0+(1-(1-gt)*(1-f1s)-gt*f2s)*x1+(gt*f2s)*x2:=by grind
 have f2:x0+f1t*(x1-x0)+gs*(x1+f2t*(x2-x1)-(x0+f1t*(x1-x0)))=((1-gs)*(1-f1t))*x0+(1-(1-gs)*(1-f1t)-gs*f2t)*x1+(gs*f2t)*x2:=by grind
 rw[f1,f2,c0,c2]
variable {n:Nat}
theorem acP (h:At n k (b+p)) (hn:b+p+p<n) {s t:Rat} {x:Nat->Rat} {r j:Nat} (h1:r+2<=j) (h2:j<=p):
  gR k b p (r+1) t (gR k b p r s x) j=gR k b p (r+1) s (gR k b p r t x) j:=by
 have a1:=h.around (a:=b+(j-1)) (b:=b+(j-1)+(p-r)) (by omega) (by omega) (by omega)
 have a2:=h.around (a:=b+j) (b:=b+j+(p-(r+1))) (by omega) (by omega) (by omega)
 have a3:=h.around (a:=b+j) (b:=b+j+(p-r)) (by omega) (by omega) (by omega)
 have e:b+j+(p-(r+1))=b+(j-1)+(p-r):=by omega
 rw[e]at a2
 simp only[gR]
 rw[if_pos (by omega),if_pos (by omega),if_pos (by omega),if_pos (by omega),if_pos (by omega),if_pos (by omega),e]
 exact aaF a1 a2 a3
theorem zl (h:At n k (b+p)) (hn:b+p+p<n) {l m:List Rat} (hp:l.Perm m):∀{r:Nat} {x:Nat->Rat},r+l.length=p->bl k b p r x l p=bl k b p r x m p:=by
 induction hp with
 |nil=>intro r x _;rfl
 |cons t _ ih=>intro r x hl;exact ih (by simp at hl;omega)
 |swap s t l=>
  intro r x hl
  refine Bh (l:=l) (r:=r+2) (by simp at hl;omega) fun j h1 h2=>?_
  exact acP h hn h1 h2
 |trans h1 h2 ih1 ih2=>intro r x hl;rw[ih1 hl,ih2 (by rw[<-h1.length_eq];exact hl)]
def pJ (t:Nat->Rat) (a:Nat):Nat->List Rat
 |0=>[]
 |l+1=>t (a+l)::pJ t a l
theorem xI {t:Nat->Rat}:∀{l a:Nat},b7 t a (l+1)=b7 t a l++[t (a+l)]
 |0,a=>rfl
 |l+1,a=>by
  rw[b7,xI (l:=l) (a:=a+1),b7,List.cons_append,show a+1+l=a+(l+1) by omega]
theorem BB {t:Nat->Rat} {a:Nat}:∀{l:Nat},(pJ t a l).Perm (b7 t a l)
 |0=>.nil
 |l+1=>by
  rw[xI,pJ]
  exact((BB (l:=l)).cons _).trans (List.perm_append_singleton _ _).symm
theorem zV {t:Nat->Rat} {m:Nat}:∀{l a:Nat},b7 t a (l+m)=b7 t a l++b7 t (a+l) m
 |0,a=>by rw[Nat.zero_add];rfl
 |l+1,a=>by
  rw[show l+1+m=(l+m)+1 by omega,b7,zV (l:=l) (a:=a+1),b7,List.cons_append,show a+1+l=a+(l+1) by omega]
theorem lI {t:Nat->Rat}:∀{l a:Nat},(b7 t a l).length=l
 |0,_=>rfl
 |l+1,a=>by rw[b7,List.length_cons,lI]
theorem Zi {l m:List Rat}:∀{r:Nat} {x:Nat->Rat},bl k b p r x (l++m)=bl k b p (r+l.length) (bl k b p r x l) m:=by
 induction l with
 |nil=>intro r x;rfl
 |cons t l ih=>
  intro r x
  rw[List.cons_append,bl,ih,bl,List.length_cons,show r+1+l.length=r+(l.length+1) by omega]
theorem EZ (h:At n k (b+p)) (hn:b+p+p<n) {J:Nat} (hJ:J<=p):∀{l r:Nat} {x:Nat->Rat},r+l=J->bl k b p r x (pJ k (b+p+1) l) J=x J
 |0,r,x,_=>rfl
 |l+1,r,x,hr=>by
  rw[pJ,bl,EZ h hn hJ (l:=l) (r:=r+1) (by omega)]
  unfold gR
  have a1:=h.around (a:=b+J) (b:=b+J+(p-r)) (by omega) (by omega) (by omega)
  rw[if_pos (by omega),show b+p+1+l=b+J+(p-r) by omega,abL a1];grind
theorem Gt {J:Nat}:∀{l q:Nat} {x:Nat->Rat},bl k b p (J+q) x (b7 k (b+J+1+q) l) (J+q+l)=x (J+q)
 |0,q,x=>rfl
 |l+1,q,x=>by
  have ih:=Gt (J:=J) (l:=l) (q:=q+1) (x:=gR k b p (J+q) (k (b+J+1+q)) x)
  rw[b7,bl,show J+q+(l+1)=J+(q+1)+l by omega,show J+q+1=J+(q+1) by omega,show b+J+1+q+1=b+J+1+(q+1) by omega,ih]
  unfold gR
  rw[if_pos (by omega),show b+J+1+q=b+(J+(q+1)) by omega,YE,show J+(q+1)-1=J+q by omega];grind
theorem Rv (h:At n k (b+p)) (hn:b+p+p<n) {J:Nat} (hJ:J<=p) {x:Nat->Rat}:bl k b p 0 x (b7 k (b+J+1) p) p=x J:=by
 have e:b7 k (b+J+1) p=b7 k (b+J+1) (p-J)++b7 k (b+p+1) J:=by
  have:=zV (t:=k) (l:=p-J) (a:=b+J+1) (m:=J)
  rw[show p-J+J=p by omega,show b+J+1+(p-J)=b+p+1 by omega]at this
  exact this
 have hp:(b7 k (b+J+1) p).Perm (pJ k (b+p+1) J++b7 k (b+J+1) (p-J)):=by
  rw[e]
  exact(List.perm_append_comm).trans ((BB).symm.append_right _)
 rw[zl h hn hp (by rw[lI];omega),Zi]
 have hd:(pJ k (b+p+1) J).length=J:=by rw[(BB).length_eq,lI]
 rw[hd,Nat.zero_add]
 have:=Gt (k:=k) (b:=b) (p:=p) (J:=J) (l:=p-J) (q:=0) (x:=bl k b p 0 x (pJ k (b+p+1) J))
 simp only[Nat.add_zero]at this
 rw[show J+(p-J)=p by omega]at this
 rw[this]
 exact EZ h hn hJ (l:=J) (r:=0) (by omega)
end Go.Am.B
namespace Go.Am.B
def kG (g:Nat->Bool):Nat->Nat
 |0=>0
 |m+1=>if g m then m else kG g m
theorem Nu {g:Nat->Bool} {i:Nat} (hi:g i=true):∀{m:Nat},i<m->(∀j,i<j->j<m->g j=false)->kG g m=i
 |0,h,_=>by omega
 |m+1,h,hn=>by
  unfold kG
  by_cases he:i=m
  ·subst he;rw[if_pos hi]
  ·rw[if_neg (by rw[hn m (by omega) (by omega)];decide),Nu hi (m:=m) (by omega) fun j h1 h2=>hn j h1 (by omega)]
def cS (n:Nat) (k:Nat->Rat) (t:Rat):Nat:=kG (fun i=>decide (k i<k (i+1))&&decide (k i<=t)) (n-1)
structure EK (n:Nat) (k:Nat->Rat) (t:Rat) (i:Nat):Prop where
 at_:At n k i
 lo:k i<=t
 hi:t<=k (i+1)
 Ea:t<k (i+1)\/k (i+1)=k (n-1)
theorem yR {n:Nat} {k:Nat->Rat} {t:Rat} {i:Nat} (h:EK n k t i):cS n k t=i:=by
 have hw:=h.at_.wide
 have hlo:=h.lo
 refine Nu (by simp[hw,hlo]) (by have:=h.at_.lt;omega) fun j h1 h2=>?_
 rcases h.Ea with h3|h3
 ·have:=gB h.at_.sorted (show i+1<=j by omega) (show j<n by omega)
  have:¬k j<=t:=by grind
  simp[this]
 ·have a1:=gB h.at_.sorted (show i+1<=j by omega) (show j<n by omega)
  have a2:=gB h.at_.sorted (show j+1<=n-1 by omega) (show n-1<n by omega)
  have:¬k j<k (j+1):=by grind
  simp[this]
theorem IE {g:Nat->Bool}:∀{m:Nat},(∃i,i<m/\g i=true)->g (kG g m)=true/\kG g m<m/\∀j,kG g m<j->j<m->g j=false
 |0,⟨i,h,_⟩=>by omega
 |m+1,⟨i,h,hi⟩=>by
  unfold kG
  by_cases hm:g m=true
  ·rw[if_pos hm];exact⟨hm,by omega,fun j h1 h2=>by omega⟩
  ·rw[if_neg hm]
   have hi':i<m:=by
    by_cases he:i=m
    ·subst he;exact absurd hi hm
    ·omega
   obtain⟨a1,a2,a3⟩:=IE (g:=g) (m:=m) ⟨i,hi',hi⟩
   refine⟨a1,by omega,fun j h1 h2=>?_⟩
   by_cases he:j=m
   ·subst he;simpa using hm
   ·exact a3 j h1 (by omega)
theorem Kn.DI {n p:Nat} {k:Nat->Rat} (h:Kn n p k) {t:Rat} (h0:k 0<=t) (h1:t<=k (n-1)):EK n k t (cS n k t)/\p<=cS n k t/\cS n k t+p+1<n:=by
 have hp:=h.p1
 have hl:=h.len
 have hw:k p<k (p+1):=by
  have:=h.mult 1 (by omega) (by omega)
  rw[h.first 1 (by omega),show 1+p=p+1 by omega]at this
  rw[h.first p (by omega)];exact this
 obtain⟨a1,a2,a3⟩:=IE (g:=fun i=>decide (k i<k (i+1))&&decide (k i<=t)) (m:=n-1) ⟨p,by omega,by rw[h.first p (by omega)]at*;simp[hw,h0]⟩
 have e:cS n k t=kG (fun i=>decide (k i<k (i+1))&&decide (k i<=t)) (n-1):=rfl
 rw[<-e]at a1 a2 a3
 generalize cS n k t=i at*
 simp only[Bool.and_eq_true,decide_eq_true_eq]at a1
 have hat:At n k i:=⟨by omega,h.sorted,a1.1⟩
 -- from the next knot on
 have key:t<k (i+1)\/k (i+1)=k (n-1):=by
  by_cases ht:t<k (i+1)
  ·exact .inl ht
  ·refine .inr ?_
   have step:∀j,i+1<=j->j<=n-1->k j=k (i+1):=by
    intro j hj1 hj2
    induction j with
    |zero=>omega
    |succ j ih=>
     by_cases hji:j+1=i+1
     ·rw[hji]
     ·have e1:=ih (by omega) (by omega)
      have:=a3 j (by omega) (by omega)
      have hs:=h.sorted j (by omega)
      by_cases hlt:k j<k (j+1)
      ·simp[hlt]at this
       grind
      ·grind
   exact(step (n-1) (by omega) (by omega)).symm
 have hi2:t<=k (i+1):=by rcases key with h2|h2<;>grind
 refine⟨⟨hat,a1.2,hi2,key⟩,?_,?_⟩
 ·by_cases hge:p<=i
  ·exact hge
  ·exfalso
   have:=h.first i (by omega)
   have:=h.first (i+1) (by omega)
   have:=a1.1
   grind
 ·by_cases hge:i+p+1<n
  ·exact hge
  ·exfalso
   have:=h.last i (by omega) (by omega)
   have:=h.last (i+1) (by omega) (by omega)
   have:=a1.1
   grind
structure KG (p j:Nat) (k:Nat->Rat) (t:Rat):Prop where
 p1:1<=p
 first:∀i,i<=p->k i=k 0
 top:k (p+j)=t
 sorted:∀i,i<p+j->k i<=k (i+1)
 mult:∀i,1<=i->i<=j->k i<k (i+p)
 half:∀i,i<=p+j->∃z:Int,k i=(z:Rat)/2/\-4<=z/\z<=2+6*(j:Int)
def oo (k:Nat->Rat) (m:Nat) (t:Rat):Nat->Rat:=fun i=>if i=m then t else k i
theorem qO {k:Nat->Rat} {m:Nat} {t:Rat}:oo k m t m=t:=if_pos rfl
theorem j0 {k:Nat->Rat} {m i:Nat} {t:Rat} (h:i≠m):oo k m t i=k i:=if_neg h
theorem KG.start {p:Nat} (hp:1<=p) {z:Int} (h1:-2<=z) (h2:z<=1):KG p 0 (fun _=>(z:Rat)) (z:Rat) where
 p1:=hp
 first:=fun _ _=>rfl
 top:=rfl
 sorted:=fun _ _=>Rat.le_refl
 mult:=fun i h1 h2=>by omega
 half:=fun i _=>⟨2*z,by
  have:((2*z:Int):Rat)=2*(z:Rat):=by simp
  rw[this];grind,by omega,by omega⟩
theorem KG.le_top {p j:Nat} {k:Nat->Rat} {t:Rat} (h:KG p j k t) {i:Nat} (hi:i<=p+j):k i<=t:=by
 rw[<-h.top]
 exact gB (n:=p+j+1) (fun i hi=>h.sorted i (by omega)) hi (by omega)
theorem KG.next {p j:Nat} {k:Nat->Rat} {t t':Rat} (h:KG p j k t) (hc:(t<t'/\∃z:Int,t'=t+(z:Rat)/2/\z<=6)\/(t'=t/\1<=j/\t≠k (j+1))):KG p (j+1) (oo k (p+1+j) t') t':=by
 have hle:t<=t':=by
  rcases hc with⟨h1,_⟩|⟨h1,_⟩
  ·grind
  ·rw[h1];exact Rat.le_refl
 have hp:=h.p1
 refine⟨hp,fun i hi=>?_,?_,fun i hi=>?_,fun i h1 h2=>?_,fun i hi=>?_⟩
 ·rw[j0 (by omega),j0 (by omega)];exact h.first i hi
 ·rw[show p+(j+1)=p+1+j by omega,qO]
 ·by_cases he:i+1=p+1+j
  ·rw[he,qO,j0 (by omega),show i=p+j by omega,h.top];exact hle
  ·rw[j0 (by omega),j0 he];exact h.sorted i (by omega)
 ·by_cases he:i=j+1
  ·subst he
   rw[show j+1+p=p+1+j by omega,qO,j0 (by omega)]
   have:=h.le_top (i:=j+1) (by omega)
   rcases hc with⟨h3,_⟩|⟨h3,h4,h5⟩
   ·grind
   ·rw[h3];grind
  ·rw[j0 (by omega),j0 (by omega)];exact h.mult i h1 (by omega)
 ·by_cases he:i=p+1+j
  ·subst he
   rw[qO]
   obtain⟨z,e1,e2,e3⟩:=h.half (p+j) (by omega)
   rw[h.top]at e1
   rcases hc with⟨h3,y,e4,e5⟩|⟨h3,_⟩
   ·refine⟨z+y,?_,?_,by omega⟩
    ·rw[e4,e1]
     have:((z+y:Int):Rat)=(z:Rat)+(y:Rat):=by simp
     rw[this];grind
    ·have hy:0<y:=by
      rcases Int.lt_or_le 0 y with h6|h6
      ·exact h6
      ·exfalso
       have:((y:Int):Rat)<=0:=Rat.intCast_nonpos.2 h6
       grind
     omega
   ·exact⟨z,by rw[h3,e1],e2,by omega⟩
  ·rw[j0 he]
   obtain⟨z,e1,e2,e3⟩:=h.half i (by omega)
   exact⟨z,e1,e2,by omega⟩
def Al (p j:Nat) (k:Nat->Rat) (t:Rat):Nat->Rat:=fun i=>if i<p+1+j then k i else t+1
theorem KG.done {p j:Nat} {k:Nat->Rat} {t:Rat} (h:KG p j k t):Kn (2*p+2+j) p (Al p j k t):=by
 have hp:=h.p1
 have lo:∀{i},i<p+1+j->Al p j k t i=k i:=fun hi=>if_pos hi
 have hi':∀{i},p+1+j<=i->Al p j k t i=t+1:=fun hi=>if_neg (by omega)
 refine⟨hp,by omega,fun i hi=>?_,fun i hi=>?_,fun i h1 h2=>?_,fun i h1 h2=>?_⟩
 ·by_cases h1:i+1<p+1+j
  ·rw[lo h1,lo (by omega)];exact h.sorted i (by omega)
  ·rw[hi' (i:=i+1) (by omega)]
   by_cases h2:i<p+1+j
   ·rw[lo h2]
    have:=h.le_top (i:=i) (by omega)
    grind
   ·rw[hi' (by omega)];exact Rat.le_refl
 ·rw[lo (i:=i) (by omega),lo (i:=0) (by omega)];exact h.first i hi
 ·rw[hi' (i:=i) (by omega),hi' (i:=2*p+2+j-1) (by omega)]
 ·by_cases h3:i+p<p+1+j
  ·rw[lo (by omega),lo h3];exact h.mult i h1 (by omega)
  ·rw[hi' (i:=i+p) (by omega),lo (i:=i) (by omega)]
   have:=h.le_top (i:=i) (by omega)
   grind
open AV
def aC:AV->Rat
 |.rat q _=>q
 |_=>0
def bT (f:Nat->AV) (n s:Nat):Prop:=∀i,i<n->bg (f i) (.rat (aC (f i)) s)
abbrev bp (k:Nat->Rat) (n s:Nat):AV:=.aq 3 n (fun i=>.rat (k i) s)
theorem dh {k:Nat->Rat} {n s s':Nat} (h:s<=s'):bT (fun i=>.rat (k i) s) n s':=fun _ _=>fC h
theorem Bo {f:Nat->AV} {n s:Nat} (h:bT f n s):bg (.aq 3 n f) (bp (fun i=>aC (f i)) n s):=dI h
def Ai:AV->Option (Nat×(Nat->AV))
 |.aq 3 n f=>some (n,f)
 |.nil=>some (0,fun _=>.rat 0 1)
 |_=>none
theorem aeB {v:AV} {n s:Nat} {f:Nat->AV} (h:Ai v=some (n,f)) (ha:bT f n s):bg v (bp (fun i=>aC (f i)) n s):=by
 unfold Ai at h
 split at h
 ·simp only[ax,Prod.mk.injEq]at h
  obtain⟨rfl,rfl⟩:=h
  exact Bo ha
 ·simp only[ax,Prod.mk.injEq]at h
  obtain⟨rfl,rfl⟩:=h
  exact lO aa
 ·simp at h
open Go Go.Am.N AV Proofs.Tryz
def kL (s:Nat):Kind (Nat×(Nat->Rat)):=⟨fun v=>match Ai v with
 |some (n,f)=>some ((n,fun i=>aC (f i)),[bT f n s])
 |none=>none,fun a=>bp a.2 a.1 s,fun {v a q} h hq=>by
  split at h
  ·rename_i h1
   simp only[ax,Prod.mk.injEq]at h
   obtain⟨rfl,rfl⟩:=h
   exact aeB h1 hq
  ·simp at h⟩
def eI (s:Nat):Kind Rat:=⟨fun v=>match ig v with
 |some (q,n)=>some (q,[n<=s])
 |none=>none,fun a=>.rat a s,fun {v a q} h hq=>by
  split at h
  ·rename_i h1
   simp only[ax,Prod.mk.injEq]at h
   obtain⟨rfl,rfl⟩:=h
   exact(iS h1).trans (fC hq)
  ·simp at h⟩
structure pU (α:Type) where
 read:List AV->Option (α×List Prop)
 make:α->List AV
 ok:∀{l:List AV} {a:α} {q:List Prop},read l=some (a,q)->au q->dH l (make a)
def kN:pU Unit:=⟨fun l=>match l with
 |[]=>some ((),[])
 |_=>none,fun _=>[],fun {l a q} h _=>by
  split at h
  ·trivial
  ·simp at h⟩
def kC {α β:Type} (k:Kind α) (kl:pU β):pU (α×β):=⟨fun l=>match l with
 |v::l=>match k.read v,kl.read l with
  |some (a,p),some (b,q)=>some ((a,b),p++q)
  |_,_=>none
 |[]=>none,fun a=>k.make a.1::kl.make a.2,fun {l a q} h hq=>by
  split at h
  ·split at h
   ·rename_i h1 h2
    simp only[ax,Prod.mk.injEq]at h
    obtain⟨rfl,rfl⟩:=h
    obtain⟨q1,q2⟩:=dP.1 hq
    exact⟨k.ok h1 q1,kl.ok h2 q2⟩
   ·simp at h
  ·simp at h⟩
def cP {α:Type} (k:pU α) (g:α->AV) (need:α->List Prop):Spec:=bY fun l=>match k.read l with
 |some (a,p)=>some (aI (g a) (p++need a))
 |none=>none
theorem cC {α:Type} {f:FuncId} {k:pU α} {g:α->AV} {need:α->List Prop} (h:∀a K,au (need a)->aO P f K (k.make a) [] (aI (g a) [])):aY P (cP k g need) f:=by
 refine cJ fun K args r hk hs _=>?_
 split at hs
 ·rename_i h1
  simp only[ax]at hs
  subst hs
  intro hn
  obtain⟨n1,hn⟩:=dP.1 hn
  exact eW (h _ K hn) hk (k.ok h1 n1) [] trivial
 ·simp at hs
def aS:AV->Pl
 |.agg [.agg [x,y,z],w]=>⟨⟨aC x,aC y,aC z⟩,aC w⟩
 |_=>⟨⟨0,0,0⟩,0⟩
def dU (f:Nat->AV) (n s:Nat):Prop:=∀i,i<n->bg (f i) (aK (aS (f i)) s)
abbrev oR (f:Nat->Pl) (n s:Nat):AV:=.aq 12 n (fun i=>aK (f i) s)
theorem CO {u v:Pl} {n k:Nat} (h:u=v) (hk:n<=k):bg (aK u n) (aK v k):=
 h▸cz ⟨oy rfl hk,bI rfl hk,trivial⟩
theorem jb {f:Nat->Pl} {n s s':Nat} (h:s<=s'):dU (fun i=>aK (f i) s) n s':=fun _ _=>CO rfl h
def sS:AV->Option (Nat×(Nat->AV))
 |.aq 12 n f=>some (n,f)
 |.nil=>some (0,fun _=>.nil)
 |_=>none
theorem Yc {v:AV} {n s:Nat} {f:Nat->AV} (h:sS v=some (n,f)) (ha:dU f n s):bg v (oR (fun i=>aS (f i)) n s):=by
 unfold sS at h
 split at h
 ·simp only[ax,Prod.mk.injEq]at h
  obtain⟨rfl,rfl⟩:=h
  exact dI ha
 ·simp only[ax,Prod.mk.injEq]at h
  obtain⟨rfl,rfl⟩:=h
  exact lO aa
 ·simp at h
def ER (s:Nat):Kind (Nat×(Nat->Pl)):=⟨fun v=>match sS v with
 |some (n,f)=>some ((n,fun i=>aS (f i)),[dU f n s])
 |none=>none,fun a=>oR a.2 a.1 s,fun {v a q} h hq=>by
  split at h
  ·rename_i h1
   simp only[ax,Prod.mk.injEq]at h
   obtain⟨rfl,rfl⟩:=h
   exact Yc h1 hq
  ·simp at h⟩
def nO (s:Nat):Kind V3:=⟨fun v=>match v with
 |.agg [x,y,z]=>match ig x,ig y,ig z with
  |some (x,a),some (y,b),some (z,c)=>some (⟨x,y,z⟩,[a<=s,b<=s,c<=s])
  |_,_,_=>none
 |_=>none,fun a=>vA a s,fun {v a q} h hq=>by
  split at h
  ·split at h
   ·rename_i h1 h2 h3
    simp only[ax,Prod.mk.injEq]at h
    obtain⟨rfl,rfl⟩:=h
    exact cz ⟨(iS h1).trans (bI rfl hq.1),(iS h2).trans (bI rfl hq.2.1),(iS h3).trans (bI rfl hq.2.2),trivial⟩
   ·simp at h
  ·simp at h⟩
abbrev cu (h:Pl) (s:Nat):AV:=.agg [.rat h.n.x s,.rat h.n.y s,.rat h.n.z s,.rat h.d s]
def TW (s:Nat):Kind Pl:=⟨fun v=>match v with
 |.agg [x,y,z,w]=>match ig x,ig y,ig z,ig w with
  |some (x,a),some (y,b),some (z,c),some (w,d)=>some (⟨⟨x,y,z⟩,w⟩,[a<=s,b<=s,c<=s,d<=s])
  |_,_,_,_=>none
 |_=>none,fun a=>cu a s,fun {v a q} h hq=>by
  split at h
  ·split at h
   ·rename_i h1 h2 h3 h4
    simp only[ax,Prod.mk.injEq]at h
    obtain⟨rfl,rfl⟩:=h
    exact cz ⟨(iS h1).trans (bI rfl hq.1),(iS h2).trans (bI rfl hq.2.1),(iS h3).trans (bI rfl hq.2.2.1),(iS h4).trans (bI rfl hq.2.2.2),trivial⟩
   ·simp at h
  ·simp at h⟩
structure Cu where
 p:Int
 n:Nat
 k:Nat->Rat
 m:Nat
 f:Nat->Pl
abbrev bh (c:Cu) (s r:Nat):AV:=.agg [.int .i64 c.p,bp c.k c.n s,oR c.f c.m r]
def gE (s r:Nat):Kind Cu:=⟨fun v=>match v with
 |.agg [p,k,f]=>match kI.read p,(kL s).read k,(ER r).read f with
  |some (p,q1),some ((n,k),q2),some ((m,f),q3)=>some (⟨p,n,k,m,f⟩,q1++(q2++q3))
  |_,_,_=>none
 |_=>none,fun a=>bh a s r,fun {v a q} h hq=>by
  split at h
  ·split at h
   ·rename_i h1 h2 h3
    simp only[ax,Prod.mk.injEq]at h
    obtain⟨rfl,rfl⟩:=h
    obtain⟨q1,hq⟩:=dP.1 hq
    obtain⟨q2,q3⟩:=dP.1 hq
    exact cz ⟨kI.ok h1 q1,(kL s).ok h2 q2,(ER r).ok h3 q3,trivial⟩
   ·simp at h
  ·simp at h⟩
theorem Cf {rl:List (Nat×Nat)} {l i s s' s2:Nat} {x y:Nat->Pl} {t:AV} {z:AV} (hx:∀i,i<l->x i=y i) (ht:bg t (aK (y l) s')) (hk:keys t=[]) (h1:s<=s2) (h2:s'<=s2) (hi:i<l+1):
  iF rl (if i<l then aK (x i) s else nth [t] z (i-l+0)) (aK (y i) s2):=by
 by_cases h:i<l
 ·rw[if_pos h,hx i h];exact .inr ⟨rfl,CO rfl h1⟩
 ·have:i=l:=aa
  subst this
  rw[if_neg h,Nat.sub_self]
  exact .inr ⟨hk,ht.trans (CO rfl h2)⟩
open Go Go.Am.N AV ag ak IntKind Proofs.Tryz
theorem Pf {u v:AV} (h:bg u v):bg (.bn u) (.bn v):=by
 refine⟨rfl,fun M w cs hc=>?_⟩
 cases hc with
 |bn h1 h2 h3=>cases h3;exact .bn (h.2 _ _ _ h1) h2 .nil
def x8 {α:Type} (k:Kind α):Kind α:=⟨fun v=>match v with
 |.bn v=>k.read v
 |_=>none,fun a=>.bn (k.make a),fun {v a q} h hq=>by
  split at h
  ·exact Pf (k.ok h hq)
  ·simp at h⟩
theorem OV:aW 30 f30:=aN func30
theorem ZF:aW 40 f40:=aN func40
theorem YX:aW 31 f31:=aN func31
theorem TT:aW 36 f36:=aN func36
theorem QE:aW 39 f39:=aN func39
theorem Is:aW 33 f33:=aN func33
theorem ade:aW 32 f32:=aN func32
theorem Ws:aW 45 f45:=aN func45
theorem Wn:aW 43 f43:=aN func43
theorem Py:aW 46 f46:=aN func46
abbrev gN:Nat:=60000
abbrev m9:Nat:=300000
abbrev ek:Nat:=400000
abbrev eP (a:Rat×Rat) (n:Nat):AV:=.agg [.rat a.1 n,.rat a.2 n]
def z8 (s:Nat):Kind (Rat×Rat):=⟨fun v=>match v with
 |.agg [x,y]=>some ((aC x,aC y),[bg x (.rat (aC x) s),bg y (.rat (aC y) s)])
 |_=>none,fun a=>eP a s,fun {v a q} h hq=>by
  split at h
  ·simp only[ax,Prod.mk.injEq]at h
   obtain⟨rfl,rfl⟩:=h
   exact cz ⟨hq.1,hq.2,trivial⟩
  ·simp at h⟩
def qM:aU:=(75,fX dV dV rD (b2 38))::(76,fX dV dV p9 (b2 38))::(166,fX dV dV rN (b2 38))::(73,fX dV dV nU (b2 38))::(74,zJ dV tX (b1 38))::(72,fX dV dV rK (b2 38))::gk
def xJ:aU:=[(33,cO T (sG::gk) [] 60 f33),(121,cO T (sG::qM) [] 60 f121)]
def Cl:aU:=[(59,cO T (sG::xJ) [] 60 f59),(71,cO T (sG::xJ) [] 60 f71),(90,cO T (sG::gk) [] 60 f90)]
abbrev aG (k:Nat->Rat) (f:Nat->Pl):Cu:=⟨1,4,k,2,f⟩
def fP (c:Cu):Bool:=decide ((c.f 0).d=(c.f 1).d)&&!gr (c.f 0).n (c.f 1).n
def lX (c:Cu) (i:Nat):V3:=if(c.f 0).d=(c.f 1).d then(c.f i).n else v0
def dx (c:Cu):Prop:=c.p=1/\c.n=4/\c.m=2
def Kr:Spec:=cP (kC (gE 1000 1000) kN) (fun a=>.tuple [vA (lX a.1 0) 2000,vA (lX a.1 1) 2000,.bool (fP a.1)]) fun a=>[dx a.1]
def Lu:Spec:=cP (kC (gE 1000 1000) kN) (fun a=>.bool (fP a.1)) fun a=>[dx a.1]
def MQ:aU:=sG::(Cl++qM)
def JD:aU:=sG::xJ
def lU (a b p:V3):Bool:=gC a b p&&!decide (dot (bV b a) (bV b a)=0)
def oZ (a b p:V3):Rat:=if gC a b p=true then dQ a b p else 0
def J8:Spec:=cP (kC (nO 2000) (kC (nO 2000) (kC (nO 2000) kN))) (fun a=>.tuple [.rat (oZ a.1 a.2.1 a.2.2.1) gN,.bool (lU a.1 a.2.1 a.2.2.1)]) fun _=>[]
def Av:aU:=[(37,fS kR kR sZ oe)]
def Er:aU:=nG::(75,fS kV kV rD fW)::(76,fS kV kV p9 fW)::(73,fS kV kV nU fW)::(74,wI kV tX n1)::Av
def JE:aU:=nG::(Av++eO)
def Nk:Spec:=cP (kC (eI gN) (kC (x8 (eI gN)) (kC (x8 (eI gN)) kN))) (fun a=>.rat (cB a.2.1 a.2.2.1 a.1) m9) fun _=>[]
def zI (s:Nat):Spec:=cP (kC (eI s) (kC (eI s) kN)) (fun a=>.rat (bW a.1 a.2.1) s) fun _=>[]
def x3 (s:Nat):Spec:=cP (kC (eI s) (kC (eI s) kN)) (fun a=>.rat (bX a.1 a.2.1) s) fun _=>[]
def BH (s:Nat):aU:=nG::(78,zI s)::(77,x3 s)::eO
def Ax (s:Nat):aU:=nG::(95,zI s)::(94,x3 s)::ki
def vc (s:Nat):Spec:=cP (kC (eI s) (kC (eI s) kN)) (fun a=>eP (bW a.1 a.2.1,bX a.1 a.2.1) s) fun _=>[]
def sI (a b:Rat×Rat):Rat:=bX a.1 b.1
def tQ (a b:Rat×Rat):Rat:=bW a.2 b.2
def jZ (a b:Rat×Rat):Bool:=!decide (tQ a b<sI a b)
def lf (a b:Rat×Rat):Rat×Rat:=if tQ a b<sI a b then(0,0)else(sI a b,tQ a b)
def xM (s:Nat):Spec:=cP (kC (z8 s) (kC (z8 s) kN)) (fun a=>.tuple [eP (lf a.1 a.2.1) s,.bool (jZ a.1 a.2.1)]) fun _=>[]
def mL (c:Cu) (s t:Rat):Rat×Rat:=(bW (c.k 0+s*(c.k 3-c.k 0)) (c.k 0+t*(c.k 3-c.k 0)),bX (c.k 0+s*(c.k 3-c.k 0)) (c.k 0+t*(c.k 3-c.k 0)))
def Dr:Spec:=cP (kC (gE 1000 1000) kN) (fun a=>eP (a.1.k 0,a.1.k 3) 1000) fun a=>[dx a.1,a.1.k 0<a.1.k 3]
def Ge:Spec:=cP (kC (z8 1000) kN) (fun a=>.rat (a.1.2-a.1.1) 2001) fun _=>[]
def Ie:Spec:=cP (kC (gE 1000 1000) (kC (eI m9) (kC (eI m9) kN))) (fun a=>eP (mL a.1 a.2.1 a.2.2.1) ek) fun a=>[dx a.1,a.1.k 0<a.1.k 3]
def E6 (n:Nat):aU:=nG::(59,Dr)::(90,Ge)::(33,vc (1000+(n+2001)+1))::eO
def Ki:aU:=[(26,fS kV kV nU fW),(98,fS kV kV p9 fW),(97,fS kR kR Eb oG)]
def Db:aU:=[(41,cO T [sG] [] 60 f41),(44,cO T [sG] [] 60 f44)]
def Eu:aU:=[(99,cO T (nG::ki) [] 60 f99)]
def F7:aU:=nG::(Ki++(Db++(Eu++ki)))
def MV:Spec:=cP (kC (gE 1000 1000) (kC (nO 1000) kN)) (fun a=>.rat (a.1.k 0+dQ (a.1.f 0).n (a.1.f 1).n a.2.1*(a.1.k 3-a.1.k 0)) ek) fun a=>[dx a.1]
theorem SY {k:Nat->Rat} {f:Nat->Pl}:bD T MQ [29] 60 f30 (aF f30) ⟨aT 0 [bh (aG k f) 1000 1000],[],0⟩=
  let c5:Rat:=(f (Int.toNat (1:Int))).d;let c4:AV:=rat 0 1;let c3:Prop:=0<1;let c2:Pl:=f (Int.toNat (0:Int));let c1:V3:=(f (i64.wrap ((↑(2:Nat):Int)-1)).toNat).n;some (fork (bif bif (1:Int)!=1 then true else(↑(2:Nat):Int)!=2 then true else !decide (c2.d=c5)) (aj [c3,c3] (leaf ret [agg [c4,c4,c4],agg [c4,c4,c4],AV.bool false])) (aj [c3,c3,c3,c3] (aj [c3,c3] (leaf ret [agg [rat (c2.n.x+0) 1002,rat (c2.n.y+0) 1002,rat (c2.n.z+0) 1002],agg [rat (c1.x+0) 1002,rat (c1.y+0) 1002,rat (c1.z+0) 1002],AV.bool !gr (V3.mk (c2.n.x+0) (c2.n.y+0) (c2.n.z+0)) (V3.mk (c1.x+0) (c1.y+0) (c1.z+0))])))):=ah
theorem Ol {k:Nat->Rat} {f:Nat->Pl}:bD T BK [25] 60 f40 (aF f40) ⟨aT 0 [bh (aG k f) 1000 1000],[],0⟩=
  let c3:Pl:=f (Int.toNat (0:Int));let c2:Pl:=f (Int.toNat (1:Int));let c1:Bool:=bif bif (1:Int)==1 then(↑(2:Nat):Int)==2 else false then decide (c3.d=c2.d)else false;some (fork c1 (aj [c1=true] (leaf ret [AV.bool (bif true then !gr (V3.mk c3.n.x c3.n.y c3.n.z) (V3.mk c2.n.x c2.n.y c2.n.z)else false)])) (aj [c1=false] (leaf ret [AV.bool false]))):=ah
theorem YM {a b p:V3} {n:Nat}:bD T Er [22] 60 f31 (aF f31) ⟨aT 0 [vA a n,vA b n,vA p n],[],0⟩=
  let c4:Nat:=2^38;let c3:V3:=V3.mk (b.x-a.x) (b.y-a.y) (b.z-a.z);let c2:Prop:=0<1;let c1:Nat:=n+n+1;let c7:Prop:=c1<=c1;let c6:Nat:=3*(c1+c1)+4;let c5:Nat:=c1+c1+(c1+c1)+1;let c8:Prop:=c6<2^42;some (aj [c2,c2,n<=n,n<=n,n<=n,n<=n,n<c4,n<c4,c2,c2,n<=n,n<=n,n<=n,n<=n,n<c4,n<c4,c2,c2] (aj [c2,c2,c7,c7,c7,c7,c1<c4,c1<c4,c5<=c5,c5<=c5,c5<c4] (fork (!gr (V3.mk ((b.y-a.y)*(p.z-a.z)-(b.z-a.z)*(p.y-a.y)) ((b.z-a.z)*(p.x-a.x)-(b.x-a.x)*(p.z-a.z)) ((b.x-a.x)*(p.y-a.y)-(b.y-a.y)*(p.x-a.x))) v0) (aj [c2] (aj [c2] (leaf ret [agg [AV.bool false,mag 0,mag 0],AV.bool false]))) (aj [c2,c2,c7,c7,c7,c7,c1<c4,c1<c4,c2,c2,c7,c7,c7,c7,c1<c4,c1<c4,c8,c8,c2] (aj [c2,c2] (aj [c2] (leaf ret [rat (dot (V3.mk (p.x-a.x) (p.y-a.y) (p.z-a.z)) c3/dot c3 c3) (c6+c6),AV.bool ((if dot c3 c3=0 then(3:Int)else(0:Int))==0)]))))))):=ah
theorem Zu {r s t:Rat} {n:Nat}:bD T JE [] 60 f36 (aF f36) ⟨aT 0 [.rat r n,.bn (.rat s n),.bn (.rat t n)],[],0⟩=
  let c3:Nat:=n+n+1;let c2:Prop:=0<1;let c1:Nat:=2^42;some (aj [c2,n<c1,n<c1,n<c1,n<c1,c3<c1,c3<c1,c2] (aj [c2,c2] (aj [c2] (leaf ret [rat ((r-s)/(t-s)) (c3+c3)])))):=ah
theorem Yj {x y:Rat} {s:Nat}:bD T (BH s) [] 60 f33 (aF f33) ⟨aT 0 [.rat x s,.rat y s],[],0⟩=
  let c1:Prop:=0<1;some (aj [c1,c1,s<=s,s<=s,c1,c1,s<=s,s<=s,c1] (aj [c1] (leaf ret [agg [rat (bW x y) s,rat (bX x y) s]]))):=ah
theorem UQ {x y:Rat} {s:Nat}:bD T (Ax s) [] 60 f45 (aF f45) ⟨aT 0 [.rat x s,.rat y s],[],0⟩=
  let c1:Prop:=0<1;some (aj [c1,c1,s<=s,s<=s,c1,c1,s<=s,s<=s,c1] (aj [c1] (leaf ret [agg [rat (bW x y) s,rat (bX x y) s]]))):=ah
theorem abO {x y:Rat×Rat} {s:Nat}:bD T (BH s) [23] 60 f32 (aF f32) ⟨aT 0 [eP x s,eP y s],[],0⟩=
  let c4:AV:=rat 0 1;let c3:Prop:=s<2^42;let c2:Int:=cZ (bX x.fst y.fst) (bW x.snd y.snd);let c1:Prop:=0<1;some (aj [c1,c1,s<=s,s<=s,c1,c1,s<=s,s<=s,c1] (aj [c1,c1,c3,c3] (fork (decide (c2>0)) (aj [c1] (aj [c1] (leaf ret [agg [c4,c4],AV.bool false]))) (aj [c1,c1] (aj [c1] (leaf ret [agg [rat (bX x.fst y.fst) s,rat (bW x.snd y.snd) s],AV.bool true])))))):=ah
theorem Wm {x y:Rat×Rat} {s:Nat}:bD T (Ax s) [23] 60 f43 (aF f43) ⟨aT 0 [eP x s,eP y s],[],0⟩=
  let c4:AV:=rat 0 1;let c3:Prop:=s<2^41;let c2:Int:=cZ (bX x.fst y.fst) (bW x.snd y.snd);let c1:Prop:=0<1;some (aj [c1,c1,s<=s,s<=s,c1,c1,s<=s,s<=s,c1] (aj [c1,c1,c3,c3] (fork (decide (c2>0)) (aj [c1] (aj [c1] (leaf ret [agg [c4,c4],AV.bool false]))) (aj [c1,c1] (aj [c1] (leaf ret [agg [rat (bX x.fst y.fst) s,rat (bW x.snd y.snd) s],AV.bool true])))))):=ah
theorem aa2 {k:Nat->Rat} {f:Nat->Pl}:bD T JD [] 60 f59 (aF f59) ⟨aT 0 [bh (aG k f) 1000 1000],[],0⟩=
  let c1:Rat:=k (i64.wrap ((↑(4:Nat):Int)-1)).toNat;some (aj [(0:Nat)<1] (aj [(0:Nat)<1] (leaf ret [agg [rat (bW (k (Int.toNat (0:Int))) c1) 1000,rat (bX (k (Int.toNat (0:Int))) c1) 1000]]))):=ah
theorem VI {x y:Rat}:bD T (sG::gk) [] 60 f90 (aF f90) ⟨aT 0 [eP (x,y) 1000],[],0⟩=
  some (aj [(0:Nat)<1] (leaf ret [rat (y-x) 2001])):=ah
theorem SV {k:Nat->Rat} {f:Nat->Pl} {s t:Rat} {n:Nat}:bD T (E6 n) [] 60 f39 (aF f39) ⟨aT 0 [bh (aG k f) 1000 1000,.rat s n,.rat t n],[],0⟩=
  let c9:Nat:=n+2001;let c7:Rat:=aC (rat (k 3) 1000);let c5:Nat:=2^42;let c4:Prop:=0<1;let c2:Rat:=aC (rat (k 0) 1000);let c8:AV:=rat c2 1000;let c6:AV:=rat c7 1000;let c3:Nat:=1000+c9+1;let c1:Rat:=aC c6-aC c8;some (aj [c4,bT (fun i=>rat (k i) 1000) 4 1000,dU (fun i=>aK (f i) 1000) 2 1000,dx (Cu.mk (1:Int) 4 (fun i=>aC (rat (k i) 1000)) 2 fun i=>aS (aK (f i) 1000)),c2<c7,c4] (aj [c4,bg c8 (rat (aC c8) 1000),bg c6 (rat (aC c6) 1000),c4] (aj [c4,c4,c4,n<c5,(2001:Nat)<c5,(1000:Nat)<c5,c9<c5,c4,c4,c4,n<c5,(2001:Nat)<c5,(1000:Nat)<c5,c9<c5,c3<=c3,c3<=c3,c4] (aj [c4] (leaf ret [agg [rat (bW (c2+s*c1) (c2+t*c1)) c3,rat (bX (c2+s*c1) (c2+t*c1)) c3]]))))):=ah
theorem WT {k:Nat->Rat} {f:Nat->Pl} {p:V3} {n:Nat}:bD T F7 [] 60 f46 (aF f46) ⟨aT 0 [bh (aG k f) n n,vA p n],[],0⟩=
  let c9:Nat:=Int.toNat (0:Int);let c8:V3:=(f (i64.wrap ((↑(2:Nat):Int)-1)).toNat).n;let c6:Nat:=2^41;let c5:Nat:=2^38;let c3:Prop:=0<1;let c2:Nat:=n+n+1;let c10:Prop:=c2<=c2;let c7:V3:=(f c9).n;let c4:Nat:=3*(c2+c2)+4;let c1:V3:=V3.mk (c8.x-c7.x) (c8.y-c7.y) (c8.z-c7.z);some (aj [c3,c3,c3,c3,c3] (aj [c3,c3,n<=n,n<=n,n<=n,n<=n,n<c5,n<c5,c3] (aj [c3,c3,n<=n,n<=n,n<=n,n<=n,n<c5,n<c5,c3,c10,c10,c10,c10,c2<c5,c2<c5,c3,c3,c10,c10,c10,c10,c2<c5,c2<c5,c4<c6,c4<c6,c3] (aj [c3,c3,c3] (aj [c3,c3,c3,c3,c3,n<c6,n<c6,c3,c3,c4+c4<c6,c2<c6,n<c6,c4+c4+c2<c6,c3] (aj [c3] (leaf ret [rat (k c9+dot (V3.mk (p.x-c7.x) (p.y-c7.y) (p.z-c7.z)) c1/dot c1 c1*(k (i64.wrap ((↑(4:Nat):Int)-1)).toNat-k c9)) (n+(c4+c4+c2)+1)]))))))):=ah
theorem sr:aZ P qM:=aE (gb fun a b K hn=>Ig a b K (dL hn)) (aE (gb fun a b K hn=>MY a b K (dL hn)) (aE (gb fun a b K hn=>VB a b K (dL hn)) (aE (gb fun a b K hn=>FH a b K (dL hn)) (aE (CZ fun a K hn=>LG a K (HA hn)) (aE (gb fun a b K hn=>Kk a b K (dL hn)) gz)))))
theorem Bs:aZ P xJ:=aE (cQ hT (ct gz) hm Is _ _) (aE (cQ hT (ct sr) hm (aN func121) _ _) bA)
theorem E3:aW 59 f59:=aN func59
theorem JR:aW 90 f90:=aN func90
theorem Ka:aZ P Cl:=aE (cQ hT (ct Bs) hm E3 _ _) (aE (cQ hT (ct Bs) hm (aN func71) _ _) (aE (cQ hT (ct gz) hm JR _ _) bA))
theorem QB:aZ P MQ:=ct (gP Ka sr)
theorem aa6:aZ P JD:=ct Bs
theorem mC {c:Cu} (h:dx c):c=aG c.k c.f:=by
 obtain⟨p,n,k,m,f⟩:=c
 obtain⟨h1,h2,h3⟩:=h
 dsimp only at h1 h2 h3
 subst h1 h2 h3;rfl
theorem jm {k:Nat->Rat} {f:Nat->Pl}:dx (aG k f):=⟨rfl,rfl,rfl⟩
theorem P1 {v:V3}:V3.mk (v.x+0) (v.y+0) (v.z+0)=v:=mw (Rat.add_zero _) (Rat.add_zero _) (Rat.add_zero _)
theorem Q4:aY P Kr 30:=cC fun⟨c,_⟩ K hn=>by
 dsimp only
 rw[mC (show dx c from hn)]
 generalize c.k=k,c.f=f
 refine bJ (r:=aI (.tuple [vA (lX (aG k f) 0) 2000,vA (lX (aG k f) 1) 2000,.bool (fP (aG k f))]) []) hT QB hm OV rfl aV rfl 60 SY (fun _=>?_) K []
 have e1:(f (i64.wrap (((2:Nat):Int)-1)).toNat)=f 1:=rfl
 simp only[ag.all,au,P1,e1,Int.toNat_zero,Int.toNat_one,show((1:Int)!=1)=false from rfl,show(((2:Nat):Int)!=2)=false from rfl,cond_false,Bool.not_eq_true',Bool.not_eq_false',bz,bF]
 refine⟨fun h=>⟨aa,?_⟩,fun h=>⟨aa,aa,?_⟩⟩
 ·have q:∀i,lX (aG k f) i=v0:=fun i=>if_neg h
  rw[q,q,show fP (aG k f)=false by unfold fP;simp[h]]
  exact⟨cz ⟨fC (by decide),fC (by decide),fC (by decide),trivial⟩,cz ⟨fC (by decide),fC (by decide),fC (by decide),trivial⟩,.refl _,trivial⟩
 ·have q:∀i,lX (aG k f) i=(f i).n:=fun i=>if_pos h
  rw[q,q,show fP (aG k f)=!gr (f 0).n (f 1).n by unfold fP;simp[h]]
  exact⟨BY (Rat.add_zero _) (Rat.add_zero _) (Rat.add_zero _) (by decide) (by decide) (by decide),BY (Rat.add_zero _) (Rat.add_zero _) (Rat.add_zero _) (by decide) (by decide) (by decide),.refl _,trivial⟩
theorem acQ:aY P Lu 40:=cC fun⟨c,_⟩ K hn=>by
 dsimp only
 rw[mC (show dx c from hn)]
 generalize c.k=k,c.f=f
 refine bJ (r:=aI (.bool (fP (aG k f))) []) hT FB hm ZF rfl aV rfl 60 Ol (fun _=>?_) K []
 simp only[ag.all,au,Int.toNat_zero,Int.toNat_one,show((1:Int)==1)=true from rfl,show(((2:Nat):Int)==2)=true from rfl,cond_true,bz,bF]
 refine⟨fun h=>⟨h,?_⟩,fun h=>⟨h,?_⟩⟩
 ·rw[show fP (aG k f)=!gr (f 0).n (f 1).n by unfold fP;simp[h]];exact .refl _
 ·rw[show fP (aG k f)=false by unfold fP;simp[h]];exact .refl _
theorem Lf:aZ P Av:=aE (fY fun _ _ K hn=>u7 hn.1 hn.2 K) bA
theorem acB:aZ P Er:=eV (aE (fY Ig) (aE (fY MY) (aE (fY FH) (aE (xN LG) Lf))))
theorem Vq {a b p:V3} {n s:Nat} (hn:n<2^30) (hs:6*(n+n+1+(n+n+1))+8<=s) (K:Nat):aO P 31 K [vA a n,vA b n,vA p n] [] (aI (.tuple [.rat (oZ a b p) s,.bool (lU a b p)]) []):=by
 refine bJ (r:=aI (.tuple [.rat (oZ a b p) s,.bool (lU a b p)]) []) hT acB hm YX rfl aV rfl 60 YM (fun _=>?_) K []
 have e1:dot (V3.mk (p.x-a.x) (p.y-a.y) (p.z-a.z)) (V3.mk (b.x-a.x) (b.y-a.y) (b.z-a.z))/dot (V3.mk (b.x-a.x) (b.y-a.y) (b.z-a.z)) (V3.mk (b.x-a.x) (b.y-a.y) (b.z-a.z))=dQ a b p:=rfl
 have e2:dot (V3.mk (b.x-a.x) (b.y-a.y) (b.z-a.z)) (V3.mk (b.x-a.x) (b.y-a.y) (b.z-a.z))=dot (bV b a) (bV b a):=rfl
 have e3:gr (V3.mk ((b.y-a.y)*(p.z-a.z)-(b.z-a.z)*(p.y-a.y)) ((b.z-a.z)*(p.x-a.x)-(b.x-a.x)*(p.z-a.z)) ((b.x-a.x)*(p.y-a.y)-(b.y-a.y)*(p.x-a.x))) v0=gC a b p:=rfl
 simp only[ag.all,au,e1,e2,e3,Bool.not_eq_true',Bool.not_eq_false']
 refine⟨aa,aa,fun h=>⟨aa,aa,?_,?_,trivial⟩,fun h=>⟨aa,aa,aa,bI ?_ aa,?_,trivial⟩⟩
 ·rw[show oZ a b p=0 from if_neg (by rw[h];decide)]
  exact(mT (k:=0)).trans (fC aa)
 ·rw[show lU a b p=false by unfold lU;rw[h];rfl];exact .refl _
 ·exact(if_pos h).symm
 ·rw[show((if dot (bV b a) (bV b a)=0 then(3:Int)else 0)==0)=lU a b p by unfold lU;rw[h];by_cases g:dot (bV b a) (bV b a)=0<;>simp[g]]
  exact .refl _
theorem adv:aY P J8 31:=cC fun⟨a,b,p,_⟩ K _=>Vq (by decide) (by decide) K
theorem TX:aZ P JE:=eV (gP Lf fq)
theorem Yi {r s t:Rat} {n w:Nat} (hn:n<2^38) (hw:4*n+2<=w) (K:Nat):aO P 36 K [.rat r n,.bn (.rat s n),.bn (.rat t n)] [] (aI (.rat (cB s t r) w) []):=by
 refine bJ (r:=aI (.rat (cB s t r) w) []) hT TX hm TT rfl aV rfl 60 Zu (fun _=>?_) K []
 simp only[ag.all,au]
 (repeat' with_reducible refine And.intro ?_ ?_)
 all_goals first|omega|exact bI rfl aa
theorem Ta:aY P Nk 36:=cC fun⟨r,s,t,_⟩ K _=>Yi (by decide) (by decide) K
theorem Pv {s:Nat} (hs:s<2^42):aY P (zI s) 78:=cC fun⟨x,y,_⟩ K _=>by
 have:=F6 (q:=x) (r:=y) hs hs K;rw[Nat.max_self]at this;exact this
theorem acq {s:Nat} (hs:s<2^42):aY P (x3 s) 77:=cC fun⟨x,y,_⟩ K _=>by
 have:=HS (q:=x) (r:=y) hs hs K;rw[Nat.max_self]at this;exact this
theorem Rt {s:Nat} (hs:s<2^41):aY P (zI s) 95:=cC fun⟨x,y,_⟩ K _=>by
 have:=Va (q:=x) (r:=y) hs hs K;rw[Nat.max_self]at this;exact this
theorem N9 {s:Nat} (hs:s<2^41):aY P (x3 s) 94:=cC fun⟨x,y,_⟩ K _=>by
 have:=XH (q:=x) (r:=y) hs hs K;rw[Nat.max_self]at this;exact this
theorem JN {s:Nat} (hs:s<2^42):aZ P (BH s):=eV (aE (Pv hs) (aE (acq hs) fq))
theorem HD {s:Nat} (hs:s<2^41):aZ P (Ax s):=eV (aE (Rt hs) (aE (N9 hs) lH))
theorem Hv {s:Nat} (hs:s<2^42):aY P (vc s) 33:=cC fun⟨x,y,_⟩ K _=>by
 refine bJ (r:=aI (eP (bW x y,bX x y) s) []) hT (JN hs) hm Is rfl aV rfl 60 Yj (fun _=>?_) K []
 simp only[ag.all,au]
 (repeat' with_reducible refine And.intro ?_ ?_)
 all_goals first|omega|exact .refl _
theorem Se {s:Nat} (hs:s<2^41):aY P (vc s) 45:=cC fun⟨x,y,_⟩ K _=>by
 refine bJ (r:=aI (eP (bW x y,bX x y) s) []) hT (HD hs) hm Ws rfl aV rfl 60 UQ (fun _=>?_) K []
 simp only[ag.all,au]
 (repeat' with_reducible refine And.intro ?_ ?_)
 all_goals first|omega|exact .refl _
theorem ya {x y:Rat×Rat} {s:Nat} (h1:1<=s):(cZ (bX x.1 y.1) (bW x.2 y.2)>0->dH [.agg [.rat 0 1,.rat 0 1],.bool false] [eP (lf x y) s,.bool (jZ x y)])/\(¬cZ (bX x.1 y.1) (bW x.2 y.2)>0->dH [.agg [.rat (bX x.1 y.1) s,.rat (bW x.2 y.2) s],.bool true] [eP (lf x y) s,.bool (jZ x y)]):=by
 have e:cZ (bX x.1 y.1) (bW x.2 y.2)>0↔tQ x y<sI x y:=decide_eq_decide.1 GW
 unfold lf jZ
 rw[e]
 refine⟨fun h=>?_,fun h=>?_⟩
 ·rw[if_pos h,decide_eq_true h];exact⟨cz ⟨fC h1,fC h1,trivial⟩,.refl _,trivial⟩
 ·rw[if_neg h,decide_eq_false h];exact⟨.refl _,.refl _,trivial⟩
theorem O4 {s:Nat} (h1:1<=s) (hs:s<2^42):aY P (xM s) 32:=cC fun⟨x,y,_⟩ K _=>by
 refine bJ (r:=aI (.tuple [eP (lf x y) s,.bool (jZ x y)]) []) hT (JN hs) hm ade rfl aV rfl 60 abO (fun _=>?_) K []
 simp only[ag.all,au,bz,bF]
 exact⟨aa,aa,fun h=>⟨aa,aa,(ya h1).1 h⟩,fun h=>⟨aa,aa,(ya h1).2 h⟩⟩
theorem afh {s:Nat} (h1:1<=s) (hs:s<2^41):aY P (xM s) 43:=cC fun⟨x,y,_⟩ K _=>by
 refine bJ (r:=aI (.tuple [eP (lf x y) s,.bool (jZ x y)]) []) hT (HD hs) hm Wn rfl aV rfl 60 Wm (fun _=>?_) K []
 simp only[ag.all,au,bz,bF]
 exact⟨aa,aa,fun h=>⟨aa,aa,(ya h1).1 h⟩,fun h=>⟨aa,aa,(ya h1).2 h⟩⟩
theorem v8 {q:Rat} {n:Nat}:aC (.rat q n)=q:=rfl
theorem w8 {a b:Rat} (h:a<b):bW a b=a/\bX a b=b:=by unfold bW bX;grind
theorem FL:aY P Dr 59:=cC fun⟨c,_⟩ K hn=>by
 dsimp only
 have hl:c.k 0<c.k 3:=hn.2
 rw[mC (show dx c from hn.1)]
 generalize c.k=k at hl
 generalize c.f=f
 obtain⟨m1,m2⟩:=w8 hl
 refine bJ (r:=aI (eP (k 0,k 3) 1000) []) hT aa6 hm E3 rfl aV rfl 60 aa2 (fun _=>?_) K []
 have e3:(i64.wrap (((4:Nat):Int)-1)).toNat=3:=rfl
 simp only[ag.all,au,e3,Int.toNat_zero,m1,m2]
 exact⟨aa,aa,.refl _⟩
theorem adL:aY P Ge 90:=cC fun⟨⟨x,y⟩,_⟩ K _=>by
 refine bJ (r:=aI (.rat (y-x) 2001) []) hT (ct gz) hm JR rfl aV rfl 60 VI (fun _=>?_) K []
 simp only[ag.all,au]
 exact⟨aa,.refl _⟩
theorem afy {n:Nat} (hn:n<2^38):aZ P (E6 n):=eV (aE FL (aE adL (aE (Hv aa) fq)))
theorem abH {k:Nat->Rat} {f:Nat->Pl} {s t:Rat} {n w:Nat} (hk:k 0<k 3) (hn:n<2^38) (hw:n+3002<=w) (K:Nat):aO P 39 K [bh (aG k f) 1000 1000,.rat s n,.rat t n] [] (aI (eP (mL (aG k f) s t) w) []):=by
 refine bJ (r:=aI (eP (mL (aG k f) s t) w) []) hT (afy hn) hm QE rfl aV rfl 60 SV (fun _=>?_) K []
 simp only[ag.all,au,v8]
 (repeat' with_reducible refine And.intro ?_ ?_)
 all_goals first|(with_reducible exact bg.refl _)|(with_reducible exact dh bq)|(with_reducible exact jb bq)|exact jm|exact hk|(with_reducible exact Nat.le_refl _)|(with_reducible exact cz ⟨bI rfl aa,bI rfl aa,trivial⟩)|skip
 all_goals first|omega|skip
 have e:1000+(n+2001)+1<=w:=by grind
 generalize 1000+(n+2001)+1=q at e
 exact cz ⟨bI rfl e,bI rfl e,trivial⟩
theorem Uh:aY P Ie 39:=cC fun⟨c,s,t,_⟩ K hn=>by
 dsimp only
 have hl:c.k 0<c.k 3:=hn.2
 rw[mC (show dx c from hn.1)]
 exact abH hl (by decide) (by decide) K
theorem Px:aZ P Ki:=aE (fY BW) (aE (fY AK) (aE (fY fun _ _ K hn=>M4 hn.1 hn.2 K) bA))
theorem Lb:aZ P Db:=aE (cQ hT (ct bA) hm (aN func41) _ _) (aE (cQ hT (ct bA) hm (aN func44) _ _) bA)
theorem aco:aZ P Eu:=aE (cQ hT (eV lH) hm (aN func99) _ _) bA
theorem N4:aZ P F7:=eV (gP Px (gP Lb (gP aco lH)))
theorem QU {k:Nat->Rat} {f:Nat->Pl} {p:V3} {n w:Nat} (hn:n<2^30) (hw:40*n+100<=w) (K:Nat):aO P 46 K [bh (aG k f) n n,vA p n] [] (aI (.rat (k 0+dQ (f 0).n (f 1).n p*(k 3-k 0)) w) []):=by
 refine bJ (r:=aI (.rat (k 0+dQ (f 0).n (f 1).n p*(k 3-k 0)) w) []) hT N4 hm Py rfl aV rfl 60 WT (fun _=>?_) K []
 simp only[ag.all,au]
 (repeat' with_reducible refine And.intro ?_ ?_)
 all_goals first|omega|exact bI rfl aa
theorem ae4:aY P MV 46:=cC fun⟨c,p,_⟩ K hn=>by
 dsimp only
 rw[mC (show dx c from hn)]
 exact QU (by decide) (by decide) K
theorem Wf:aW 9 f9:=aN func9
theorem UF:aW 10 f10:=aN func10
theorem agd:aW 42 f42:=aN func42
def Nh:aU:=sG::(30,Kr)::(31,J8)::(39,Ie)::(36,Nk)::(32,xM gN)::(33,vc gN)::yP::(35,fX dR dR rR (b2 42))::[]
def Ku:aU:=[sG,(93,K6 dV dV dV IM (b3 34))]
def Ii:aU:=sG::(40,Lu)::(46,MV)::(42,cO T Ku [48] 400 f42)::(43,xM ek)::(45,vc ek)::(47,fX dR dR rR (b2 41))::Db
def kD (c d:Cu):Bool:=fP c&&(fP d&&(gC (c.f 0).n (c.f 1).n (d.f 0).n&&gC (c.f 0).n (c.f 1).n (d.f 1).n))
def iz (c d:Cu):Rat:=dQ (c.f 0).n (c.f 1).n (d.f 0).n
def iq (c d:Cu):Rat:=dQ (c.f 0).n (c.f 1).n (d.f 1).n
def fo (c d:Cu):Rat×Rat:=fk (iz c d) (iq c d)
def eA (c d:Cu):Bool:=kD c d&&decide ((fo c d).1<(fo c d).2)
def mA (c d:Cu):Rat×Rat:=if eA c d=true then mL c (fo c d).1 (fo c d).2 else(0,0)
def mh (c d:Cu):Rat×Rat:=if eA c d=true then mL d (cB (iz c d) (iq c d) (fo c d).1) (cB (iz c d) (iq c d) (fo c d).2)else(0,0)
def uR:Spec:=cP (kC (gE 1000 1000) (kC (gE 1000 1000) kN)) (fun a=>.tuple [eP (mA a.1 a.2.1) ek,eP (mh a.1 a.2.1) ek,.bool (eA a.1 a.2.1)]) fun a=>[dx a.1,dx a.2.1,a.1.k 0<a.1.k 3,a.2.1.k 0<a.2.1.k 3]
theorem Ot {k h:Nat->Rat} {f g:Nat->Pl}:bD T Nh [33,36,55,58,73,79] 200 f9 (aF f9) ⟨aT 0 [bh (aG k f) 1000 1000,bh (aG h g) 1000 1000],[],0⟩=
  let c30:Prop:=gN<=gN;let c29:Prop:=0<1;let c28:Prop:=dU (fun i=>aK (f i) 1000) 2 1000;let c27:Prop:=dU (fun i=>aK (g i) 1000) 2 1000;let c26:Prop:=bT (fun i=>rat (k i) 1000) 4 1000;let c25:Prop:=bT (fun i=>rat (h i) 1000) 4 1000;let c23:AV:=rat 0 1;let cH:AV:=rat (bW (↑(0:Int):Rat) (↑(1:Int):Rat)) gN;let c19:AV:=rat (bX (↑(0:Int):Rat) (↑(1:Int):Rat)) gN;let c18:Rat:=aC (rat (h 3) 1000);let c17:Rat:=aC (rat (k 3) 1000);let c14:Rat:=aC (rat (h 0) 1000);let c13:Rat:=aC (rat (k 0) 1000);let c12:Prop:=2000<=2000;let c4:Cu:=Cu.mk (1:Int) 4 (fun i=>aC (rat (h i) 1000)) 2 fun i=>aS (aK (g i) 1000);let c3:Cu:=Cu.mk (1:Int) 4 (fun i=>aC (rat (k i) 1000)) 2 fun i=>aS (aK (f i) 1000);let c38:V3:=lX c3 1;let c37:V3:=lX c4 1;let c36:V3:=lX c3 0;let c31:List Prop:=[c12,c12,c12,c12,c12,c12,c12,c12,c12];let c21:V3:=lX c4 0;let c10:ag (List AV):=aj [c29,c29] (leaf ret [agg [c23,c23],agg [c23,c23],AV.bool false]);let c9:Rat×Rat:=(aC cH,aC c19);let c41:V3:=V3.mk c21.x c21.y c21.z;let c22:V3:=V3.mk c37.x c37.y c37.z;let c16:V3:=V3.mk c38.x c38.y c38.z;let c15:V3:=V3.mk c36.x c36.y c36.z;let c11:Bool:=!lU c15 c16 c41;let c8:Rat:=oZ c15 c16 c22;let c7:Rat:=oZ c15 c16 c41;let c33:AV:=rat (bX c7 c8) gN;let c32:AV:=rat (bW c7 c8) gN;let c2:Rat×Rat:=(aC c32,aC c33);let c24:Rat×Rat:=lf c2 c9;let c40:Rat:=c13+c24.snd*(c17-c13);let c39:Rat:=c13+c24.fst*(c17-c13);let c35:Rat:=c14+cB c7 c8 c24.fst*(c18-c14);let c34:Rat:=c14+cB c7 c8 c24.snd*(c18-c14);let c5:ag (List AV):=aj [c26,c28,gN<=m9,gN<=m9,dx c3,c13<c17,c30,c30,c30,c30,c30,c30,c25,c27,m9<=m9,m9<=m9,dx c4,c14<c18] (aj [c29,c29] (leaf ret [agg [rat (bW c39 c40) 400000,rat (bX c39 c40) 400000],agg [rat (bW c35 c34) 400000,rat (bX c35 c34) 400000],AV.bool true]));let c1:ag (List AV):=aj [c30,c30,Max.max 1 (bO (Int.natAbs (0:Int)))<=gN,Max.max 1 (bO (Int.natAbs (1:Int)))<=gN,bg c32 (rat (aC c32) gN),bg c33 (rat (aC c33) gN),bg cH (rat (aC cH) gN),bg c19 (rat (aC c19) gN)] (fork (!jZ c2 c9) (aj [(!jZ c2 c9)=true] (fork true c10 c5)) (aj [(!jZ c2 c9)=false] (fork (bif false then true else decide (c24.fst=c24.snd)) c10 c5)));let c6:ag (List AV):=aj c31 (aj c31 (fork c11 (aj [c11=true] (fork true c10 c1)) (aj [c11=false] (fork (bif false then true else !lU c15 c16 c22) c10 c1))));some (aj [c26,c28,dx c3] (aj [c25,c27,dx c4] (fork (!fP c3) (aj [(!fP c3)=true] (fork true c10 c6)) (aj [(!fP c3)=false] (fork (bif false then true else !fP c4) c10 c6))))):=ah
theorem UN {k h:Nat->Rat} {f g:Nat->Pl}:bD T Ii [20,24,46,64,70] 200 f10 (aF f10) ⟨aT 0 [bh (aG k f) 1000 1000,bh (aG h g) 1000 1000],[],0⟩=
  let c46:V3:=(f 1).n;let c45:V3:=(f 0).n;let c44:V3:=(g 1).n;let c43:V3:=(g 0).n;let c32:AV:=rat 0 1;let c31:Rat:=aC (rat (k 0) 1000);let c30:Rat:=aC (rat (h 0) 1000);let c25:Prop:=dU (fun i=>aK (g i) 1000) 2 1000;let c24:Prop:=bT (fun i=>rat (h i) 1000) 4 1000;let c18:Prop:=0<1;let c17:Prop:=dU (fun i=>aK (f i) 1000) 2 1000;let c16:Prop:=bT (fun i=>rat (k i) 1000) 4 1000;let c15:Prop:=1000<=1000;let c14:Nat:=(i64.wrap ((↑(4:Nat):Int)-1)).toNat;let c13:Cu:=Cu.mk (1:Int) 4 (fun i=>aC (rat (h i) 1000)) 2 fun i=>aS (aK (g i) 1000);let c12:Nat:=Int.toNat (0:Int);let c11:Cu:=Cu.mk (1:Int) 4 (fun i=>aC (rat (k i) 1000)) 2 fun i=>aS (aK (f i) 1000);let c8:Nat:=(i64.wrap ((↑(2:Nat):Int)-1)).toNat;let c38:Rat:=aC (rat (k 3) 1000)-c31;let c37:Rat:=aC (rat (h 3) 1000)-c30;let c36:AV:=rat (h c14) 1000;let c35:AV:=rat (k c14) 1000;let c34:AV:=rat (h c12) 1000;let c33:AV:=rat (k c12) 1000;let c29:V3:=V3.mk (g c8).n.x (g c8).n.y (g c8).n.z;let c28:V3:=V3.mk (f c8).n.x (f c8).n.y (f c8).n.z;let c27:V3:=V3.mk (f c12).n.x (f c12).n.y (f c12).n.z;let c26:V3:=V3.mk (g c12).n.x (g c12).n.y (g c12).n.z;let c22:V3:=V3.mk (aC (rat c43.x 1000)) (aC (rat c43.y 1000)) (aC (rat c43.z 1000));let c21:V3:=V3.mk (aC (rat c45.x 1000)) (aC (rat c45.y 1000)) (aC (rat c45.z 1000));let cH:V3:=V3.mk (aC (rat c44.x 1000)) (aC (rat c44.y 1000)) (aC (rat c44.z 1000));let c19:V3:=V3.mk (aC (rat c46.x 1000)) (aC (rat c46.y 1000)) (aC (rat c46.z 1000));let c10:ag (List AV):=aj [c18,c18] (leaf ret [agg [c32,c32],agg [c32,c32],AV.bool false]);let c9:Rat×Rat:=(aC c33,aC c35);let c7:Rat:=c31+dQ c21 c19 c26*c38;let c6:Rat:=c31+dQ c21 c19 c29*c38;let c5:Rat:=c30+dQ c22 cH c27*c37;let c4:Rat:=c30+dQ c22 cH c28*c37;let c42:AV:=rat (bX c5 c4) ek;let c41:AV:=rat (bX c7 c6) ek;let c40:AV:=rat (bW c5 c4) ek;let c39:AV:=rat (bW c7 c6) ek;let c23:Rat×Rat:=lf (aC c34,aC c36) (aC c40,aC c42);let c2:Rat×Rat:=(aC c39,aC c41);let c48:Rat:=(lf c9 c2).snd;let c47:Rat:=(lf c9 c2).fst;let c3:ag (List AV):=aj [c18,c24,c25,c15,c15,c15,dx c13,c24,c25,c15,c15,c15,dx c13,ek<=ek,ek<=ek,bg c34 (rat (aC c34) ek),bg c36 (rat (aC c36) ek),bg c40 (rat (aC c40) ek),bg c42 (rat (aC c42) ek)] (aj [c18,c18] (leaf ret [agg [rat c47 400000,rat c48 400000],agg [rat c23.fst 400000,rat c23.snd 400000],AV.bool true]));let c1:ag (List AV):=aj [c18,c18] (aj [c18,c18] (aj [(iM c27 c28 c26==0)=true->au ([c18]++([]++[])++[]),(iM c27 c28 c26==0)=false->au [(iM c27 c28 c29==0)=true->au ([c18]++([]++[])++[]),(iM c27 c28 c29==0)=false->au [(iM c27 c26 c29==0)=true->au ([c18]++([]++[])++[]),(iM c27 c26 c29==0)=false->au [(iM c28 c26 c29==0)=true->au ([c18]++([]++[])++[]),(iM c28 c26 c29==0)=false->au ([c18]++([]++[])++[])]]]] (fork (bif iM c27 c28 c26==0 then true else bif iM c27 c28 c29==0 then true else bif iM c27 c26 c29==0 then true else bif iM c28 c26 c29==0 then true else false) c10 (aj [c18,c16,c17,c15,c15,c15,dx c11,c16,c17,c15,c15,c15,dx c11,ek<=ek,ek<=ek,bg c33 (rat (aC c33) ek),bg c35 (rat (aC c35) ek),bg c39 (rat (aC c39) ek),bg c41 (rat (aC c41) ek)] (fork (!jZ c9 c2) (aj [(!jZ c9 c2)=true] (fork true c10 c3)) (aj [(!jZ c9 c2)=false] (fork (bif false then true else decide (c47=c48)) c10 c3)))))));some (fork (!fP c11) (aj [c16,c17,dx c11,(!fP c11)=true] (fork true c10 c1)) (aj [c16,c17,dx c11,(!fP c11)=false,c24,c25,dx c13] (fork (bif false then true else !fP c13) c10 c1))):=ah
theorem Oi:aZ P Nh:=ct (aE Q4 (aE adv (aE Uh (aE Ta (aE (O4 (by decide) (by decide)) (aE (Hv (by decide)) (aE J4 (aE (gb fun _ _ K hn=>Bu (uQ (dL hn).1) (uQ (dL hn).2) K []) bA))))))))
theorem aga:aZ P Ku:=ct (aE (ace fun a b c K hn=>QM a b c K (NI hn)) bA)
theorem agI:aZ P Ii:=ct (aE acQ (aE ae4 (aE (cQ hT aga hm agd _ _) (aE (afh (by decide) (by decide)) (aE (Se (by decide)) (aE (gb fun _ _ K hn=>B3 (zn (dL hn).1) (zn (dL hn).2) K []) Lb))))))
theorem l5 {c d:Cu} (h:eA c d=false):dH [.agg [.rat 0 1,.rat 0 1],.agg [.rat 0 1,.rat 0 1],.bool false] [eP (mA c d) ek,eP (mh c d) ek,.bool (eA c d)]:=by
 have hn:¬eA c d=true:=by rw[h];decide
 have z:bg (.agg [.rat 0 1,.rat 0 1]) (eP (0,0) ek):=cz ⟨fC (by decide),fC (by decide),trivial⟩
 rw[show mA c d=(0,0)from if_neg hn,show mh c d=(0,0)from if_neg hn,h]
 exact⟨z,z,.refl _,trivial⟩
theorem Ag {c:Cu} (h:fP c=true):(∀i,lX c i=(c.f i).n)/\(c.f 0).n≠(c.f 1).n:=by
 unfold fP at h
 simp only[Bool.and_eq_true,bz,Bool.not_eq_true']at h
 exact⟨fun i=>if_pos h.1,fun e=>absurd (oX.2 e) (by rw[h.2];decide)⟩
theorem Td {a b p:V3} (h:a≠b):lU a b p=gC a b p:=by
 unfold lU;rw[decide_eq_false (xW h)];simp
theorem M8 {q:Pl} {n:Nat}:aS (aK q n)=q:=rfl
theorem SQ {u v:Rat}:sI (bW u v,bX u v) (bW ((0:Int):Rat) ((1:Int):Rat),bX ((0:Int):Rat) ((1:Int):Rat))=(fk u v).1/\tQ (bW u v,bX u v) (bW ((0:Int):Rat) ((1:Int):Rat),bX ((0:Int):Rat) ((1:Int):Rat))=(fk u v).2:=by
 rw[show bW ((0:Int):Rat) ((1:Int):Rat)=0 by decide+kernel,show bX ((0:Int):Rat) ((1:Int):Rat)=1 by decide+kernel]
 exact⟨rfl,rfl⟩
theorem Y3 {k h:Nat->Rat} {f g:Nat->Pl} (hk:k 0<k 3) (hh:h 0<h 3) (K:Nat):aO P 9 K [bh (aG k f) 1000 1000,bh (aG h g) 1000 1000] [] (aI (.tuple [eP (mA (aG k f) (aG h g)) ek,eP (mh (aG k f) (aG h g)) ek,.bool (eA (aG k f) (aG h g))]) []):=by
 refine bJ (r:=aI (.tuple [eP (mA (aG k f) (aG h g)) ek,eP (mh (aG k f) (aG h g)) ek,.bool (eA (aG k f) (aG h g))]) []) hT Oi hm Wf rfl aV rfl 200 Ot (fun _=>?_) K []
 have r1:bT (fun i=>.rat (k i) 1000) 4 1000:=dh bq
 have r2:bT (fun i=>.rat (h i) 1000) 4 1000:=dh bq
 have r3:dU (fun i=>aK (f i) 1000) 2 1000:=jb bq
 have r4:dU (fun i=>aK (g i) 1000) 2 1000:=jb bq
 have r5:dx (aG k f):=jm
 have r6:dx (aG h g):=jm
 have r7:gN<=m9:=by decide
 have r8:max 1 (bO (Int.natAbs 0))<=gN:=by decide+kernel
 have r9:max 1 (bO (Int.natAbs 1))<=gN:=by decide+kernel
 have v1:∀p:V3,V3.mk p.x p.y p.z=p:=fun _=>rfl
 have z1:(0:Nat)<1:=by decide
 have av:∀v,bg v v:=fun v=>.refl v
 simp only[ag.all,au,v8,M8,v1,r1,r2,r3,r4,r5,r6,r7,r8,r9,z1,av,hk,hh,Nat.le_refl,and_true,true_and]
 cases q1:fP (aG k f)with
 |false=>
  have hf:eA (aG k f) (aG h g)=false:=by unfold eA kD;rw[q1];rfl
  simp only[Bool.not_false,Bool.not_true,cond_false,cond_true,reduceCtorEq,false_implies,true_implies,and_true,true_and]
  exact l5 hf
 |true=>
  cases q2:fP (aG h g)with
  |false=>
   have hf:eA (aG k f) (aG h g)=false:=by unfold eA kD;rw[q1,q2];rfl
   simp only[Bool.not_false,Bool.not_true,cond_false,cond_true,reduceCtorEq,false_implies,true_implies,and_true,true_and]
   exact l5 hf
  |true=>
   obtain⟨p1,n1⟩:=Ag q1
   obtain⟨p2,n2⟩:=Ag q2
   simp only[p1,p2,Td n1,Bool.not_false,Bool.not_true,cond_false,cond_true,reduceCtorEq,false_implies,true_implies,and_true,true_and]
   cases q3:gC (f 0).n (f 1).n (g 0).n with
   |false=>
    have hf:eA (aG k f) (aG h g)=false:=by unfold eA kD;rw[q1,q2];simp only[q3];rfl
    simp only[Bool.not_false,Bool.not_true,cond_false,cond_true,reduceCtorEq,false_implies,true_implies,and_true,true_and]
    exact l5 hf
   |true=>
    cases q4:gC (f 0).n (f 1).n (g 1).n with
    |false=>
     have hf:eA (aG k f) (aG h g)=false:=by unfold eA kD;rw[q1,q2];simp only[q3,q4];rfl
     simp only[Bool.not_false,Bool.not_true,cond_false,cond_true,reduceCtorEq,false_implies,true_implies,and_true,true_and]
     exact l5 hf
    |true=>
     have a1:oZ (f 0).n (f 1).n (g 0).n=iz (aG k f) (aG h g):=if_pos q3
     have a2:oZ (f 0).n (f 1).n (g 1).n=iq (aG k f) (aG h g):=if_pos q4
     have hb:kD (aG k f) (aG h g)=true:=by unfold kD;rw[q1,q2];simp only[q3,q4];rfl
     have hx:∀{b:Bool},decide ((fo (aG k f) (aG h g)).1<(fo (aG k f) (aG h g)).2)=b->eA (aG k f) (aG h g)=b:=fun e=>by unfold eA;rw[hb,e];rfl
     obtain⟨l1,l2⟩:=SQ (u:=iz (aG k f) (aG h g)) (v:=iq (aG k f) (aG h g))
     have x0:fk (iz (aG k f) (aG h g)) (iq (aG k f) (aG h g))=fo (aG k f) (aG h g):=rfl
     simp only[a1,a2,jZ,lf,l1,l2,x0,Bool.not_false,Bool.not_true,cond_false,cond_true,reduceCtorEq,false_implies,true_implies,and_true,true_and,Bool.not_not,bz,bF]
     by_cases g1:(fo (aG k f) (aG h g)).2<(fo (aG k f) (aG h g)).1
     ·have hf:=hx (decide_eq_false (p:=(fo (aG k f) (aG h g)).1<(fo (aG k f) (aG h g)).2) (by grind))
      simp only[g1,true_implies,not_true_eq_false,false_implies,and_true]
      exact⟨trivial,l5 hf⟩
     ·simp only[g1,if_false,false_implies,not_false_eq_true,true_implies,true_and]
      by_cases g2:(fo (aG k f) (aG h g)).1=(fo (aG k f) (aG h g)).2
      ·have hf:=hx (decide_eq_false (p:=(fo (aG k f) (aG h g)).1<(fo (aG k f) (aG h g)).2) (by grind))
       refine⟨fun _=>l5 hf,fun h=>absurd g2 h⟩
      ·have ht:=hx (decide_eq_true (p:=(fo (aG k f) (aG h g)).1<(fo (aG k f) (aG h g)).2) (by grind))
       refine⟨fun h=>absurd h g2,fun _=>?_⟩
       rw[show mA (aG k f) (aG h g)=mL (aG k f) (fo (aG k f) (aG h g)).1 (fo (aG k f) (aG h g)).2 from if_pos ht,show mh (aG k f) (aG h g)=mL (aG h g) (cB (iz (aG k f) (aG h g)) (iq (aG k f) (aG h g)) (fo (aG k f) (aG h g)).1) (cB (iz (aG k f) (aG h g)) (iq (aG k f) (aG h g)) (fo (aG k f) (aG h g)).2)from if_pos ht,ht]
       exact⟨.refl _,.refl _,.refl _,trivial⟩
theorem Hz:aY P uR 9:=cC fun⟨c,d,_⟩ K hn=>by
 dsimp only
 obtain⟨h1,h2,h3,h4⟩:dx c/\dx d/\c.k 0<c.k 3/\d.k 0<d.k 3:=hn
 rw[mC h1,mC h2]
 exact Y3 h3 h4 K
theorem N5 {u v w:V3}:(iM u v w==0)=!gC u v w:=by
 unfold iM
 rw[show gr (o6 u v w) v0=gC u v w from rfl]
 cases gC u v w<;>rfl
theorem Lg {c:Cu} (h:c.k 0<c.k 3) {s t:Rat}:sI (c.k 0,c.k 3) (bW (c.k 0+s*(c.k 3-c.k 0)) (c.k 0+t*(c.k 3-c.k 0)),bX (c.k 0+s*(c.k 3-c.k 0)) (c.k 0+t*(c.k 3-c.k 0)))=c.k 0+(fk s t).1*(c.k 3-c.k 0)/\tQ (c.k 0,c.k 3) (bW (c.k 0+s*(c.k 3-c.k 0)) (c.k 0+t*(c.k 3-c.k 0)),bX (c.k 0+s*(c.k 3-c.k 0)) (c.k 0+t*(c.k 3-c.k 0)))=c.k 0+(fk s t).2*(c.k 3-c.k 0):=by
 have hw:0<c.k 3-c.k 0:=by grind
 refine⟨R4 hw,?_⟩
 have:=V0 (lo:=c.k 0) (s:=s) (t:=t) hw
 rw[show c.k 0+(c.k 3-c.k 0)=c.k 3 by grind]at this
 exact this
theorem BU {c:Cu} (h:c.k 0<c.k 3) (a b:Rat):c.k 0+a*(c.k 3-c.k 0)<c.k 0+b*(c.k 3-c.k 0)↔a<b:=by
 have:=jH (show 0<c.k 3-c.k 0 by grind) (a:=a) (b:=b)
 grind
theorem E2 {c:Cu} (h:c.k 0<c.k 3) {a b:Rat}:mL c a b=(c.k 0+bW a b*(c.k 3-c.k 0),c.k 0+bX a b*(c.k 3-c.k 0)):=by
 obtain⟨h1,h2⟩:=Da (f:=fun r=>c.k 0+r*(c.k 3-c.k 0)) (fun a b=>BU h a b) a b
 exact Prod.ext h2.symm h1.symm
theorem O3 {k h:Nat->Rat} {f g:Nat->Pl} (hk:k 0<k 3) (hh:h 0<h 3) (K:Nat):aO P 10 K [bh (aG k f) 1000 1000,bh (aG h g) 1000 1000] [] (aI (.tuple [eP (mA (aG k f) (aG h g)) ek,eP (mh (aG k f) (aG h g)) ek,.bool (eA (aG k f) (aG h g))]) []):=by
 refine bJ (r:=aI (.tuple [eP (mA (aG k f) (aG h g)) ek,eP (mh (aG k f) (aG h g)) ek,.bool (eA (aG k f) (aG h g))]) []) hT agI hm UF rfl aV rfl 200 UN (fun _=>?_) K []
 have r1:bT (fun i=>.rat (k i) 1000) 4 1000:=dh bq
 have r2:bT (fun i=>.rat (h i) 1000) 4 1000:=dh bq
 have r3:dU (fun i=>aK (f i) 1000) 2 1000:=jb bq
 have r4:dU (fun i=>aK (g i) 1000) 2 1000:=jb bq
 have r5:dx (aG k f):=jm
 have r6:dx (aG h g):=jm
 have v1:∀p:V3,V3.mk p.x p.y p.z=p:=fun _=>rfl
 have z1:(0:Nat)<1:=by decide
 have av:∀q,bg (.rat q 1000) (.rat q ek):=fun q=>fC (by decide)
 have av2:∀v,bg v v:=fun v=>.refl v
 have i1:(i64.wrap (((2:Nat):Int)-1)).toNat=1:=rfl
 have i3:(i64.wrap (((4:Nat):Int)-1)).toNat=3:=rfl
 simp only[ag.all,au,v8,M8,v1,r1,r2,r3,r4,r5,r6,z1,av,av2,hk,hh,i1,i3,Int.toNat_zero,Nat.le_refl,and_true,true_and,N5,List.append_nil,List.nil_append,implies_true]
 cases q1:fP (aG k f)with
 |false=>
  have hf:eA (aG k f) (aG h g)=false:=by unfold eA kD;rw[q1];rfl
  simp only[Bool.not_false,Bool.not_true,cond_false,cond_true,reduceCtorEq,false_implies,true_implies,and_true,true_and]
  exact l5 hf
 |true=>
  cases q2:fP (aG h g)with
  |false=>
   have hf:eA (aG k f) (aG h g)=false:=by unfold eA kD;rw[q1,q2];rfl
   simp only[Bool.not_false,Bool.not_true,cond_false,cond_true,reduceCtorEq,false_implies,true_implies,and_true,true_and]
   exact l5 hf
  |true=>
   obtain⟨-,n1⟩:=Ag q1
   obtain⟨-,n2⟩:=Ag q2
   cases q3:gC (f 0).n (f 1).n (g 0).n with
   |false=>
    have hf:eA (aG k f) (aG h g)=false:=by unfold eA kD;rw[q1,q2];simp only[q3];rfl
    simp only[Bool.not_false,Bool.not_true,cond_false,cond_true,reduceCtorEq,false_implies,true_implies,and_true,true_and]
    exact l5 hf
   |true=>
    cases q4:gC (f 0).n (f 1).n (g 1).n with
    |false=>
     have hf:eA (aG k f) (aG h g)=false:=by unfold eA kD;rw[q1,q2];simp only[q3,q4];rfl
     simp only[Bool.not_false,Bool.not_true,cond_false,cond_true,reduceCtorEq,false_implies,true_implies,and_true,true_and]
     exact l5 hf
    |true=>
     obtain⟨c1,c2⟩:=agT n1 q3 q4
     have c1:gC (f 0).n (g 0).n (g 1).n=true:=oX.2 c1
     have c2:gC (f 1).n (g 0).n (g 1).n=true:=oX.2 c2
     obtain⟨b0,b1,b2,-,-⟩:=UI n1 n2 q3 q4
     have b1:dQ (g 0).n (g 1).n (f 0).n=cB (iz (aG k f) (aG h g)) (iq (aG k f) (aG h g)) 0:=b1
     have b2:dQ (g 0).n (g 1).n (f 1).n=cB (iz (aG k f) (aG h g)) (iq (aG k f) (aG h g)) 1:=b2
     have u1:dQ (f 0).n (f 1).n (g 0).n=iz (aG k f) (aG h g):=rfl
     have u2:dQ (f 0).n (f 1).n (g 1).n=iq (aG k f) (aG h g):=rfl
     have hb:kD (aG k f) (aG h g)=true:=by unfold kD;rw[q1,q2];simp only[q3,q4];rfl
     have hx:∀{b:Bool},decide ((fo (aG k f) (aG h g)).1<(fo (aG k f) (aG h g)).2)=b->eA (aG k f) (aG h g)=b:=fun e=>by unfold eA;rw[hb,e];rfl
     obtain⟨l1,l2⟩:=Lg (c:=aG k f) hk (s:=iz (aG k f) (aG h g)) (t:=iq (aG k f) (aG h g))
     obtain⟨l3,l4⟩:=Lg (c:=aG h g) hh (s:=cB (iz (aG k f) (aG h g)) (iq (aG k f) (aG h g)) 0) (t:=cB (iz (aG k f) (aG h g)) (iq (aG k f) (aG h g)) 1)
     obtain⟨y1,y2,y3⟩:=RN (s:=iz (aG k f) (aG h g)) (t:=iq (aG k f) (aG h g)) b0
     have x0:fk (iz (aG k f) (aG h g)) (iq (aG k f) (aG h g))=fo (aG k f) (aG h g):=rfl
     simp only[x0]at l1 l2 y1 y2 y3
     have p1:=BU (c:=aG k f) hk
     have p2:=BU (c:=aG h g) hh
     simp only[c1,c2,b1,b2,u1,u2,jZ,lf,l1,l2,l3,l4,p1,p2,Bool.not_false,Bool.not_true,cond_false,cond_true,reduceCtorEq,false_implies,true_implies,and_true,true_and,Bool.not_not,bz,bF]
     have hS:eA (aG k f) (aG h g)=true->mA (aG k f) (aG h g)=mL (aG k f) (fo (aG k f) (aG h g)).1 (fo (aG k f) (aG h g)).2:=fun ht=>if_pos ht
     have hT':eA (aG k f) (aG h g)=true->mh (aG k f) (aG h g)=mL (aG h g) (cB (iz (aG k f) (aG h g)) (iq (aG k f) (aG h g)) (fo (aG k f) (aG h g)).1) (cB (iz (aG k f) (aG h g)) (iq (aG k f) (aG h g)) (fo (aG k f) (aG h g)).2):=fun ht=>if_pos ht
     rw[E2 (c:=aG k f) hk]at hS
     rw[E2 (c:=aG h g) hh,y1,y2]at hT'
     have hn:=fun(e:eA (aG k f) (aG h g)=false)=>l5 e
     clear y1 y2 l1 l2 l3 l4 b1 b2 u1 u2 x0
     generalize fk (cB (iz (aG k f) (aG h g)) (iq (aG k f) (aG h g)) 0) (cB (iz (aG k f) (aG h g)) (iq (aG k f) (aG h g)) 1)=Y at*
     generalize fo (aG k f) (aG h g)=X at*
     have e1:=p1 X.1 X.2
     have e2:=p1 X.2 X.1
     by_cases g1:X.2<X.1
     ·simp only[g1,true_implies,not_true_eq_false,false_implies,and_true]
      exact⟨trivial,hn (hx (decide_eq_false (by grind)))⟩
     ·simp only[g1,if_false,false_implies,not_false_eq_true,true_implies,true_and]
      refine⟨fun g2=>hn (hx (decide_eq_false (by have g2:k 0+X.1*(k 3-k 0)=k 0+X.2*(k 3-k 0):=g2;have e1:k 0+X.1*(k 3-k 0)<k 0+X.2*(k 3-k 0)↔X.1<X.2:=e1;grind))),fun g2=>?_⟩
      have g3:X.1<X.2:=by
       rcases(show X.1<X.2\/X.1=X.2 by grind)with g|g
       ·exact g
       ·exact absurd (by rw[g]) g2
      have g4:Y.1<Y.2:=y3.1 g3
      have ht:=hx (decide_eq_true g3)
      rw[hS ht,hT' ht,ht,(w8 g3).1,(w8 g3).2,(w8 g4).1,(w8 g4).2,if_neg (show¬Y.2<Y.1 by grind)]
      exact⟨.refl _,.refl _,.refl _,trivial⟩
theorem OF:aY P uR 10:=cC fun⟨c,d,_⟩ K hn=>by
 dsimp only
 obtain⟨h1,h2,h3,h4⟩:dx c/\dx d/\c.k 0<c.k 3/\d.k 0<d.k 3:=hn
 rw[mC h1,mC h2]
 exact O3 h3 h4 K
theorem RW:aW 202 f202:=aN func202
def hH:aU:=nG::gk
abbrev sK:Nat:=4096
abbrev ls (k:Nat->Rat) (n:Nat):AV:=bp k n sK
abbrev tP (t:Rat) (s:Nat):az:=⟨false,true,3,1,fun _=>.rat t s⟩
abbrev vW:List Nat:=[0,5,8,9,6,7]
abbrev Dh (n:Nat) (k:Nat->Rat) (l i:Nat):List AV:=[ls k n,.ptr 0 0 3 0 [],.int .i64 l,.int .i64 i,.int .i64 0,.int .i64 0]
abbrev vt:Code:=aF f202
theorem adH {n:Nat} {k:Nat->Rat} {p:Int} {t:Rat}:aM T hH [200013,21,31] 60 vW (before vt [1,1,1,0,1]) ⟨aT 0 [ls k n,.int .i64 p,.rat t sK],[],0⟩=
  let c11:Prop:=((↑n:Int)==0)=false;let c10:Prop:=0<1;let c9:AV:=aq 3 n fun i=>rat (k i) 4096;let c8:Nat:=Int.toNat (0:Int);let c7:AV:=ptr 0 0 (bK (rat t sK)).size 0 [];let c6:AV:=int i64 0;let c5:Nat×az:=(0,az.mk false true (bK (rat t sK)).size 1 fun x=>rat t 4096);let c4:Int:=(↑n:Int)-1;let c12:Prop:=(0:Int)<=0/\c8<n;let c3:Bool:=bif false then true else decide (cZ t (k c8)<0);let c2:ag (List AV×aD):=leaf ret ([c9,c7,tuple [],tuple [],c6,int i64 7],[c5]);let c1:ag (List AV×aD):=leaf normal ([c9,c7,c6,c6,c6,c6],[c5]);some (fork c3 (aj [c11,c10,c12,c3=true] (fork true c2 c1)) (aj [c11,c10,c12,c3=false,c10,-(2:Int)^63<=c4/\c4<2^63,(0:Int)<=c4/\c4.toNat<n] (fork (bif false then true else decide (cZ t (k c4.toNat)>0)) c2 c1))):=ah
theorem Oh {n l i:Nat} {k:Nat->Rat} {t:Rat}:aM T hH [36,49,58] 60 vW [part vt [1,1,1,0,1,0,0]] ⟨aH vW (Dh n k l i),[(0,tP t sK)],1⟩=
  let c7:Int:=(↑i:Int);let c6:List AV:=[int i64 0,int i64 0];let c5:AV:=ptr 0 0 3 0 [];let c4:AV:=aq 3 n fun i=>rat (k i) 4096;let c2:Nat×az:=((0:Nat),bN fun x=>rat t 4096);let c10:AV:=int i64 c7;let c1:Int:=c7+1;let c8:Int:=cZ (k c7.toNat) (k c1.toNat);let c3:Prop:=-(2:Int)^63<=c1/\c1<2^63;let c9:List Prop:=[c3,(0:Int)<=c1/\c1.toNat<n];some (aj [c3] (fork (decide (c1<(↑n:Int))) (aj (((0:Int)<=c7/\c7.toNat<n)::c9) (fork (decide (c8>=0)) (aj [c3] (leaf normal (c4::c5::int i64 (↑l:Int)::int i64 c1::c6,[c2]))) (aj (((0:Nat)<1)::c9) (fork (decide (cZ t (k c1.toNat)<0)) (leaf (exit 0) (c4::c5::c10::c10::c6,[c2])) (aj [c3] (leaf normal (c4::c5::c10::int i64 c1::c6,[c2]))))))) (leaf (exit 0) (c4::c5::int i64 (↑l:Int)::c10::c6,[c2])))):=ah
theorem YG {n l i:Nat} {k:Nat->Rat} {t:Rat}:cR T hH [] 60 f202 [part vt [1,1,1,1]] ⟨aH vW (Dh n k l i),[(0,tP t sK)],1⟩=
  some (leaf ret [int i64 (↑l:Int),int i64 0]):=ah
abbrev Hu (n:Nat) (k:Nat->Rat) (i:Nat):List AV:=[ls k n,.ptr 0 0 3 0 [],.int .i64 i,.int .i64 0,.int .i64 0]
theorem lS:aZ P hH:=eV gz
theorem ta {q:Rat} {n:Nat}:aC (.rat q n)=q:=rfl
theorem rq {a b:Rat}:cZ a b>=0↔b<=a:=by
 have:=@qF a b
 constructor
 ·intro h
  have:¬a<b:=fun h'=>by have:=qF.2 h';omega
  grind
 ·intro h
  have:¬cZ a b<0:=fun h'=>by have:=qF.1 h';grind
  omega
theorem oz {rl:List (Nat×Nat)} {l i s s' s2:Nat} {x y:Nat->Rat} {t:Rat} (hx:∀i,i<l->x i=y i) (ht:t=y l) (h1:s<=s2) (h2:s'<=s2) (hi:i<l+1):iF rl (if i<l then .rat (x i) s else nth [.rat t s'] (.rat 0 1) (i-l+0)) (.rat (y i) s2):=by
 by_cases h:i<l
 ·rw[if_pos h,hx i h];exact .inr ⟨rfl,bI rfl h1⟩
 ·have:i=l:=aa
  subst this
  rw[if_neg h,Nat.sub_self,ht]
  exact .inr ⟨rfl,bI rfl h2⟩
def kX (n:Nat) (k:Nat->Rat) (t:Rat):Prop:=t<k 0\/k (n-1)<t
instance {n:Nat} {k:Nat->Rat} {t:Rat}:Decidable (kX n k t):=inferInstanceAs (Decidable (t<k 0\/k (n-1)<t))
def kq (n:Nat) (k:Nat->Rat) (t:Rat):Nat:=if kX n k t then 0 else cS n k t
def yI (n:Nat) (k:Nat->Rat) (t:Rat):Int:=if kX n k t then 7 else 0
abbrev wH (n:Nat) (k:Nat->Rat) (t:Rat):AV:=.tuple [.int .i64 (kq n k t),.int .i64 (yI n k t)]
theorem LO {n:Nat} {k:Nat->Rat} {t:Rat} (h:kX n k t):fz [.int .i64 0,.int .i64 7] (wH n k t):=
 ⟨bU (by unfold kq;rw[if_pos h];rfl),bU (by unfold yI;rw[if_pos h]),trivial⟩
theorem Q7 {n i:Nat} {k:Nat->Rat} {t:Rat} (h:¬kX n k t) (hi:i=cS n k t):fz [.int .i64 i,.int .i64 0] (wH n k t):=
 ⟨bU (by unfold kq;rw[if_neg h,hi]),bU (by unfold yI;rw[if_neg h]),trivial⟩
abbrev sj (k:Nat->Rat) (t:Rat) (i:Nat):Nat:=kG (fun i=>decide (k i<k (i+1))&&decide (k i<=t)) i
theorem G4 {g:Nat->Bool} {m:Nat}:kG g (m+1)=if g m then m else kG g m:=rfl
theorem Rw {n p0:Nat} {k:Nat->Rat} {p:Int} {t:Rat} (h:Kn n p0 k) (hn:n<2^40) (K:Nat):aO P 202 K [ls k n,.int .i64 p,.rat t sK] [] (aI (wH n k t) []):=by
 have hp:=h.p1
 have hl:=h.len
 refine iJ (r:=aI (wH n k t) []) hT lS hm RW rfl aV rfl [1,1,1,0,1] (i:=0) (y:=part vt [1,1,1,0,1,0,0]) (z:=part vt [1,1,1,1]) ah ah ah (f1:=[200013,21,31]) (f2:=[36,49,58]) (f3:=[]) 60 vW 1
  (fun a:Nat×Nat=>Dh n k a.2 a.1) (fun _=>[(0,tP t sK)]) (fun a=>a.1+1<=n/\a.2=sj k t a.1/\k a.1<=t/\¬kX n k t) (fun a=>a.2=cS n k t/\¬kX n k t) (fun a=>n-a.1) (fun _=>⟨⟨_,adH,?_⟩,fun⟨i,l⟩ ⟨h1,h2,h3,h4⟩=>⟨_,Oh,?_⟩,fun⟨i,l⟩ ⟨h1,h2⟩=>⟨_,YG,Q7 h2 h1⟩⟩) K []
 ·simp only[ag.all,au,bz,bF,qF,rS,cond_false,Int.toNat_zero,beq_eq_false_iff_ne,ne_eq,show((n:Int)-1).toNat=n-1 by omega]
  (repeat' with_reducible first|refine And.intro ?_ ?_|intro _)
  all_goals first|omega|assumption|skip
  ·exact⟨_,ah,LO (.inl ‹_›)⟩
  ·exact absurd ‹true=false› (by decide)
  ·exact⟨_,ah,LO (.inr ‹_›)⟩
  ·rename_i a b
   have hin:¬kX n k t:=fun h=>h.elim (fun h=>a h) fun h=>b h
   exact⟨(0,0),⟨aa,rfl,by show k 0<=t;grind,hin⟩,[(0,0)],rfl,rfl,rfl,bf trivial⟩
 ·have hs:∀i,i+1<n->k i<=k (i+1):=h.sorted
  simp only at h1 h2 h3
  simp only[ag.all,au,bz,bF,qF,rq,bw,show((i:Int)+1).toNat=i+1 by omega]
  (repeat' with_reducible first|refine And.intro ?_ ?_|intro _)
  all_goals first|omega|assumption|skip
  ·rename_i hi hge
   have:=hs i aa
   have e:sj k t (i+1)=sj k t i:=by
    have:¬k i<k (i+1):=by grind
    rw[sj,G4,if_neg (by simp[this])]
   exact⟨(i+1,l),⟨aa,h2.trans e.symm,by show k (i+1)<=t;grind,h4⟩,by dsimp only;omega,[(0,0)],rfl,rfl,rfl,bf trivial⟩
  ·rename_i hi hlt hb
   have:k i<k (i+1):=by grind
   have hiv:cS n k t=i:=yR ⟨⟨aa,hs,this⟩,h3,by grind,.inl hb⟩
   exact⟨rfl,(i,i),⟨hiv.symm,h4⟩,[(0,0)],rfl,rfl,rfl,bf trivial⟩
  ·rename_i hi hlt hb
   have:k i<k (i+1):=by grind
   have e:sj k t (i+1)=i:=by
    rw[sj,G4,if_pos (by simp[this,h3])]
   exact⟨(i+1,i),⟨aa,e.symm,by show k (i+1)<=t;grind,h4⟩,by dsimp only;omega,[(0,0)],rfl,rfl,rfl,bf trivial⟩
  ·have hin:i=n-1:=aa
   subst hin
   exact⟨rfl,(n-1,l),⟨h2,h4⟩,[(0,0)],rfl,rfl,rfl,bf trivial⟩
abbrev O8:pU ((Nat×(Nat->Rat))×Int×Rat×Unit):=kC (kL sK) (kC kI (kC (eI sK) kN))
def M5:Spec:=cP O8 (fun a=>wH a.1.1 a.1.2 a.2.2.1) fun a=>[Kn a.1.1 a.2.1.toNat a.1.2,0<=a.2.1,a.1.1<2^40]
theorem adx:aY P M5 202:=cC fun _ K hn=>Rw hn.1 hn.2.2 K
theorem YP:aW 213 f213:=aN func213
def Fo:aU:=(37,fS kR kR sZ oe)::eO
theorem SR {a b t:Rat} {n:Nat}:bD T Fo [] 60 f213 (aF f213) ⟨aT 0 [.rat a n,.rat b n,.rat t n],[],0⟩=
  let c3:Nat:=n+n+1;let c2:Nat:=2^42;let c1:Prop:=0<1;some (aj [c1,c1,n<c2,n<c2,c1,c1,n<c2,n<c2,c3<c2,c3<c2,c1] (aj [c1,c1] (aj [c1] (leaf ret [rat ((t-a)/(b-a)) (c3+c3)])))):=ah
abbrev sF:Nat:=16386
def HZ:Spec:=cP (kC (eI sK) (kC (eI sK) (kC (eI sK) kN))) (fun a=>.rat (fr a.1 a.2.1 a.2.2.1) sF) fun _=>[]
theorem Z5:aZ P Fo:=aE (fY fun _ _ K hn=>u7 hn.1 hn.2 K) fq
theorem Ow:aY P HZ 213:=cC fun⟨a,b,t,_⟩ K _=>by
 refine bJ (r:=aI (.rat (fr a b t) sF) []) hT Z5 hm YP rfl aV rfl 60 SR (fun _=>?_) K []
 simp only[ag.all,au]
 have h1:sK=4096:=rfl
 (repeat' with_reducible refine And.intro ?_ ?_)
 all_goals first|omega|exact(bI rfl (show sK+sK+1+(sK+sK+1)<=sF by decide))
def SB (d:Nat):Nat:=65536*4^d
abbrev Zm (m:Nat) (x:Nat->Rat) (s:Nat->Nat):az:=⟨true,true,3,m,fun i=>.rat (x i) (s i)⟩
theorem Gu {d:Nat}:SB (d+1)=4*SB d:=by unfold SB;rw[Nat.pow_succ];omega
theorem GZ:∀{d:Nat},65536<=SB d
 |0=>by unfold SB;omega
 |d+1=>by rw[Gu];have:=GZ (d:=d);omega
theorem afG:sF=16386:=rfl
theorem ado {d e:Nat} (h:d<=e):SB d<=SB e:=Nat.mul_le_mul_left _ (Nat.pow_le_pow_right aa h)
abbrev sV:Nat:=268435456
theorem JV {d:Nat} (h:d<=6):SB d<=sV:=Nat.le_trans (ado h) (by decide)
def Nt (k:Nat->Rat) (i:Nat) (t:Rat) (d j:Nat):Rat:=if j=0 then 0 else fr (k (i-d+(j-1))) (k (i-d+(j-1)+(d+1))) t*vB k i t d (j-1)
theorem afj:aW 186 f186:=aN func186
def zR:Spec:=cP (kC (kL sK) (kC kI kN)) (fun a=>.int .i64 ((a.1.1:Int)-a.2.1-1)) fun a=>[a.1.1<2^40,-2^40<a.2.1,a.2.1<2^40]
theorem Ri {n:Nat} {k:Nat->Rat} {p:Int}:bD T [nG] [] 60 f186 (aF f186) ⟨aT 0 [ls k n,.int .i64 p],[],0⟩=
  let c3:Int:=(↑n:Int)-p;let c1:Int:=(2:Int)^63;let c2:Int:=c3-1;some (aj [-c1<=c3/\c3<c1,-c1<=c2/\c2<c1] (leaf ret [int i64 c2])):=ah
theorem Ay:aY P zR 186:=cC fun⟨⟨n,k⟩,p,_⟩ K hn=>by
 obtain⟨h1,h2,h3⟩:=hn
 have h3:p<2^40:=h3
 simp only at h1 h2
 refine bJ (r:=aI (.int .i64 ((n:Int)-p-1)) []) hT (eV bA) hm afj rfl aV rfl 60 Ri (fun _=>?_) K []
 simp only[ag.all,au]
 exact⟨aa,.refl _⟩
abbrev zO:az:=⟨false,true,3,1,fun _=>.rat 0 1⟩
theorem Kn.Pt {n p:Nat} {k:Nat->Rat} (h:Kn n p k) {t:Rat} (hin:¬kX n k t):p<=cS n k t/\cS n k t+p+1<n:=by
 have h1:¬t<k 0:=fun h=>hin (.inl h)
 have h2:¬k (n-1)<t:=fun h=>hin (.inr h)
 exact(h.DI (by grind) (by grind)).2
def bS (k:Nat->Rat) (t:Rat):Nat->Nat
 |0=>0
 |i+1=>bS k t i+if k i=t then 1 else 0
def gn (k:Nat->Rat) (i:Nat):Prop:=i=0\/k i≠k (i-1)
instance {k:Nat->Rat} {i:Nat}:Decidable (gn k i):=inferInstanceAs (Decidable (i=0\/k i≠k (i-1)))
def bL (k:Nat->Rat):Nat->Nat
 |0=>0
 |i+1=>bL k i+if gn k i then 1 else 0
def b9 (k:Nat->Rat):Nat->Nat->Rat
 |0=>fun _=>0
 |i+1=>if gn k i then oo (b9 k i) (bL k i) (k i)else b9 k i
theorem LZ {k:Nat->Rat} {t:Rat}:∀{n:Nat},bS k t n<=n
 |0=>Nat.le_refl _
 |n+1=>by
  have:=LZ (k:=k) (t:=t) (n:=n)
  unfold bS;split<;>omega
theorem pP {k:Nat->Rat}:∀{n:Nat},bL k n<=n
 |0=>Nat.le_refl _
 |n+1=>by
  have:=pP (k:=k) (n:=n)
  unfold bL;split<;>omega
theorem zW {k:Nat->Rat}:∀{n:Nat},0<bL k (n+1)/\b9 k (n+1) 0=k 0/\b9 k (n+1) (bL k (n+1)-1)=k n
 |0=>by simp[bL,b9,gn,oo]
 |n+1=>by
  obtain⟨h1,h2,h3⟩:=zW (k:=k) (n:=n)
  rw[bL,b9]
  by_cases h:gn k (n+1)
  ·rw[if_pos h,if_pos h]
   refine⟨by omega,by rw[j0 (by omega)];exact h2,?_⟩
   rw[show bL k (n+1)+1-1=bL k (n+1) by omega,qO]
  ·rw[if_neg h,if_neg h]
   refine⟨by omega,h2,?_⟩
   show b9 k (n+1) (bL k (n+1)-1)=_
   rw[h3]
   unfold gn at h
   have:k (n+1)=k (n+1-1):=by
    by_cases e:k (n+1)=k (n+1-1)
    ·exact e
    ·exact absurd (.inr e) h
   rw[this];rfl
theorem CC {k:Nat->Rat}:∀{n j:Nat},j<bL k n->∃i,i<n/\b9 k n j=k i
 |0,j,h=>by simp[bL]at h
 |n+1,j,h=>by
  rw[b9]
  rw[bL]at h
  by_cases hn:gn k n
  ·rw[if_pos hn]at h ⊢
   by_cases he:j=bL k n
   ·subst he;exact⟨n,by omega,qO⟩
   ·obtain⟨i,h1,h2⟩:=CC (k:=k) (n:=n) (j:=j) (by omega)
    exact⟨i,by omega,by rw[j0 he];exact h2⟩
  ·rw[if_neg hn]at h ⊢
   obtain⟨i,h1,h2⟩:=CC (k:=k) (n:=n) (j:=j) (by omega)
   exact⟨i,by omega,h2⟩
def qP (n:Nat) (k:Nat->Rat):Prop:=∀i,i+1<n->k i<=k (i+1)
def kE (n:Nat) (k:Nat->Rat) (p:Nat) (t:Rat):Prop:=((t=k 0\/t=k (n-1))/\bS k t n≠p+1)\/(¬(t=k 0\/t=k (n-1))/\p<bS k t n)
instance {n:Nat} {k:Nat->Rat} {p:Nat} {t:Rat}:Decidable (kE n k p t):=inferInstanceAs (Decidable (((t=k 0\/t=k (n-1))/\bS k t n≠p+1)\/(¬(t=k 0\/t=k (n-1))/\p<bS k t n)))
def qG (n:Nat) (k:Nat->Rat) (p:Nat):Prop:=qP n k/\k 0≠k (n-1)/\∀j,j<bL k n->¬kE n k p (b9 k n j)
open Classical in
def iH (n:Nat) (k:Nat->Rat) (p:Int):Int:=
 if p<1\/6<p then 1 else if(n:Int)<2*p+2 then 5 else if 40<(n:Int)-p-1 then 2 else if qG n k p.toNat then 0 else 5
theorem ML {k:Nat->Rat} {t:Rat} {a b:Nat} (hab:a<=b):∀{n:Nat},(∀i,i<n->k i=t->a<=i/\i<b)->bS k t n<=min n b-min n a
 |0,_=>by simp[bS]
 |n+1,h=>by
  have ih:=ML (k:=k) (t:=t) hab (n:=n) fun i hi=>h i (by omega)
  rw[bS]
  split
  ·rename_i e
   have:=h n (by omega) e
   omega
  ·omega
theorem A2 {k:Nat->Rat} {t:Rat} {a b:Nat} (hab:a<=b):∀{n:Nat},(∀i,i<n->(k i=t↔a<=i/\i<b))->bS k t n=min n b-min n a
 |0,_=>by simp[bS]
 |n+1,h=>by
  have ih:=A2 (k:=k) (t:=t) hab (n:=n) fun i hi=>h i (by omega)
  rw[bS]
  have:=h n (by omega)
  split
  ·rename_i e
   have:=this.1 e
   omega
  ·rename_i e
   have:¬(a<=n/\n<b):=fun h=>e (this.2 h)
   omega
theorem least {q:Nat->Prop} [DecidablePred q]:∀{n:Nat},q n->∃a,a<=n/\q a/\∀i,i<a->¬q i
 |0,h=>⟨0,Nat.le_refl _,h,fun i hi=>by omega⟩
 |n+1,h=>by
  by_cases h2:∃i,i<n+1/\q i
  ·obtain⟨i,hi,hq⟩:=h2
   obtain⟨a,h3,h4,h5⟩:=least_lt hi hq
   exact⟨a,by omega,h4,h5⟩
  ·exact⟨n+1,Nat.le_refl _,h,fun i hi hq=>h2 ⟨i,hi,hq⟩⟩
where
 least_lt {q:Nat->Prop} [DecidablePred q]:∀{n i:Nat},i<n->q i->∃a,a<n/\q a/\∀i,i<a->¬q i
 |0,i,h,_=>by omega
 |n+1,i,h,hq=>by
  by_cases h2:∃j,j<n/\q j
  ·obtain⟨j,hj,hq⟩:=h2
   obtain⟨a,h3,h4,h5⟩:=least_lt hj hq
   exact⟨a,by omega,h4,h5⟩
  ·have:i=n:=by
    by_cases e:i=n
    ·exact e
    ·exact absurd ⟨i,by omega,hq⟩ h2
   subst this
   exact⟨i,h,hq,fun j hj hq=>h2 ⟨j,hj,hq⟩⟩
theorem Kn.qG {n p:Nat} {k:Nat->Rat} (h:Kn n p k):qG n k p:=by
 have hp:=h.p1
 have hl:=h.len
 have hw:k p<k (p+1):=by
  have:=h.mult 1 (by omega) (by omega)
  rw[h.first 1 (by omega),show 1+p=p+1 by omega]at this
  rw[h.first p (by omega)];exact this
 have hw2:k (n-p-2)<k (n-p-1):=by
  by_cases he:n=2*p+2
  ·have e1:n-p-2=p:=by omega
   have e2:n-p-1=p+1:=by omega
   rw[e1,e2];exact hw
  ·have:=h.mult (n-p-2) (by omega) (by omega)
   rw[h.last (n-p-2+p) (by omega) (by omega),<-h.last (n-p-1) (by omega) (by omega)]at this
   exact this
 have m:∀{i j},i<=j->j<n->k i<=k j:=fun hi hj=>gB h.sorted hi hj
 have h0l:k 0<k (n-1):=by
  have a:=m (i:=p+1) (j:=n-1) (by omega) (by omega)
  have b:=h.first p (Nat.le_refl _)
  grind
 refine⟨h.sorted,by grind,fun j hj=>?_⟩
 obtain⟨i,hi,e⟩:=CC hj
 rw[e]
 unfold kE
 by_cases h0:k i=k 0
 ·have:bS k (k i) n=p+1:=by
   rw[A2 (a:=0) (b:=p+1) (by omega) (n:=n) fun x hx=>?_]
   ·omega
   ·rw[h0]
    constructor
    ·intro ex
     refine⟨by omega,?_⟩
     by_cases hx2:x<p+1
     ·exact hx2
     ·have:=m (i:=p+1) (j:=x) (by omega) hx
      have b:=h.first p (Nat.le_refl _)
      grind
    ·intro hx2;exact h.first x (by omega)
  rw[this]
  simp[h0]
 ·by_cases h1:k i=k (n-1)
  ·have:bS k (k i) n=p+1:=by
    rw[A2 (a:=n-p-1) (b:=n) (by omega) (n:=n) fun x hx=>?_]
    ·omega
    ·rw[h1]
     constructor
     ·intro ex
      refine⟨?_,hx⟩
      by_cases hx2:n-p-1<=x
      ·exact hx2
      ·have:=m (i:=x) (j:=n-p-2) (by omega) (by omega)
       have b:=h.last (n-p-1) (by omega) (by omega)
       grind
     ·intro hx2;exact h.last x (by omega) hx
   rw[this]
   simp[h1]
  ·obtain⟨a,ha,e,hlt⟩:=least (q:=fun x=>k x=k i) (n:=i) rfl
   have ha0:p<a:=by
    by_cases hx:p<a
    ·exact hx
    ·have:=h.first a (by omega)
     rw[this]at e;exact absurd e.symm h0
   have hal:a+p+1<n:=by
    by_cases hx:a+p+1<n
    ·exact hx
    ·have:=h.last a (by omega) (by omega)
     rw[this]at e;exact absurd e.symm h1
   have hm:=h.mult a (by omega) hal
   have:bS k (k i) n<=min n (a+p)-min n a:=by
    refine ML (by omega) fun x hx ex=>⟨?_,?_⟩
    ·by_cases hx2:a<=x
     ·exact hx2
     ·exact absurd ex (hlt x (by omega))
    ·by_cases hx2:x<a+p
     ·exact hx2
     ·have:=m (i:=a+p) (j:=x) (by omega) hx
      grind
   intro hb
   rcases hb with⟨h2,_⟩|⟨_,h2⟩
   ·exact h2.elim h0 h1
   ·omega
theorem Kn.Wr {n p:Nat} {k:Nat->Rat} (h:Kn n p k) (hp6:p<=6) (hn:n<=p+41):iH n k p=0:=by
 have hp:=h.p1
 have hl:=h.len
 unfold iH
 rw[if_neg (by omega),if_neg (by omega),if_neg (by omega),if_pos (by rw[Int.toNat_natCast];exact h.qG)]
end Go.Am.B
