/- brepkernelmade: Part. -/
import Derived.Test.YtnniljlepppdpaaGreatB33
import Derived.Test.YtnniljlepppdpaaGreatZ2
import Init
set_option linter.unusedVariables false
noncomputable section
namespace Go.Am.B
open Go Go.Am.N AV
theorem RH:aU P IP BF (az BF):=aT Proofs.Tryz.func79 ah ah ah
def aba:aV:=[(wY,GK),(qX,wX)]
theorem X0 {d:Int}:bP T aba [] 60 BF (az BF) ⟨aQ 0 [.int .i64 d],[],0⟩=
  some (ag.aj [(17:Int)≠(0:Int),(0:Int)<(12:Int),(12:Int)<(2:Int)^62] (ag.aj [(0:Int)<IntKind.i64.wrap (IntKind.i64.wrap ((1:Int)+IntKind.i64.wrap (d.tdiv (17:Int))%(12:Int))+(1:Int)),IntKind.i64.wrap (IntKind.i64.wrap ((1:Int)+IntKind.i64.wrap (d.tdiv (17:Int))%(12:Int))+(1:Int))<(2:Int)^62,-(2:Int)^63<=d%IntKind.i64.wrap (IntKind.i64.wrap ((1:Int)+IntKind.i64.wrap (d.tdiv (17:Int))%(12:Int))+(1:Int)),d%IntKind.i64.wrap (IntKind.i64.wrap ((1:Int)+IntKind.i64.wrap (d.tdiv (17:Int))%(12:Int))+(1:Int))<(2:Int)^63,-(2:Int)^63<=IntKind.i64.wrap ((1:Int)+IntKind.i64.wrap (d.tdiv (17:Int))%(12:Int)),IntKind.i64.wrap ((1:Int)+IntKind.i64.wrap (d.tdiv (17:Int))%(12:Int))<(2:Int)^63,(0:Nat)<1] (ag.aj [(0:Nat)<1] (ag.leaf ak.ret [rat ((↑(d%IntKind.i64.wrap (IntKind.i64.wrap ((1:Int)+IntKind.i64.wrap (d.tdiv (17:Int))%(12:Int))+(1:Int))):Rat)/(↑(IntKind.i64.wrap ((1:Int)+IntKind.i64.wrap (d.tdiv (17:Int))%(12:Int))):Rat)) 64])))):=ah
def oU (d:Int):Int:=1+IntKind.i64.wrap (d.tdiv 17)%12
def j8 (d:Int):Rat:=((d%(oU d+1):Int):Rat)/((oU d:Int):Rat)
def LZ:Spec:=bM fun l=>match l with
 |[.int .i64 d]=>some (aL (.rat (j8 d) 64) [])
 |_=>none
theorem ace:∀K args pre r,LZ K args pre=some r->aD P IP K args pre r:=by
 refine ct fun K args r hk hs _=>?_
 split at hs
 ·rename_i d
  simp only[au]at hs
  subst hs
  refine bW hT (aI Nq (aI D8 bE)) hm RH rfl aW rfl 60 X0 (fun _=>?_) K []
  unfold j8 oU
  generalize IntKind.i64.wrap (d.tdiv 17)=w at*
  have w1:=Int.emod_nonneg w (show(12:Int)≠0 by omega)
  have w2:=Int.emod_lt_of_pos w (show(0:Int)<12 by omega)
  generalize w%12=x at*
  have e1:IntKind.i64.wrap (1+x)=1+x:=wrap_i64 aa aa
  have e2:IntKind.i64.wrap (1+x+1)=1+x+1:=wrap_i64 aa aa
  rw[e1,e2]
  have v1:=Int.emod_nonneg d (show 1+x+1≠0 by omega)
  have v2:=Int.emod_lt_of_pos d (show 0<1+x+1 by omega)
  generalize d%(1+x+1)=y at*
  simp only[ag.all,aA]
  exact⟨⟨aa,aa,aa⟩,⟨aa,aa,aa,aa,aa,aa,aa⟩,aa,.refl _⟩
 ·simp at hs
@[ext] structure V3 where
 x:Rat
 y:Rat
 z:Rat
structure Pl where
 n:V3
 d:Rat
structure M3 where
 a:V3
 b:V3
 c:V3
structure Mp where
 m:M3
 t:V3
abbrev rA (q:Rat) (n:Nat):AV:=.rat q n
abbrev vA (v:V3) (n:Nat):AV:=.agg [.rat v.x n,.rat v.y n,.rat v.z n]
abbrev bU (p:Pl) (n:Nat):AV:=.agg [vA p.n n,.rat p.d n]
abbrev zM (m:M3) (n:Nat):AV:=.agg [vA m.a n,vA m.b n,vA m.c n]
abbrev mP (m:Mp) (n:Nat):AV:=.agg [zM m.m n,vA m.t n]
theorem bQ {q r:Rat} {n k:Nat} (h:q=r) (hk:n<=k):bD (.rat q n) (.rat r k):=h▸fJ hk
theorem mB {u v:V3} {n k:Nat} (h:u=v) (hk:n<=k):bD (vA u n) (vA v k):=
 h▸cu ⟨bQ rfl hk,bQ rfl hk,bQ rfl hk,trivial⟩
structure Kind (α:Type) where
 read:AV->Option (α×List Prop)
 make:α->AV
 ok:∀{v:AV} {a:α} {q:List Prop},read v=some (a,q)->aA q->bD v (make a)
def jv:AV->Option (Rat×Nat)
 |.rat q n=>some (q,n)
 |.agg [.bool false,.mag 0,.mag 0]=>some (0,1)
 |_=>none
theorem jQ {v:AV} {a:Rat×Nat} (h:jv v=some a):bD v (rA a.1 a.2):=by
 unfold jv at h
 split at h
 ·simp only[au]at h;subst h;exact .refl _
 ·simp only[au]at h;subst h;exact nh
 ·simp at h
def rP:AV->Option ((V3×Nat)×List Prop)
 |.agg [x,y,z]=>match jv x,jv y,jv z with
  |some (x,a),some (y,b),some (z,c)=>some ((⟨x,y,z⟩,a),[b<=a,c<=a])
  |_,_,_=>none
 |_=>none
theorem xV {v:AV} {a:V3×Nat} {q:List Prop} (h:rP v=some (a,q)) (hq:aA q):bD v (vA a.1 a.2):=by
 unfold rP at h
 split at h
 ·split at h
  ·rename_i h1 h2 h3
   simp only[au,Prod.mk.injEq]at h
   obtain⟨rfl,rfl⟩:=h
   exact cu ⟨jQ h1,(jQ h2).trans (bQ rfl hq.1),(jQ h3).trans (bQ rfl hq.2),trivial⟩
  ·simp at h
 ·simp at h
def zW:AV->Option ((Pl×Nat)×List Prop)
 |.agg [v,d]=>match rP v,jv d with
  |some ((v,a),q),some (d,b)=>some ((⟨v,d⟩,max a b),q)
  |_,_=>none
 |_=>none
theorem Xa {v:AV} {a:Pl×Nat} {q:List Prop} (h:zW v=some (a,q)) (hq:aA q):bD v (bU a.1 a.2):=by
 unfold zW at h
 split at h
 ·split at h
  ·rename_i h1 h2
   simp only[au,Prod.mk.injEq]at h
   obtain⟨rfl,rfl⟩:=h
   exact cu ⟨(xV h1 hq).trans (mB rfl (by simp only;omega)),(jQ h2).trans (bQ rfl (by simp only;omega)),trivial⟩
  ·simp at h
 ·simp at h
def Jd:AV->Option ((M3×Nat)×List Prop)
 |.agg [x,y,z]=>match rP x,rP y,rP z with
  |some ((x,a),p),some ((y,b),q),some ((z,c),r)=>some ((⟨x,y,z⟩,a),[b<=a,c<=a]++(p++(q++r)))
  |_,_,_=>none
 |_=>none
theorem aai {v:AV} {a:M3×Nat} {q:List Prop} (h:Jd v=some (a,q)) (hq:aA q):bD v (zM a.1 a.2):=by
 unfold Jd at h
 split at h
 ·split at h
  ·rename_i h1 h2 h3
   simp only[au,Prod.mk.injEq]at h
   obtain⟨rfl,rfl⟩:=h
   obtain⟨q1,q2⟩:=dn.1 hq
   obtain⟨q2,q3⟩:=dn.1 q2
   obtain⟨q3,q4⟩:=dn.1 q3
   exact cu ⟨xV h1 q2,(xV h2 q3).trans (mB rfl q1.1),(xV h3 q4).trans (mB rfl q1.2),trivial⟩
  ·simp at h
 ·simp at h
theorem QW {u v:M3} {n k:Nat} (h:u=v) (hk:n<=k):bD (zM u n) (zM v k):=
 h▸cu ⟨mB rfl hk,mB rfl hk,mB rfl hk,trivial⟩
def Cg:AV->Option ((Mp×Nat)×List Prop)
 |.agg [v,d]=>match Jd v,rP d with
  |some ((v,a),p),some ((d,b),q)=>some ((⟨v,d⟩,max a b),p++q)
  |_,_=>none
 |_=>none
theorem adg {v:AV} {a:Mp×Nat} {q:List Prop} (h:Cg v=some (a,q)) (hq:aA q):bD v (mP a.1 a.2):=by
 unfold Cg at h
 split at h
 ·split at h
  ·rename_i h1 h2
   simp only[au,Prod.mk.injEq]at h
   obtain⟨rfl,rfl⟩:=h
   obtain⟨q1,q2⟩:=dn.1 hq
   exact cu ⟨(aai h1 q1).trans (QW rfl (by simp only;omega)),(xV h2 q2).trans (mB rfl (by simp only;omega)),trivial⟩
  ·simp at h
 ·simp at h
theorem ai7 {u v:Mp} {n k:Nat} (h:u=v) (hk:n<=k):bD (mP u n) (mP v k):=
 h▸cu ⟨QW rfl hk,mB rfl hk,trivial⟩
def I7 (v:AV):Option ((Rat×Nat)×List Prop):=match jv v with
 |some a=>some (a,[])
 |none=>none
theorem af7 {v:AV} {a:Rat×Nat} {q:List Prop} (h:I7 v=some (a,q)) (_:aA q):bD v (rA a.1 a.2):=by
 unfold I7 at h
 split at h
 ·rename_i h1
  simp only[au,Prod.mk.injEq]at h
  obtain⟨rfl,rfl⟩:=h
  exact jQ h1
 ·simp at h
def GW:AV->Option (Int×List Prop)
 |.int .i64 n=>some (n,[])
 |_=>none
theorem acn {v:AV} {a:Int} {q:List Prop} (h:GW v=some (a,q)) (_:aA q):bD v (.int .i64 a):=by
 unfold GW at h
 split at h
 ·simp only[au,Prod.mk.injEq]at h
  obtain⟨rfl,rfl⟩:=h
  exact .refl _
 ·simp at h
def kR:Kind (Rat×Nat):=⟨I7,fun a=>rA a.1 a.2,af7⟩
def kPl:Kind (Pl×Nat):=⟨zW,fun a=>bU a.1 a.2,Xa⟩
def kI:Kind Int:=⟨GW,fun a=>.int .i64 a,acn⟩
section specs
variable {α β γ δ:Type} {f:FuncId}
def F6 (k:Kind α) (g:α->AV) (need:α->List Prop):Spec:=bM fun l=>match l with
 |[x]=>match k.read x with
  |some (a,p)=>some (aL (g a) (p++need a))
  |none=>none
 |_=>none
theorem Jo {k:Kind α} {g:α->AV} {need:α->List Prop} (h:∀a K,aA (need a)->aD P f K [k.make a] [] (aL (g a) [])):∀K args pre r,F6 k g need K args pre=some r->aD P f K args pre r:=by
 refine ct fun K args r hk hs _=>?_
 split at hs
 ·split at hs
  ·rename_i h1
   simp only[au]at hs
   subst hs
   intro hn
   obtain⟨n1,hn⟩:=dn.1 hn
   exact gv (h _ K hn) hk ⟨k.ok h1 n1,trivial⟩ [] trivial
  ·simp at hs
 ·simp at hs
def jZ (k:Kind α) (k2:Kind β) (g:α->β->AV) (need:α->β->List Prop):Spec:=bM fun l=>match l with
 |[x,y]=>match k.read x,k2.read y with
  |some (a,p),some (b,q)=>some (aL (g a b) (p++(q++need a b)))
  |_,_=>none
 |_=>none
theorem kE {k:Kind α} {k2:Kind β} {g:α->β->AV} {need:α->β->List Prop} (h:∀a b K,aA (need a b)->aD P f K [k.make a,k2.make b] [] (aL (g a b) [])):∀K args pre r,jZ k k2 g need K args pre=some r->aD P f K args pre r:=by
 refine ct fun K args r hk hs _=>?_
 split at hs
 ·split at hs
  ·rename_i h1 h2
   simp only[au]at hs
   subst hs
   intro hn
   obtain⟨n1,hn⟩:=dn.1 hn
   obtain⟨n2,hn⟩:=dn.1 hn
   exact gv (h _ _ K hn) hk ⟨k.ok h1 n1,k2.ok h2 n2,trivial⟩ [] trivial
  ·simp at hs
 ·simp at hs
end specs
def qd (a b:Rat×Nat):List Prop:=[a.2<2^42,b.2<2^42]
def yu (a b:Rat×Nat):List Prop:=[a.2<2^41,b.2<2^41]
def mz (a b:Rat×Nat):AV:=rA (a.1+b.1) (a.2+b.2+1)
def vq (a b:Rat×Nat):AV:=rA (a.1-b.1) (a.2+b.2+1)
def C6 (a b:Rat×Nat):AV:=rA (a.1*b.1) (a.2+b.2)
def DH (a b:Rat×Nat):AV:=.tuple [rA (a.1/b.1) (a.2+b.2),.int .i64 (if b.1=0 then 3 else 0)]
def ahv (a b:Rat×Nat):AV:=rA (lH a.1 b.1) (max a.2 b.2)
def Yj (a b:Rat×Nat):AV:=rA (lP a.1 b.1) (max a.2 b.2)
def Ei (a b:Rat×Nat):AV:=.int .i64 (ek a.1 b.1)
def DF (a b:Rat×Nat):AV:=.bool (decide (a.1=b.1))
def Ac (a:Rat×Nat):AV:=.int .i64 (eP a.1)
abbrev H9:FuncId×Spec:=(uk,Oj)
def fK:aV:=[(Ay,jZ kR kR mz qd),(zJ,jZ kR kR vq qd),(CM,jZ kR kR C6 qd),(gV,jZ kR kR DF qd),(kS,jZ kR kR Ei qd),(uw,F6 kR Ac fun a=>[a.2<2^42]),H9]
def Rj:aV:=[(tJ,jZ kR kR mz yu),(By,jZ kR kR vq yu),(AO,jZ kR kR C6 yu),(BH,jZ kR kR DF yu),(Ap,jZ kR kR Ei yu),(tv,F6 kR Ac fun a=>[a.2<2^41]),(o5,ye)]
theorem ZZ:∀K args pre r,H9.2 K args pre=some r->aD P H9.1 K args pre r:=Xu
theorem fZ:bn P fK:=aI (kE fun _ _ K hn=>OF hn.1 hn.2 K) (aI (kE fun _ _ K hn=>Rx hn.1 hn.2 K) (aI (kE fun _ _ K hn=>OY hn.1 hn.2 K)
 (aI (kE fun _ _ K hn=>JM (Nat.lt_trans hn.1 aa) (Nat.lt_trans hn.2 aa) K []) (aI (kE fun _ _ K hn=>EY hn.1 hn.2 K []) (aI (Jo fun _ K hn=>Fw (Nat.lt_trans hn aa) K []) (aI ZZ bE))))))
theorem acN:bn P Rj:=aI (kE fun _ _ K hn=>I4 hn.1 hn.2 K) (aI (kE fun _ _ K hn=>JU hn.1 hn.2 K) (aI (kE fun _ _ K hn=>JW hn.1 hn.2 K)
 (aI (kE fun _ _ K hn=>O0 (Nat.lt_trans hn.1 aa) (Nat.lt_trans hn.2 aa) K []) (aI (kE fun _ _ K hn=>Pe hn.1 hn.2 K) (aI (Jo fun _ K _=>HW K []) (aI BY bE))))))
end Go.Am.B
namespace Go.Am.B
open Go Go.Am.N AV
structure Kd (α:Type) where
 read:AV->Option α
 make:α->AV
 ok:∀{v:AV} {a:α},read v=some a->bD v (make a)
def Gm:AV->Option (V3×Nat)
 |.agg [x,y,z]=>match jv x,jv y,jv z with
  |some (x,a),some (y,b),some (z,c)=>some (⟨x,y,z⟩,max a (max b c))
  |_,_,_=>none
 |_=>none
theorem Xo {v:AV} {a:V3×Nat} (h:Gm v=some a):bD v (vA a.1 a.2):=by
 unfold Gm at h
 split at h
 ·split at h
  ·rename_i h1 h2 h3
   simp only[au]at h
   subst h
   exact cu ⟨(jQ h1).trans (bQ rfl (by simp only;omega)),(jQ h2).trans (bQ rfl (by simp only;omega)),(jQ h3).trans (bQ rfl (by simp only;omega)),trivial⟩
  ·simp at h
 ·simp at h
def dR:Kd (Rat×Nat):=⟨jv,fun a=>rA a.1 a.2,jQ⟩
def dV:Kd (V3×Nat):=⟨Gm,fun a=>vA a.1 a.2,Xo⟩
section specs
variable {α β γ δ:Type} {f:FuncId}
def HP (k:Kd α) (g:α->AV) (B:α->Bool):Spec:=bM fun l=>match l with
 |[x]=>match k.read x with
  |some a=>match B a with
   |true=>some (aL (g a) [])
   |false=>none
  |_=>none
 |_=>none
theorem ND {k:Kd α} {g:α->AV} {B:α->Bool} (h:∀a K,B a=true->aD P f K [k.make a] [] (aL (g a) [])):∀K args pre r,HP k g B K args pre=some r->aD P f K args pre r:=by
 refine ct fun K args r hk hs _=>?_
 split at hs
 ·split at hs
  ·rename_i h1
   split at hs
   ·rename_i hB
    simp only[au]at hs
    subst hs
    exact gv (h _ K hB) hk ⟨k.ok h1,trivial⟩ []
   ·simp at hs
  ·simp at hs
 ·simp at hs
def j7 (k:Kd α) (k2:Kd β) (g:α->β->AV) (B:α->β->Bool):Spec:=bM fun l=>match l with
 |[x,y]=>match k.read x,k2.read y with
  |some a,some b=>match B a b with
   |true=>some (aL (g a b) [])
   |false=>none
  |_,_=>none
 |_=>none
theorem kA {k:Kd α} {k2:Kd β} {g:α->β->AV} {B:α->β->Bool} (h:∀a b K,B a b=true->aD P f K [k.make a,k2.make b] [] (aL (g a b) [])):∀K args pre r,j7 k k2 g B K args pre=some r->aD P f K args pre r:=by
 refine ct fun K args r hk hs _=>?_
 split at hs
 ·split at hs
  ·rename_i h1 h2
   split at hs
   ·rename_i hB
    simp only[au]at hs
    subst hs
    exact gv (h _ _ K hB) hk ⟨k.ok h1,k2.ok h2,trivial⟩ []
   ·simp at hs
  ·simp at hs
 ·simp at hs
end specs
def b1 {α:Type} (e:Nat) (a:α×Nat):Bool:=Nat.blt a.2 (2^e)
def b2 {α β:Type} (e:Nat) (a:α×Nat) (b:β×Nat):Bool:=Nat.blt a.2 (2^e)&&Nat.blt b.2 (2^e)
def b3 {α β γ:Type} (e:Nat) (a:α×Nat) (b:β×Nat) (c:γ×Nat):Bool:=Nat.blt a.2 (2^e)&&(Nat.blt b.2 (2^e)&&Nat.blt c.2 (2^e))
theorem NF {a b:Nat}:Nat.blt a b=true↔a<b:=by rw[Nat.blt_eq]
theorem abG {α:Type} {e:Nat} {a:α×Nat} (h:b1 e a=true):a.2<2^e:=NF.1 h
theorem fO {α β:Type} {e:Nat} {a:α×Nat} {b:β×Nat} (h:b2 e a b=true):a.2<2^e/\b.2<2^e:=by
 simp only[b2,Bool.and_eq_true,NF]at h;exact h
def AL:Spec:=bM fun l=>match l with
 |[.int .i64 n]=>match decide (-2^63<=n/\n<2^63)with
  |true=>some (aL (.rat (n:Rat) (max 1 (bG n.natAbs))) [])
  |false=>none
 |_=>none
abbrev F3:FuncId×Spec:=(uk,AL)
abbrev IT:FuncId×Spec:=(IM,j7 dR dR ahv (b2 42))
abbrev HK:FuncId×Spec:=(HN,j7 dR dR Yj (b2 42))
def tw:aV:=[(Ay,j7 dR dR mz (b2 42)),(zJ,j7 dR dR vq (b2 42)),(CM,j7 dR dR C6 (b2 42)),(gV,j7 dR dR DF (b2 42)),(kS,j7 dR dR Ei (b2 42)),(uw,HP dR Ac (b1 42)),F3,(uZ,j7 dR dR DH (b2 42)),IT,HK]
def oO:aV:=[(tJ,j7 dR dR mz (b2 41)),(By,j7 dR dR vq (b2 41)),(AO,j7 dR dR C6 (b2 41)),(BH,j7 dR dR DF (b2 41)),(Ap,j7 dR dR Ei (b2 41)),(tv,HP dR Ac (b1 41)),(o5,AL)]
theorem FL {n:Nat} (h:n<2^42):n<2^44:=Nat.lt_trans h aa
theorem PZ {n:Nat} (h:n<2^41):n<2^44:=Nat.lt_trans h aa
theorem F2 {f:FuncId} (h:∀{n:Int},-2^63<=n->n<2^63->∀K,aD P f K [.int .i64 n] [] (aL (.rat (n:Rat) (max 1 (bG n.natAbs))) [])):∀K args pre r,AL K args pre=some r->aD P f K args pre r:=by
 refine ct fun K args r hk hs _=>?_
 split at hs
 ·split at hs
  ·rename_i hc
   simp only[au]at hs
   subst hs
   have:=of_decide_eq_true hc
   exact h this.1 this.2 K
  ·simp at hs
 ·simp at hs
theorem agj:∀K args pre r,F3.2 K args pre=some r->aD P F3.1 K args pre r:=F2 GL
theorem W4:∀K args pre r,IT.2 K args pre=some r->aD P IT.1 K args pre r:=kA fun _ _ K hn=>VD (fO hn).1 (fO hn).2 K
theorem Yz:∀K args pre r,HK.2 K args pre=some r->aD P HK.1 K args pre r:=kA fun _ _ K hn=>af5 (fO hn).1 (fO hn).2 K
theorem yY:bn P tw:=aI (kA fun _ _ K hn=>OF (fO hn).1 (fO hn).2 K) (aI (kA fun _ _ K hn=>Rx (fO hn).1 (fO hn).2 K) (aI (kA fun _ _ K hn=>OY (fO hn).1 (fO hn).2 K)
 (aI (kA fun _ _ K hn=>JM (FL (fO hn).1) (FL (fO hn).2) K []) (aI (kA fun _ _ K hn=>EY (fO hn).1 (fO hn).2 K []) (aI (ND fun _ K hn=>Fw (FL (abG hn)) K []) (aI agj
 (aI (kA fun _ _ K hn=>Cx (fO hn).1 (fO hn).2 K) (aI W4 (aI Yz bE)))))))))
theorem r5:bn P oO:=aI (kA fun _ _ K hn=>I4 (fO hn).1 (fO hn).2 K) (aI (kA fun _ _ K hn=>JU (fO hn).1 (fO hn).2 K) (aI (kA fun _ _ K hn=>JW (fO hn).1 (fO hn).2 K)
 (aI (kA fun _ _ K hn=>O0 (PZ (fO hn).1) (PZ (fO hn).2) K []) (aI (kA fun _ _ K hn=>Pe (fO hn).1 (fO hn).2 K) (aI (ND fun _ K _=>HW K []) (aI (F2 JR) bE))))))
end Go.Am.B
namespace Go.Am.B
open Go Go.Am.N AV
def cD (n:Nat) (f:Nat->Rat):Rat:=match n with
 |0=>0
 |n+1=>cD n f+f n
theorem vE {f g:Nat->Rat}:∀{n:Nat},(∀i,i<n->f i=g i)->cD n f=cD n g
 |0,_=>rfl
 |n+1,h=>by rw[cD,cD,vE fun i hi=>h i (by omega),h n (by omega)]
theorem Jb {f g:Nat->Rat}:∀{n:Nat},cD n (fun i=>f i+g i)=cD n f+cD n g
 |0=>by simp only[cD];grind
 |n+1=>by rw[cD,cD,cD,Jb];grind
theorem G7 {f:Nat->Rat}:∀{n:Nat},cD (n+1) f=f 0+cD n fun i=>f (i+1)
 |0=>by simp only[cD];grind
 |n+1=>by rw[cD,G7,cD];grind
theorem E9 {f:Nat->Rat}:∀{n:Nat},(∀i,i<n->f i=0)->cD n f=0
 |0,_=>rfl
 |n+1,h=>by rw[cD,E9 fun i hi=>h i (by omega),h n (by omega)];grind
structure Kn (n p:Nat) (k:Nat->Rat):Prop where
 p1:1<=p
 len:2*p+2<=n
 sorted:∀i,i+1<n->k i<=k (i+1)
 first:∀i,i<=p->k i=k 0
 last:∀i,n<=i+p+1->i<n->k i=k (n-1)
 mult:∀i,1<=i->i+p+1<n->k i<k (i+p)
theorem fF {n:Nat} {k:Nat->Rat} (h:∀i,i+1<n->k i<=k (i+1)) {i:Nat}:∀{j:Nat},i<=j->j<n->k i<=k j
 |0,hij,_=>by
    have:i=0:=by omega
    subst this;exact Rat.le_refl
 |j+1,hij,hj=>by
  by_cases he:i=j+1
  ·subst he;exact Rat.le_refl
  ·exact Rat.le_trans (fF h (j:=j) (by omega) (by omega)) (h j hj)
theorem Kn.mono {n p:Nat} {k:Nat->Rat} (h:Kn n p k) {i j:Nat} (hij:i<=j) (hj:j<n):k i<=k j:=fF h.sorted hij hj
def fr (a b t:Rat):Rat:=(t-a)/(b-a)
theorem nw {a b t:Rat} (h:a<b):fr a b t*(b-a)=t-a:=by
 unfold fr;rw[Rat.div_mul_cancel];intro e;grind
theorem HQ {a b:Rat}:fr a b a=0:=by
 unfold fr;rw[Rat.sub_self,Rat.div_def,Rat.zero_mul]
theorem QN {a b:Rat} (h:a<b):fr a b b=1:=by
 unfold fr;rw[Rat.div_def,Rat.mul_inv_cancel];intro e;grind
theorem Li {a b t:Rat} (h:a<b) (h0:a<=t):0<=fr a b t:=by
 have e:=nw (t:=t) h
 rcases Rat.le_total (a:=0) (b:=fr a b t)with h1|h1
 ·exact h1
 ·by_cases h2:fr a b t=0
  ·rw[h2];exact Rat.le_refl
  ·have:=Rat.mul_pos (a:=-fr a b t) (b:=b-a) (by grind) (by grind)
   grind
theorem Ln {a b t:Rat} (h:a<b) (h0:t<=b):fr a b t<=1:=by
 have e:=nw (t:=t) h
 rcases Rat.le_total (a:=fr a b t) (b:=1)with h1|h1
 ·exact h1
 ·by_cases h2:fr a b t=1
  ·rw[h2];exact Rat.le_refl
  ·have:=Rat.mul_pos (a:=fr a b t-1) (b:=b-a) (by grind) (by grind)
   grind
def vB (k:Nat->Rat) (i:Nat) (t:Rat):Nat->Nat->Rat
 |0,j=>if j=0 then 1 else 0
 |d+1,j=>(if j=0 then 0 else fr (k (i-d+(j-1))) (k (i-d+(j-1)+(d+1))) t*vB k i t d (j-1))+
   (if j<=d then(1-fr (k (i-d+j)) (k (i-d+j+(d+1))) t)*vB k i t d j else 0)
theorem Cs {k:Nat->Rat} {i:Nat} {t:Rat}:∀{d j:Nat},d<j->vB k i t d j=0
 |0,j,h=>by unfold vB;rw[if_neg (by omega)]
 |d+1,j,h=>by
  unfold vB
  rw[if_neg (by omega),if_neg (by omega),Cs (d:=d) (j:=j-1) (by omega)];grind
theorem qH {k:Nat->Rat} {i:Nat} {t:Rat} {d j:Nat}:vB k i t (d+1) (j+1)=fr (k (i-d+j)) (k (i-d+j+(d+1))) t*vB k i t d j+(1-fr (k (i-d+(j+1))) (k (i-d+(j+1)+(d+1))) t)*vB k i t d (j+1):=by
 rw[vB,if_neg (by omega),Nat.add_sub_cancel]
 by_cases h:j+1<=d
 ·rw[if_pos h]
 ·rw[if_neg h,Cs (d:=d) (j:=j+1) (by omega)];grind
theorem v7 {k:Nat->Rat} {i:Nat} {t:Rat} {d:Nat}:vB k i t (d+1) 0=(1-fr (k (i-d)) (k (i-d+(d+1))) t)*vB k i t d 0:=by
 rw[vB,if_pos rfl,if_pos (by omega)];simp only[Nat.add_zero];grind
theorem ahs {k:Nat->Rat} {i:Nat} {t:Rat} {d:Nat} {c:Nat->Rat}:
  cD (d+2) (fun j=>c j*vB k i t (d+1) j)=
   cD (d+1) fun j=>(c (j+1)*fr (k (i-d+j)) (k (i-d+j+(d+1))) t+c j*(1-fr (k (i-d+j)) (k (i-d+j+(d+1))) t))*vB k i t d j:=by
 rw[G7,v7]
 have h1:cD (d+1) (fun j=>c (j+1)*vB k i t (d+1) (j+1))=
   cD (d+1) (fun j=>c (j+1)*(fr (k (i-d+j)) (k (i-d+j+(d+1))) t*vB k i t d j))+cD (d+1) (fun j=>c (j+1)*((1-fr (k (i-d+(j+1))) (k (i-d+(j+1)+(d+1))) t)*vB k i t d (j+1))):=by
  rw[<-Jb]
  refine vE fun j _=>?_
  rw[qH];grind
 have h2:cD (d+2) (fun j=>c j*((1-fr (k (i-d+j)) (k (i-d+j+(d+1))) t)*vB k i t d j))=
   c 0*((1-fr (k (i-d)) (k (i-d+(d+1))) t)*vB k i t d 0)+cD (d+1) (fun j=>c (j+1)*((1-fr (k (i-d+(j+1))) (k (i-d+(j+1)+(d+1))) t)*vB k i t d (j+1))):=by
  rw[G7];rfl
 have h3:cD (d+2) (fun j=>c j*((1-fr (k (i-d+j)) (k (i-d+j+(d+1))) t)*vB k i t d j))=
   cD (d+1) (fun j=>c j*((1-fr (k (i-d+j)) (k (i-d+j+(d+1))) t)*vB k i t d j)):=by
  rw[cD,Cs (d:=d) (j:=d+1) (by omega)];grind
 have h4:cD (d+1) (fun j=>(c (j+1)*fr (k (i-d+j)) (k (i-d+j+(d+1))) t+c j*(1-fr (k (i-d+j)) (k (i-d+j+(d+1))) t))*vB k i t d j)=
   cD (d+1) (fun j=>c (j+1)*(fr (k (i-d+j)) (k (i-d+j+(d+1))) t*vB k i t d j))+cD (d+1) (fun j=>c j*((1-fr (k (i-d+j)) (k (i-d+j+(d+1))) t)*vB k i t d j)):=by
  rw[<-Jb]
  exact vE fun j _=>by grind
 rw[h1,h4,<-h3,h2];grind
structure At (n:Nat) (k:Nat->Rat) (i:Nat):Prop where
 lt:i+1<n
 sorted:∀i,i+1<n->k i<=k (i+1)
 wide:k i<k (i+1)
theorem At.around {n:Nat} {k:Nat->Rat} {i:Nat} (h:At n k i) {a b:Nat} (ha:a<=i) (hb:i<b) (hn:b<n):k a<k b:=by
 have h1:=fF h.sorted ha (show i<n by have:=h.lt;omega)
 have h2:=fF h.sorted (show i+1<=b by omega) hn
 have h3:=h.wide
 grind
def fT (k:Nat->Rat) (b p r:Nat) (t:Rat) (x:Nat->Rat) (j:Nat):Rat:=
 if r<j then x (j-1)+fr (k (b+j)) (k (b+j+(p-r))) t*(x j-x (j-1))else x j
def bl (k:Nat->Rat) (b p:Nat):Nat->(Nat->Rat)->List Rat->Nat->Rat
 |_,x,[]=>x
 |r,x,t::l=>bl k b p (r+1) (fT k b p r t x) l
def bB (t:Nat->Rat):Nat->Nat->List Rat
 |_,0=>[]
 |a,l+1=>t a::bB t (a+1) l
def bR (k:Nat->Rat) (b p:Nat) (t:Nat->Rat) (x:Nat->Rat):Nat->Nat->Rat
 |0=>x
 |r+1=>fT k b p r (t r) (bR k b p t x r)
variable {k:Nat->Rat} {b p:Nat}
theorem Kt {t x:Nat->Rat}:∀{l r:Nat},bl k b p r (bR k b p t x r) (bB t r l)=bR k b p t x (r+l)
 |0,r=>rfl
 |l+1,r=>by
  have:=Kt (t:=t) (x:=x) (l:=l) (r:=r+1)
  rw[show r+(l+1)=r+1+l by omega,<-this];rfl
theorem MP {t x:Nat->Rat} {l:Nat}:bR k b p t x l=bl k b p 0 x (bB t 0 l):=by
 have:=Kt (k:=k) (b:=b) (p:=p) (t:=t) (x:=x) (l:=l) (r:=0)
 rw[Nat.zero_add]at this
 exact this.symm
theorem Cj:∀{l:List Rat} {r:Nat} {x y:Nat->Rat},r+l.length=p->(∀j,r<=j->j<=p->x j=y j)->bl k b p r x l p=bl k b p r y l p
 |[],r,x,y,hl,h=>h p (by simp at hl;omega) (Nat.le_refl _)
 |t::l,r,x,y,hl,h=>by
  refine Cj (l:=l) (r:=r+1) (by simp at hl;omega) fun j h1 h2=>?_
  unfold fT
  rw[if_pos (by omega),if_pos (by omega),h j (by omega) h2,h (j-1) (by omega) (by omega)]
theorem Mr {x y u v:Rat} (hu:u≠0) (hv:v≠0) (h:x*(u*v)=y*(u*v)):x=y:=by
 have:(x-y)*(u*v)=0:=by grind
 simp only[Rat.mul_eq_zero]at this
 rcases this with h1|h1|h1
 ·grind
 ·exact absurd h1 hu
 ·exact absurd h1 hv
theorem aeQ {a1 a2 b1 b2 s t x0 x1 x2:Rat} (h1:a1<b1) (h2:a2<b1) (h3:a2<b2):
  x0+fr a1 b1 s*(x1-x0)+fr a2 b1 t*(x1+fr a2 b2 s*(x2-x1)-(x0+fr a1 b1 s*(x1-x0)))=
   x0+fr a1 b1 t*(x1-x0)+fr a2 b1 s*(x1+fr a2 b2 t*(x2-x1)-(x0+fr a1 b1 t*(x1-x0))):=by
 have n1:b1-a1≠0:=by intro e;grind
 have n2:b1-a2≠0:=by intro e;grind
 have n3:b2-a2≠0:=by intro e;grind
 have e1:=nw (t:=s) h1
 have e2:=nw (t:=t) h1
 have e3:=nw (t:=s) h2
 have e4:=nw (t:=t) h2
 have e5:=nw (t:=s) h3
 have e6:=nw (t:=t) h3
 generalize fr a1 b1 s=f1s at*
 generalize fr a1 b1 t=f1t at*
 generalize fr a2 b1 s=gs at*
 generalize fr a2 b1 t=gt at*
 generalize fr a2 b2 s=f2s at*
 generalize fr a2 b2 t=f2t at*
 have c0:(1-gt)*(1-f1s)=(1-gs)*(1-f1t):=by
  refine Mr n2 n1 ?_
  have q1:(1-gt)*(b1-a2)=b1-t:=by grind
  have q2:(1-f1s)*(b1-a1)=b1-s:=by grind
  have q3:(1-gs)*(b1-a2)=b1-s:=by grind
  have q4:(1-f1t)*(b1-a1)=b1-t:=by grind
  have l1:(1-gt)*(1-f1s)*((b1-a2)*(b1-a1))=((1-gt)*(b1-a2))*((1-f1s)*(b1-a1)):=by grind
  have l2:(1-gs)*(1-f1t)*((b1-a2)*(b1-a1))=((1-gs)*(b1-a2))*((1-f1t)*(b1-a1)):=by grind
  rw[l1,l2,q1,q2,q3,q4];grind
 have c2:gt*f2s=gs*f2t:=by
  refine Mr n2 n3 ?_
  have l1:gt*f2s*((b1-a2)*(b2-a2))=(gt*(b1-a2))*(f2s*(b2-a2)):=by grind
  have l2:gs*f2t*((b1-a2)*(b2-a2))=(gs*(b1-a2))*(f2t*(b2-a2)):=by grind
  rw[l1,l2,e3,e4,e5,e6];grind
 have f1:x0+f1s*(x1-x0)+gt*(x1+f2s*(x2-x1)-(x0+f1s*(x1-x0)))=((1-gt)*(1-f1s))*x0+(1-(1-gt)*(1-f1s)-gt*f2s)*x1+(gt*f2s)*x2:=by grind
 have f2:x0+f1t*(x1-x0)+gs*(x1+f2t*(x2-x1)-(x0+f1t*(x1-x0)))=((1-gs)*(1-f1t))*x0+(1-(1-gs)*(1-f1t)-gs*f2t)*x1+(gs*f2t)*x2:=by grind
 rw[f1,f2,c0,c2]
variable {n:Nat}
theorem aik (h:At n k (b+p)) (hn:b+p+p<n) {s t:Rat} {x:Nat->Rat} {r j:Nat} (h1:r+2<=j) (h2:j<=p):
  fT k b p (r+1) t (fT k b p r s x) j=fT k b p (r+1) s (fT k b p r t x) j:=by
 have a1:=h.around (a:=b+(j-1)) (b:=b+(j-1)+(p-r)) (by omega) (by omega) (by omega)
 have a2:=h.around (a:=b+j) (b:=b+j+(p-(r+1))) (by omega) (by omega) (by omega)
 have a3:=h.around (a:=b+j) (b:=b+j+(p-r)) (by omega) (by omega) (by omega)
 have e:b+j+(p-(r+1))=b+(j-1)+(p-r):=by omega
 rw[e]at a2
 simp only[fT]
 rw[if_pos (by omega),if_pos (by omega),if_pos (by omega),if_pos (by omega),if_pos (by omega),if_pos (by omega),e]
 exact aeQ a1 a2 a3
theorem qR (h:At n k (b+p)) (hn:b+p+p<n) {l m:List Rat} (hp:l.Perm m):∀{r:Nat} {x:Nat->Rat},r+l.length=p->bl k b p r x l p=bl k b p r x m p:=by
 induction hp with
 |nil=>intro r x _;rfl
 |cons t _ ih=>intro r x hl;exact ih (by simp at hl;omega)
 |swap s t l=>
  intro r x hl
  refine Cj (l:=l) (r:=r+2) (by simp at hl;omega) fun j h1 h2=>?_
  exact aik h hn h1 h2
 |trans h1 h2 ih1 ih2=>intro r x hl;rw[ih1 hl,ih2 (by rw[<-h1.length_eq];exact hl)]
def pP (t:Nat->Rat) (a:Nat):Nat->List Rat
 |0=>[]
 |l+1=>t (a+l)::pP t a l
theorem th {t:Nat->Rat}:∀{l a:Nat},bB t a (l+1)=bB t a l++[t (a+l)]
 |0,a=>rfl
 |l+1,a=>by
  rw[bB,th (l:=l) (a:=a+1),bB,List.cons_append,show a+1+l=a+(l+1) by omega]
theorem EP {t:Nat->Rat} {a:Nat}:∀{l:Nat},(pP t a l).Perm (bB t a l)
 |0=>.nil
 |l+1=>by
  rw[th,pP]
  exact((EP (l:=l)).cons _).trans (List.perm_append_singleton _ _).symm
theorem Dx {t:Nat->Rat} {m:Nat}:∀{l a:Nat},bB t a (l+m)=bB t a l++bB t (a+l) m
 |0,a=>by rw[Nat.zero_add];rfl
 |l+1,a=>by
  rw[show l+1+m=(l+m)+1 by omega,bB,Dx (l:=l) (a:=a+1),bB,List.cons_append,show a+1+l=a+(l+1) by omega]
theorem jB {t:Nat->Rat}:∀{l a:Nat},(bB t a l).length=l
 |0,_=>rfl
 |l+1,a=>by rw[bB,List.length_cons,jB]
theorem R5 {l m:List Rat}:∀{r:Nat} {x:Nat->Rat},bl k b p r x (l++m)=bl k b p (r+l.length) (bl k b p r x l) m:=by
 induction l with
 |nil=>intro r x;rfl
 |cons t l ih=>
  intro r x
  rw[List.cons_append,bl,ih,bl,List.length_cons,show r+1+l.length=r+(l.length+1) by omega]
theorem Qt (h:At n k (b+p)) (hn:b+p+p<n) {J:Nat} (hJ:J<=p):∀{l r:Nat} {x:Nat->Rat},r+l=J->bl k b p r x (pP k (b+p+1) l) J=x J
 |0,r,x,_=>rfl
 |l+1,r,x,hr=>by
  rw[pP,bl,Qt h hn hJ (l:=l) (r:=r+1) (by omega)]
  unfold fT
  have a1:=h.around (a:=b+J) (b:=b+J+(p-r)) (by omega) (by omega) (by omega)
  rw[if_pos (by omega),show b+p+1+l=b+J+(p-r) by omega,QN a1];grind
theorem MY {J:Nat}:∀{l q:Nat} {x:Nat->Rat},bl k b p (J+q) x (bB k (b+J+1+q) l) (J+q+l)=x (J+q)
 |0,q,x=>rfl
 |l+1,q,x=>by
  have ih:=MY (J:=J) (l:=l) (q:=q+1) (x:=fT k b p (J+q) (k (b+J+1+q)) x)
  rw[bB,bl,show J+q+(l+1)=J+(q+1)+l by omega,show J+q+1=J+(q+1) by omega,show b+J+1+q+1=b+J+1+(q+1) by omega,ih]
  unfold fT
  rw[if_pos (by omega),show b+J+1+q=b+(J+(q+1)) by omega,HQ,show J+(q+1)-1=J+q by omega];grind
theorem Vk (h:At n k (b+p)) (hn:b+p+p<n) {J:Nat} (hJ:J<=p) {x:Nat->Rat}:bl k b p 0 x (bB k (b+J+1) p) p=x J:=by
 have e:bB k (b+J+1) p=bB k (b+J+1) (p-J)++bB k (b+p+1) J:=by
  have:=Dx (t:=k) (l:=p-J) (a:=b+J+1) (m:=J)
  rw[show p-J+J=p by omega,show b+J+1+(p-J)=b+p+1 by omega]at this
  exact this
 have hp:(bB k (b+J+1) p).Perm (pP k (b+p+1) J++bB k (b+J+1) (p-J)):=by
  rw[e]
  exact(List.perm_append_comm).trans ((EP).symm.append_right _)
 rw[qR h hn hp (by rw[jB];omega),R5]
 have hd:(pP k (b+p+1) J).length=J:=by rw[(EP).length_eq,jB]
 rw[hd,Nat.zero_add]
 have:=MY (k:=k) (b:=b) (p:=p) (J:=J) (l:=p-J) (q:=0) (x:=bl k b p 0 x (pP k (b+p+1) J))
 simp only[Nat.add_zero]at this
 rw[show J+(p-J)=p by omega]at this
 rw[this]
 exact Qt h hn hJ (l:=J) (r:=0) (by omega)
theorem diag (i:Nat) (hi:b+p=i) (t:Rat) {x:Nat->Rat}:∀{r:Nat},r<=p->cD (p-r+1) (fun j=>bR k b p (fun _=>t) x r (r+j)*vB k i t (p-r) j)=cD (p+1) fun j=>x j*vB k i t p j
 |0,_=>by simp only[Nat.sub_zero,Nat.zero_add];rfl
 |r+1,hr=>by
  rw[<-diag i hi t (x:=x) (r:=r) (by omega)]
  obtain⟨d,hd⟩:∃d,p-r=d+1:=⟨p-r-1,by omega⟩
  rw[show p-(r+1)=d by omega,hd,ahs]
  refine vE fun j hj=>?_
  rw[bR,fT,if_pos (by omega),show r+1+j-1=r+j by omega,show b+(r+1+j)=i-d+j by omega,hd,show r+(j+1)=r+1+j by omega]
  grind
theorem Uu (i:Nat) (hi:b+p=i) (t:Rat) {x:Nat->Rat}:bR k b p (fun _=>t) x p p=cD (p+1) fun j=>x j*vB k i t p j:=by
 rw[<-diag i hi t (r:=p) (Nat.le_refl _),Nat.sub_self]
 simp only[cD,vB,Nat.add_zero,if_true];grind
end Go.Am.B
namespace Go.Am.B
def lK (g:Nat->Bool):Nat->Nat
 |0=>0
 |m+1=>if g m then m else lK g m
theorem Mv {g:Nat->Bool} {i:Nat} (hi:g i=true):∀{m:Nat},i<m->(∀j,i<j->j<m->g j=false)->lK g m=i
 |0,h,_=>by omega
 |m+1,h,hn=>by
  unfold lK
  by_cases he:i=m
  ·subst he;rw[if_pos hi]
  ·rw[if_neg (by rw[hn m (by omega) (by omega)];decide),Mv hi (m:=m) (by omega) fun j h1 h2=>hn j h1 (by omega)]
def bL (n:Nat) (k:Nat->Rat) (t:Rat):Nat:=lK (fun i=>decide (k i<k (i+1))&&decide (k i<=t)) (n-1)
structure zG (n:Nat) (k:Nat->Rat) (t:Rat) (i:Nat):Prop where
 at_:At n k i
 lo:k i<=t
 hi:t<=k (i+1)
 Di:t<k (i+1)\/k (i+1)=k (n-1)
theorem zP {n:Nat} {k:Nat->Rat} {t:Rat} {i:Nat} (h:zG n k t i):bL n k t=i:=by
 have hw:=h.at_.wide
 have hlo:=h.lo
 refine Mv (by simp[hw,hlo]) (by have:=h.at_.lt;omega) fun j h1 h2=>?_
 rcases h.Di with h3|h3
 ·have:=fF h.at_.sorted (show i+1<=j by omega) (show j<n by omega)
  have:¬k j<=t:=by grind
  simp[this]
 ·have a1:=fF h.at_.sorted (show i+1<=j by omega) (show j<n by omega)
  have a2:=fF h.at_.sorted (show j+1<=n-1 by omega) (show n-1<n by omega)
  have:¬k j<k (j+1):=by grind
  simp[this]
theorem Pm {g:Nat->Bool}:∀{m:Nat},(∃i,i<m/\g i=true)->g (lK g m)=true/\lK g m<m/\∀j,lK g m<j->j<m->g j=false
 |0,⟨i,h,_⟩=>by omega
 |m+1,⟨i,h,hi⟩=>by
  unfold lK
  by_cases hm:g m=true
  ·rw[if_pos hm];exact⟨hm,by omega,fun j h1 h2=>by omega⟩
  ·rw[if_neg hm]
   have hi':i<m:=by
    by_cases he:i=m
    ·subst he;exact absurd hi hm
    ·omega
   obtain⟨a1,a2,a3⟩:=Pm (g:=g) (m:=m) ⟨i,hi',hi⟩
   refine⟨a1,by omega,fun j h1 h2=>?_⟩
   by_cases he:j=m
   ·subst he;simpa using hm
   ·exact a3 j h1 (by omega)
theorem Kn.xd {n p:Nat} {k:Nat->Rat} (h:Kn n p k) {t:Rat} (h0:k 0<=t) (h1:t<=k (n-1)):zG n k t (bL n k t)/\p<=bL n k t/\bL n k t+p+1<n:=by
 have hp:=h.p1
 have hl:=h.len
 have hw:k p<k (p+1):=by
  have:=h.mult 1 (by omega) (by omega)
  rw[h.first 1 (by omega),show 1+p=p+1 by omega]at this
  rw[h.first p (by omega)];exact this
 obtain⟨a1,a2,a3⟩:=Pm (g:=fun i=>decide (k i<k (i+1))&&decide (k i<=t)) (m:=n-1) ⟨p,by omega,by rw[h.first p (by omega)]at*;simp[hw,h0]⟩
 have e:bL n k t=lK (fun i=>decide (k i<k (i+1))&&decide (k i<=t)) (n-1):=rfl
 rw[<-e]at a1 a2 a3
 generalize bL n k t=i at*
 simp only[Bool.and_eq_true,decide_eq_true_eq]at a1
 have hat:At n k i:=⟨by omega,h.sorted,a1.1⟩
 -- from the next knot on
 have key:t<k (i+1)\/k (i+1)=k (n-1):=by
  by_cases ht:t<k (i+1)
  ·exact .inl ht
  ·refine .inr ?_
   have step:∀j,i+1<=j->j<=n-1->k j=k (i+1):=by
    intro j hj1 hj2
    induction j with
    |zero=>omega
    |succ j ih=>
     by_cases hji:j+1=i+1
     ·rw[hji]
     ·have e1:=ih (by omega) (by omega)
      have:=a3 j (by omega) (by omega)
      have hs:=h.sorted j (by omega)
      by_cases hlt:k j<k (j+1)
      ·simp[hlt]at this
       grind
      ·grind
   exact(step (n-1) (by omega) (by omega)).symm
 have hi2:t<=k (i+1):=by rcases key with h2|h2<;>grind
 refine⟨⟨hat,a1.2,hi2,key⟩,?_,?_⟩
 ·by_cases hge:p<=i
  ·exact hge
  ·exfalso
   have:=h.first i (by omega)
   have:=h.first (i+1) (by omega)
   have:=a1.1
   grind
 ·by_cases hge:i+p+1<n
  ·exact hge
  ·exfalso
   have:=h.last i (by omega) (by omega)
   have:=h.last (i+1) (by omega) (by omega)
   have:=a1.1
   grind
structure KG (p j:Nat) (k:Nat->Rat) (t:Rat):Prop where
 p1:1<=p
 first:∀i,i<=p->k i=k 0
 top:k (p+j)=t
 sorted:∀i,i<p+j->k i<=k (i+1)
 mult:∀i,1<=i->i<=j->k i<k (i+p)
 half:∀i,i<=p+j->∃z:Int,k i=(z:Rat)/2/\-4<=z/\z<=2+6*(j:Int)
def jn (k:Nat->Rat) (m:Nat) (t:Rat):Nat->Rat:=fun i=>if i=m then t else k i
theorem mQ {k:Nat->Rat} {m:Nat} {t:Rat}:jn k m t m=t:=if_pos rfl
theorem gY {k:Nat->Rat} {m i:Nat} {t:Rat} (h:i≠m):jn k m t i=k i:=if_neg h
theorem KG.start {p:Nat} (hp:1<=p) {z:Int} (h1:-2<=z) (h2:z<=1):KG p 0 (fun _=>(z:Rat)) (z:Rat) where
 p1:=hp
 first:=fun _ _=>rfl
 top:=rfl
 sorted:=fun _ _=>Rat.le_refl
 mult:=fun i h1 h2=>by omega
 half:=fun i _=>⟨2*z,by
  have:((2*z:Int):Rat)=2*(z:Rat):=by simp
  rw[this];grind,by omega,by omega⟩
theorem KG.le_top {p j:Nat} {k:Nat->Rat} {t:Rat} (h:KG p j k t) {i:Nat} (hi:i<=p+j):k i<=t:=by
 rw[<-h.top]
 exact fF (n:=p+j+1) (fun i hi=>h.sorted i (by omega)) hi (by omega)
theorem KG.next {p j:Nat} {k:Nat->Rat} {t t':Rat} (h:KG p j k t) (hc:(t<t'/\∃z:Int,t'=t+(z:Rat)/2/\z<=6)\/(t'=t/\1<=j/\t≠k (j+1))):KG p (j+1) (jn k (p+1+j) t') t':=by
 have hle:t<=t':=by
  rcases hc with⟨h1,_⟩|⟨h1,_⟩
  ·grind
  ·rw[h1];exact Rat.le_refl
 have hp:=h.p1
 refine⟨hp,fun i hi=>?_,?_,fun i hi=>?_,fun i h1 h2=>?_,fun i hi=>?_⟩
 ·rw[gY (by omega),gY (by omega)];exact h.first i hi
 ·rw[show p+(j+1)=p+1+j by omega,mQ]
 ·by_cases he:i+1=p+1+j
  ·rw[he,mQ,gY (by omega),show i=p+j by omega,h.top];exact hle
  ·rw[gY (by omega),gY he];exact h.sorted i (by omega)
 ·by_cases he:i=j+1
  ·subst he
   rw[show j+1+p=p+1+j by omega,mQ,gY (by omega)]
   have:=h.le_top (i:=j+1) (by omega)
   rcases hc with⟨h3,_⟩|⟨h3,h4,h5⟩
   ·grind
   ·rw[h3];grind
  ·rw[gY (by omega),gY (by omega)];exact h.mult i h1 (by omega)
 ·by_cases he:i=p+1+j
  ·subst he
   rw[mQ]
   obtain⟨z,e1,e2,e3⟩:=h.half (p+j) (by omega)
   rw[h.top]at e1
   rcases hc with⟨h3,y,e4,e5⟩|⟨h3,_⟩
   ·refine⟨z+y,?_,?_,by omega⟩
    ·rw[e4,e1]
     have:((z+y:Int):Rat)=(z:Rat)+(y:Rat):=by simp
     rw[this];grind
    ·have hy:0<y:=by
      rcases Int.lt_or_le 0 y with h6|h6
      ·exact h6
      ·exfalso
       have:((y:Int):Rat)<=0:=Rat.intCast_nonpos.2 h6
       grind
     omega
   ·exact⟨z,by rw[h3,e1],e2,by omega⟩
  ·rw[gY he]
   obtain⟨z,e1,e2,e3⟩:=h.half i (by omega)
   exact⟨z,e1,e2,by omega⟩
def mF (p j:Nat) (k:Nat->Rat) (t:Rat):Nat->Rat:=fun i=>if i<p+1+j then k i else t+1
theorem KG.done {p j:Nat} {k:Nat->Rat} {t:Rat} (h:KG p j k t):Kn (2*p+2+j) p (mF p j k t):=by
 have hp:=h.p1
 have lo:∀{i},i<p+1+j->mF p j k t i=k i:=fun hi=>if_pos hi
 have hi':∀{i},p+1+j<=i->mF p j k t i=t+1:=fun hi=>if_neg (by omega)
 refine⟨hp,by omega,fun i hi=>?_,fun i hi=>?_,fun i h1 h2=>?_,fun i h1 h2=>?_⟩
 ·by_cases h1:i+1<p+1+j
  ·rw[lo h1,lo (by omega)];exact h.sorted i (by omega)
  ·rw[hi' (i:=i+1) (by omega)]
   by_cases h2:i<p+1+j
   ·rw[lo h2]
    have:=h.le_top (i:=i) (by omega)
    grind
   ·rw[hi' (by omega)];exact Rat.le_refl
 ·rw[lo (i:=i) (by omega),lo (i:=0) (by omega)];exact h.first i hi
 ·rw[hi' (i:=i) (by omega),hi' (i:=2*p+2+j-1) (by omega)]
 ·by_cases h3:i+p<p+1+j
  ·rw[lo (by omega),lo h3];exact h.mult i h1 (by omega)
  ·rw[hi' (i:=i+p) (by omega),lo (i:=i) (by omega)]
   have:=h.le_top (i:=i) (by omega)
   grind
theorem KG.JZ {p j:Nat} {k:Nat->Rat} {t:Rat} (h:KG p j k t) (i:Nat):∃z:Int,mF p j k t i=(z:Rat)/2/\-4<=z/\z<=4+6*(j:Int):=by
 unfold mF
 split
 ·rename_i hi
  obtain⟨z,e1,e2,e3⟩:=h.half i (by omega)
  exact⟨z,e1,e2,by omega⟩
 ·obtain⟨z,e1,e2,e3⟩:=h.half (p+j) (by omega)
  rw[h.top]at e1
  refine⟨z+2,?_,by omega,by omega⟩
  have:((z+2:Int):Rat)=(z:Rat)+2:=by simp
  rw[e1,this];grind
open AV
def aZ:AV->Rat
 |.rat q _=>q
 |_=>0
def bV (f:Nat->AV) (n s:Nat):Prop:=∀i,i<n->bD (f i) (.rat (aZ (f i)) s)
abbrev bN (k:Nat->Rat) (n s:Nat):AV:=.aq 3 n (fun i=>.rat (k i) s)
theorem cI {k:Nat->Rat} {n s s':Nat} (h:s<=s'):bV (fun i=>.rat (k i) s) n s':=fun _ _=>fJ h
theorem HL {f:Nat->AV} {n s:Nat} (h:bV f n s):bD (.aq 3 n f) (bN (fun i=>aZ (f i)) n s):=gm h
def ym:AV->Option (Nat×(Nat->AV))
 |.aq 3 n f=>some (n,f)
 |.nil=>some (0,fun _=>.rat 0 1)
 |_=>none
theorem aiH {v:AV} {n s:Nat} {f:Nat->AV} (h:ym v=some (n,f)) (ha:bV f n s):bD v (bN (fun i=>aZ (f i)) n s):=by
 unfold ym at h
 split at h
 ·simp only[au,Prod.mk.injEq]at h
  obtain⟨rfl,rfl⟩:=h
  exact HL ha
 ·simp only[au,Prod.mk.injEq]at h
  obtain⟨rfl,rfl⟩:=h
  exact jI aa
 ·simp at h
open Go Go.Am.N AV
theorem abh:aU P LB H7 (az H7):=aT Proofs.Tryz.func13 ah ah ah
def Om:aV:=[(LB,gT T (sG::(IP,LZ)::oO) [] 60 H7)]
theorem agT:bn P Om:=aI (ig hT (ke (aI ace r5)) hm abh _ _) bE
def kL (s:Nat):Kind (Nat×(Nat->Rat)):=⟨fun v=>match ym v with
 |some (n,f)=>some ((n,fun i=>aZ (f i)),[bV f n s])
 |none=>none,fun a=>bN a.2 a.1 s,fun {v a q} h hq=>by
  split at h
  ·rename_i h1
   simp only[au,Prod.mk.injEq]at h
   obtain⟨rfl,rfl⟩:=h
   exact aiH h1 hq
  ·simp at h⟩
def gz (s:Nat):Kind Rat:=⟨fun v=>match jv v with
 |some (q,n)=>some (q,[n<=s])
 |none=>none,fun a=>.rat a s,fun {v a q} h hq=>by
  split at h
  ·rename_i h1
   simp only[au,Prod.mk.injEq]at h
   obtain⟨rfl,rfl⟩:=h
   exact(jQ h1).trans (fJ hq)
  ·simp at h⟩
structure rQ (α:Type) where
 read:List AV->Option (α×List Prop)
 make:α->List AV
 ok:∀{l:List AV} {a:α} {q:List Prop},read l=some (a,q)->aA q->eL l (make a)
def kN:rQ Unit:=⟨fun l=>match l with
 |[]=>some ((),[])
 |_=>none,fun _=>[],fun {l a q} h _=>by
  split at h
  ·trivial
  ·simp at h⟩
def kC {α β:Type} (k:Kind α) (kl:rQ β):rQ (α×β):=⟨fun l=>match l with
 |v::l=>match k.read v,kl.read l with
  |some (a,p),some (b,q)=>some ((a,b),p++q)
  |_,_=>none
 |[]=>none,fun a=>k.make a.1::kl.make a.2,fun {l a q} h hq=>by
  split at h
  ·split at h
   ·rename_i h1 h2
    simp only[au,Prod.mk.injEq]at h
    obtain⟨rfl,rfl⟩:=h
    obtain⟨q1,q2⟩:=dn.1 hq
    exact⟨k.ok h1 q1,kl.ok h2 q2⟩
   ·simp at h
  ·simp at h⟩
def dj {α:Type} (k:rQ α) (g:α->AV) (need:α->List Prop):Spec:=bM fun l=>match k.read l with
 |some (a,p)=>some (aL (g a) (p++need a))
 |none=>none
theorem cY {α:Type} {f:FuncId} {k:rQ α} {g:α->AV} {need:α->List Prop} (h:∀a K,aA (need a)->aD P f K (k.make a) [] (aL (g a) [])):∀K args pre r,dj k g need K args pre=some r->aD P f K args pre r:=by
 refine ct fun K args r hk hs _=>?_
 split at hs
 ·rename_i h1
  simp only[au]at hs
  subst hs
  intro hn
  obtain⟨n1,hn⟩:=dn.1 hn
  exact gv (h _ K hn) hk (k.ok h1 n1) [] trivial
 ·simp at hs
open Go Go.Am.N AV ag ak IntKind
theorem Tt:aU P x6 Df (az Df):=aT Proofs.Tryz.func188 ah ah ah
def gC:aV:=nG::tw
def uA:aV:=nG::oO
abbrev sK:Nat:=4096
abbrev ls (k:Nat->Rat) (n:Nat):AV:=bN k n sK
abbrev tP (t:Rat) (s:Nat):ax:=⟨false,true,3,1,fun _=>.rat t s⟩
abbrev wz:List Nat:=[0,5,8,9,6,7]
abbrev Ig (n:Nat) (k:Nat->Rat) (l i:Nat):List AV:=[ls k n,.ptr 0 0 3 0 [],.int .i64 l,.int .i64 i,.int .i64 0,.int .i64 0]
abbrev wE:Code:=az Df
theorem aea {n:Nat} {k:Nat->Rat} {p:Int} {t:Rat}:aJ T gC [200013,21,31] 60 wz (before wE [1,1,1,0,1]) ⟨aQ 0 [ls k n,.int .i64 p,.rat t sK],[],0⟩=
  let c11:Prop:=((↑n:Int)==(0:Int))=false;let c10:Prop:=0<1;let c9:AV:=aq 3 n fun i=>rat (k i) 4096;let c8:Nat:=Int.toNat (0:Int);let c7:AV:=ptr 0 0 (bA (rat t sK)).size 0 [];let c6:AV:=int i64 0;let c5:Nat×ax:=(0,ax.mk false true (bA (rat t sK)).size 1 fun x=>rat t 4096);let c4:Int:=(↑n:Int)-(1:Int);let c12:Prop:=(0:Int)<=(0:Int)/\c8<n;let c3:Bool:=bif false then true else decide (ek t (k c8)<(0:Int));let c2:ag (List AV×aE):=leaf ret ([c9,c7,tuple [],tuple [],c6,int i64 7],[c5]);let c1:ag (List AV×aE):=leaf normal ([c9,c7,c6,c6,c6,c6],[c5]);some (fork c3 (aj [c11,c10,c12,c3=true] (fork true c2 c1)) (aj [c11,c10,c12,c3=false,c10,-(2:Int)^63<=c4/\c4<(2:Int)^63,(0:Int)<=c4/\c4.toNat<n] (fork (bif false then true else decide (ek t (k c4.toNat)>(0:Int))) c2 c1))):=ah
theorem afl {n l i:Nat} {k:Nat->Rat} {t:Rat}:aJ T gC [36,49,58] 60 wz [part wE [1,1,1,0,1,0,0]] ⟨aF wz (Ig n k l i),[(0,tP t sK)],1⟩=
  let c7:Int:=(↑i:Int);let c6:List AV:=[int i64 0,int i64 0];let c5:AV:=ptr 0 0 3 0 [];let c4:AV:=aq 3 n fun i=>rat (k i) 4096;let c2:Nat×ax:=((0:Nat),bg fun x=>rat t 4096);let c10:AV:=int i64 c7;let c1:Int:=c7+(1:Int);let c8:Int:=ek (k c7.toNat) (k c1.toNat);let c3:Prop:=-(2:Int)^63<=c1/\c1<(2:Int)^63;let c9:List Prop:=[c3,(0:Int)<=c1/\c1.toNat<n];some (aj [c3] (fork (decide (c1<(↑n:Int))) (aj (((0:Int)<=c7/\c7.toNat<n)::c9) (fork (decide (c8>=(0:Int))) (aj [c3] (leaf normal (c4::c5::int i64 (↑l:Int)::int i64 c1::c6,[c2]))) (aj (((0:Nat)<1)::c9) (fork (decide (ek t (k c1.toNat)<(0:Int))) (leaf (exit 0) (c4::c5::c10::c10::c6,[c2])) (aj [c3] (leaf normal (c4::c5::c10::int i64 c1::c6,[c2]))))))) (leaf (exit 0) (c4::c5::int i64 (↑l:Int)::c10::c6,[c2])))):=ah
theorem S6 {n l i:Nat} {k:Nat->Rat} {t:Rat}:cJ T gC [] 60 Df [part wE [1,1,1,1]] ⟨aF wz (Ig n k l i),[(0,tP t sK)],1⟩=
  some (leaf ret [int i64 (↑l:Int),int i64 0]):=ah
abbrev KX (n:Nat) (k:Nat->Rat) (i:Nat):List AV:=[ls k n,.ptr 0 0 3 0 [],.int .i64 i,.int .i64 0,.int .i64 0]
theorem lI:bn P gC:=dB yY
theorem UR:bn P uA:=dB r5
theorem yW {q:Rat} {n:Nat}:aZ (.rat q n)=q:=rfl
theorem T1:max 1 (bG (Int.natAbs 1))=1:=by decide
theorem DV {a b:Rat}:ek a b>=(0:Int)↔b<=a:=by
 have:=@qc a b
 constructor
 ·intro h
  have:¬a<b:=fun h'=>by have:=qc.2 h';omega
  grind
 ·intro h
  have:¬ek a b<0:=fun h'=>by have:=qc.1 h';grind
  omega
theorem pG {rl:List (Nat×Nat)} {l i s s' s2:Nat} {x y:Nat->Rat} {t:Rat} (hx:∀i,i<l->x i=y i) (ht:t=y l) (h1:s<=s2) (h2:s'<=s2) (hi:i<l+1):gA rl (if i<l then .rat (x i) s else nth [.rat t s'] (.rat 0 1) (i-l+0)) (.rat (y i) s2):=by
 by_cases h:i<l
 ·rw[if_pos h,hx i h];exact .inr ⟨rfl,bQ rfl h1⟩
 ·have:i=l:=aa
  subst this
  rw[if_neg h,Nat.sub_self,ht]
  exact .inr ⟨rfl,bQ rfl h2⟩
def cT (n:Nat) (k:Nat->Rat) (t:Rat):Prop:=t<k 0\/k (n-1)<t
instance {n:Nat} {k:Nat->Rat} {t:Rat}:Decidable (cT n k t):=inferInstanceAs (Decidable (t<k 0\/k (n-1)<t))
def js (n:Nat) (k:Nat->Rat) (t:Rat):Nat:=if cT n k t then 0 else bL n k t
def eH (n:Nat) (k:Nat->Rat) (t:Rat):Int:=if cT n k t then 7 else 0
abbrev xK (n:Nat) (k:Nat->Rat) (t:Rat):AV:=.tuple [.int .i64 (js n k t),.int .i64 (eH n k t)]
theorem Np {n:Nat} {k:Nat->Rat} {t:Rat} (h:cT n k t):er [.int .i64 0,.int .i64 7] (xK n k t):=
 ⟨bJ (by unfold js;rw[if_pos h];rfl),bJ (by unfold eH;rw[if_pos h]),trivial⟩
theorem Wk {n i:Nat} {k:Nat->Rat} {t:Rat} (h:¬cT n k t) (hi:i=bL n k t):er [.int .i64 i,.int .i64 0] (xK n k t):=
 ⟨bJ (by unfold js;rw[if_neg h,hi]),bJ (by unfold eH;rw[if_neg h]),trivial⟩
abbrev tn (k:Nat->Rat) (t:Rat) (i:Nat):Nat:=lK (fun i=>decide (k i<k (i+1))&&decide (k i<=t)) i
theorem QH {g:Nat->Bool} {m:Nat}:lK g (m+1)=if g m then m else lK g m:=rfl
theorem YS {n p0:Nat} {k:Nat->Rat} {p:Int} {t:Rat} (h:Kn n p0 k) (hn:n<2^40) (K:Nat):aD P x6 K [ls k n,.int .i64 p,.rat t sK] [] (aL (xK n k t) []):=by
 have hp:=h.p1
 have hl:=h.len
 refine g8 (r:=aL (xK n k t) []) hT lI hm Tt rfl aW rfl [1,1,1,0,1] (i:=0) (y:=part wE [1,1,1,0,1,0,0]) (z:=part wE [1,1,1,1]) ah ah ah (f1:=[200013,21,31]) (f2:=[36,49,58]) (f3:=[]) 60 wz 1
  (fun a:Nat×Nat=>Ig n k a.2 a.1) (fun _=>[(0,tP t sK)]) (fun a=>a.1+1<=n/\a.2=tn k t a.1/\k a.1<=t/\¬cT n k t) (fun a=>a.2=bL n k t/\¬cT n k t) (fun a=>n-a.1) (fun _=>⟨⟨_,aea,?_⟩,fun⟨i,l⟩ ⟨h1,h2,h3,h4⟩=>⟨_,afl,?_⟩,fun⟨i,l⟩ ⟨h1,h2⟩=>⟨_,S6,Wk h2 h1⟩⟩) K []
 ·simp only[ag.all,aA,bf,bt,qc,sS,cond_false,Int.toNat_zero,beq_eq_false_iff_ne,ne_eq,show((n:Int)-1).toNat=n-1 by omega]
  (repeat' with_reducible first|refine And.intro ?_ ?_|intro _)
  all_goals first|omega|assumption|skip
  ·exact⟨_,ah,Np (.inl ‹_›)⟩
  ·exact absurd ‹true=false› (by decide)
  ·exact⟨_,ah,Np (.inr ‹_›)⟩
  ·rename_i a b
   have hin:¬cT n k t:=fun h=>h.elim (fun h=>a h) fun h=>b h
   exact⟨(0,0),⟨aa,rfl,by show k 0<=t;grind,hin⟩,[(0,0)],rfl,rfl,rfl,aO trivial⟩
 ·have hs:∀i,i+1<n->k i<=k (i+1):=h.sorted
  simp only at h1 h2 h3
  simp only[ag.all,aA,bf,bt,qc,DV,aX,show((i:Int)+1).toNat=i+1 by omega]
  (repeat' with_reducible first|refine And.intro ?_ ?_|intro _)
  all_goals first|omega|assumption|skip
  ·rename_i hi hge
   have:=hs i aa
   have e:tn k t (i+1)=tn k t i:=by
    have:¬k i<k (i+1):=by grind
    rw[tn,QH,if_neg (by simp[this])]
   exact⟨(i+1,l),⟨aa,h2.trans e.symm,by show k (i+1)<=t;grind,h4⟩,by dsimp only;omega,[(0,0)],rfl,rfl,rfl,aO trivial⟩
  ·rename_i hi hlt hb
   have:k i<k (i+1):=by grind
   have hiv:bL n k t=i:=zP ⟨⟨aa,hs,this⟩,h3,by grind,.inl hb⟩
   exact⟨rfl,(i,i),⟨hiv.symm,h4⟩,[(0,0)],rfl,rfl,rfl,aO trivial⟩
  ·rename_i hi hlt hb
   have:k i<k (i+1):=by grind
   have e:tn k t (i+1)=i:=by
    rw[tn,QH,if_pos (by simp[this,h3])]
   exact⟨(i+1,i),⟨aa,e.symm,by show k (i+1)<=t;grind,h4⟩,by dsimp only;omega,[(0,0)],rfl,rfl,rfl,aO trivial⟩
  ·have hin:i=n-1:=aa
   subst hin
   exact⟨rfl,(n-1,l),⟨h2,h4⟩,[(0,0)],rfl,rfl,rfl,aO trivial⟩
abbrev Q6:rQ ((Nat×(Nat->Rat))×Int×Rat×Unit):=kC (kL sK) (kC kI (kC (gz sK) kN))
def IF:Spec:=dj Q6 (fun a=>xK a.1.1 a.1.2 a.2.2.1) fun a=>[Kn a.1.1 a.2.1.toNat a.1.2,0<=a.2.1,a.1.1<2^40]
theorem Lx:∀K args pre r,IF K args pre=some r->aD P x6 K args pre r:=cY fun _ K hn=>YS hn.1 hn.2.2 K
theorem adY:aU P DW BE (az BE):=aT Proofs.Tryz.func278 ah ah ah
theorem LI:aU P DA vr (az vr):=aT Proofs.Tryz.func232 ah ah ah
def Qc:aV:=(uZ,jZ kR kR DH qd)::fK
theorem ahI {a b t:Rat} {n:Nat}:bP T Qc [] 60 BE (az BE) ⟨aQ 0 [.rat a n,.rat b n,.rat t n],[],0⟩=
  let c3:Nat:=n+n+1;let c2:Nat:=2^42;let c1:Prop:=0<1;some (aj [c1,c1,n<c2,n<c2,c1,c1,n<c2,n<c2,c3<c2,c3<c2,c1] (aj [c1,c1] (aj [c1] (leaf ret [rat ((t-a)/(b-a)) (c3+c3)])))):=ah
abbrev sF:Nat:=16386
def IX:Spec:=dj (kC (gz sK) (kC (gz sK) (kC (gz sK) kN))) (fun a=>.rat (fr a.1 a.2.1 a.2.2.1) sF) fun _=>[]
theorem acJ:bn P Qc:=aI (kE fun _ _ K hn=>Cx hn.1 hn.2 K) fZ
theorem Ok:∀K args pre r,IX K args pre=some r->aD P DW K args pre r:=cY fun⟨a,b,t,_⟩ K _=>by
 refine bW (r:=aL (.rat (fr a b t) sF) []) hT acJ hm adY rfl aW rfl 60 ahI (fun _=>?_) K []
 simp only[ag.all,aA]
 have h1:sK=4096:=rfl
 (repeat' with_reducible refine And.intro ?_ ?_)
 all_goals first|omega|exact(bQ rfl (show sK+sK+1+(sK+sK+1)<=sF by decide))
def qn:aV:=nG::(x6,IF)::(DW,IX)::(uk,AL)::fK
def SB (d:Nat):Nat:=65536*4^d
abbrev HB (d:Nat):Nat:=1+(sF+SB d)+1
abbrev mL:List Nat:=[0,1,5,9,11,12,6,7,8]
abbrev uB (n:Nat) (k:Nat->Rat) (p i d:Nat):List AV:=[ls k n,.int .i64 p,.ptr 0 0 3 0 [],.int .i64 i,.own 2 3 0 (d+1),.int .i64 ((d+1:Nat):Int),.int .i64 0,.nil,.int .i64 0]
abbrev kP (m:Nat) (x:Nat->Rat) (s:Nat->Nat):ax:=⟨true,true,3,m,fun i=>.rat (x i) (s i)⟩
abbrev Aa:Code:=az vr
abbrev ta:Code:=part Aa [1,1,1,1,1,0,1,0,0]
abbrev qY:Code:=part ta [1,0,0]
abbrev yq:List Nat:=[0,1,5,9,12,13,54,55,56,6,7,8]
abbrev He (n:Nat) (k:Nat->Rat) (p i d j:Nat):List AV:=[ls k n,.int .i64 p,.ptr 0 0 3 0 [],.int .i64 i,.int .i64 ((d+1:Nat):Int),.own 3 3 0 (d+2),.own 2 3 0 (d+1),.int .i64 ((d+1:Nat):Int),.int .i64 j,.int .i64 0,.nil,.int .i64 0]
theorem agt {n p:Nat} {k:Nat->Rat} {t:Rat}:aJ T qn [26,30,36,43] 60 mL (before Aa [1,1,1,1,1,0,1]) ⟨aQ 0 [ls k n,.int .i64 p,.rat t sK],[],0⟩=
  let c13 : Int := eH n (fun i => aZ (rat (k i) sK)) t; let c12 : AV := int i64 (0 : Int); let c9 : AV := aq 3 n fun i => rat (k i) 4096; let c7 : AV := ptr 0 0 (bA (rat t sK)).size 0 []; let c6 : Int := (2 : Int) ^ 63; let c5 : Nat × ax := ((0 : Nat), ax.mk false true (bA (rat t sK)).size 1 fun x => rat t 4096); let c4 : Int := (↑p : Int); let c3 : Int := (↑(js n (fun i => aZ (rat (k i) sK)) t) : Int); let c15 : Prop := -c6 <= c3 - c4 /\ c3 - c4 < c6; let c14 : Prop := -c6 <= c3 + c4 /\ c3 + c4 < c6; let c11 : Bool := bif false then true else decide (c3 + c4 >= (↑n : Int)); let c10 : Bool := decide (c4 < (0 : Int)); let c8 : Bool := bif false then true else decide (c3 - c4 < (0 : Int)); let c2 : ag (List AV × aE) := leaf ret ([c9, int i64 c4, c7, int i64 c3, tuple [], tuple [], c12, nil, int i64 (7 : Int)], [c5]); let c1 : ag (List AV × aE) := aj [(1 : Nat) * 3 <= 2 ^ 24] (leaf normal ([c9, int i64 c4, c7, int i64 c3, own 131072 3 0 1, int i64 (1 : Int), c12, nil, c12], [((131072 : Nat), ax.mk true true 3 1 fun i => nth [rat (↑(1 : Int) : Rat) (Max.max 1 (bG (Int.natAbs (1 : Int))))] (rat 0 1) i), c5])); some (aj [(0 : Nat) < 1, bV (fun i => rat (k i) sK) n sK, sK <= sK, Kn n c4.toNat fun i => aZ (rat (k i) sK), (0 : Int) <= c4, n < 2 ^ 40] (fork (c13 != (0 : Int)) (leaf ret ([c9, int i64 c4, c7, int i64 c3, tuple [], tuple [], c12, nil, int i64 c13], [c5])) (fork false (fork true (aj [c10 = true, true = true] (fork true c2 c1)) (aj [c10 = true, true = false, c14] (fork c11 c2 c1))) (fork c8 (aj [c10 = false, c15, c8 = true] (fork true c2 c1)) (aj [c10 = false, c15, c8 = false, c14] (fork c11 c2 c1)))))) := ah
theorem SU {n p i d:Nat} {k x:Nat->Rat} {t:Rat}:aJ T qn [48] 60 mL (before ta [1,0]) ⟨aF mL (uB n k p i d),[(2,kP (d+1) x fun _=>SB d),(0,tP t sK)],3⟩=
  let c2:Int:=(↑(d+1):Int);let c1:List AV×aE:=([aq 3 n fun i=>rat (k i) 4096,int i64 (↑p:Int),ptr 0 0 3 0 [],int i64 (↑i:Int),own 2 3 0 (d+1),int i64 c2,int i64 0,nil,int i64 0],[(2,ax.mk true true 3 (d+1) fun i=>rat (x i) (SB d)),((0:Nat),bg fun x=>rat t 4096)]);some (fork (decide (c2<=(↑p:Int))) (leaf normal c1) (leaf (exit 0) c1)):=ah
theorem UF {n p i d:Nat} {k x:Nat->Rat} {t:Rat}:aJ T qn [] 60 yq (before qY [1,0,1]) ⟨aF mL (uB n k p i d),[(2,kP (d+1) x fun _=>SB d),(0,tP t sK)],3⟩=
  let c3:AV:=int i64 0;let c2:Int:=(↑(d+1):Int);let c1:Int:=c2+(1:Int);some (aj [-(2:Int)^63<=c1/\c1<(2:Int)^63,(0:Int)<=c1/\c1<=c1/\c1<=(2:Int)^47/\c1*(↑(56:Nat):Int)<=(2:Int)^47] (leaf normal ([aq 3 n fun i=>rat (k i) 4096,int i64 (↑p:Int),ptr 0 0 3 0 [],int i64 (↑i:Int),int i64 c2,own 8195 3 0 c1.toNat,own 2 3 0 (d+1),int i64 c2,c3,c3,nil,c3],[(2,ax.mk true true 3 (d+1) fun i=>rat (x i) (SB d)),(8195,ax.mk true true 3 c1.toNat fun x=>rat 0 1),((0:Nat),bg fun x=>rat t 4096)]))):=ah
theorem ajf {n p i d j:Nat} {k x y:Nat->Rat} {s:Nat->Nat} {t:Rat}:aJ T qn [57] 60 yq [part qY [1,0,1,0,0]] ⟨aF yq (He n k p i d j),[(3,kP (d+2) y s),(2,kP (d+1) x fun _=>SB d),(0,tP t sK)],4⟩=
  let c20:AV:=int i64 0;let c19:AV:=ptr 0 0 3 0 [];let c18:AV:=aq 3 n fun i=>rat (k i) 4096;let c16:Nat:=d+1;let c13:Nat×ax:=((0:Nat),bg fun x=>rat t 4096);let c11:Int:=(↑j:Int);let c10:Prop:=0<1;let c9:Nat:=d+2;let c8:Nat:=Max.max 1 (bG (Int.natAbs (1:Int)));let c7:Nat:=2^42;let c5:Int:=(2:Int)^63;let c25:Prop:=(0:Int)<=c11/\c11.toNat<c9;let c23:Nat:=c8+sF+1;let c22:AV:=own 3 3 0 c9;let c21:AV:=own 2 3 0 c16;let c12:Nat×ax:=(2,ax.mk true true 3 c16 fun i=>rat (x i) (SB d));let c6:Int:=c11+(1:Int);let c4:Nat:=c11.toNat+0;let c3:Int:=(↑c16:Int);let c29:AV:=int i64 c3;let c27:Prop:=(0:Int)<=c6/\c6.toNat<c9;let c24:Prop:=-c5<=c6/\c6<c5;let c17:Int:=(↑i:Int)-c3;let c2:Nat:=c6.toNat+0;let c28:Int:=c17+(1:Int);let c26:Nat:=s c2+(sF+SB d)+1;let c15:Nat:=bif c4==c2 then c26 else s c4;let c1:Int:=c28+c11;let c14:Rat:=fr (k c1.toNat) (k (c1+c3).toNat) t;some (fork (decide (c11<c3)) (aj [(0:Int)<=c11/\c11.toNat<c16,c4<c16,c10] (aj [-c5<=c17/\c17<c5,-c5<=c28/\c28<c5,-c5<=c1/\c1<c5] (aj [(0:Int)<=c1/\c1.toNat<n,-c5<=c1+c3/\c1+c3<c5,(0:Int)<=c1+c3/\(c1+c3).toNat<n,c10,sK<=sK,sK<=sK,sK<=sK,c10] (aj [c24,c24,c27,c2<c9,c10,c10,sF<c7,SB d<c7,s c2<c7,sF+SB d<c7,c27,c2<c9] (aj [c25,c4<c9,c10,c8<c7,sF<c7,c10,c23<c7,SB d<c7,c15<c7,c23+SB d<c7,c25,c4<c9] (aj [c24] (leaf normal ([c18,int i64 (↑p:Int),c19,int i64 (↑i:Int),c29,c22,c21,c29,int i64 c6,c20,nil,c20],[c12,(3,ax.mk true true 3 c9 fun j=>rat (bif j==c4 then(bif c4==c2 then y c2+c14*x c4 else y c4)+((↑(1:Int):Rat)-c14)*x c4 else bif j==c2 then y c2+c14*x c4 else y j) (bif j==c4 then c15+(c23+SB d)+1 else bif j==c2 then c26 else s j)),c13])))))))) (leaf (exit 2) ([c18,int i64 (↑p:Int),c19,int i64 (↑i:Int),c29,c22,c21,c29,int i64 c11,c20,nil,c20],[c12,(3,ax.mk true true 3 c9 fun i=>rat (y i) (s i)),c13]))):=ah
theorem af3 {n p i d j:Nat} {k x y:Nat->Rat} {s:Nat->Nat} {t:Rat}:aJ T qn [] 60 mL [part qY [1,1],part ta [1,1]] ⟨aF yq (He n k p i d j),[(3,kP (d+2) y s),(2,kP (d+1) x fun _=>SB d),(0,tP t sK)],4⟩=
  let c1:Int:=(↑(d+1):Int)+(1:Int);some (aj [-(2:Int)^63<=c1/\c1<(2:Int)^63] (leaf normal ([aq 3 n fun i=>rat (k i) 4096,int i64 (↑p:Int),ptr 0 0 3 0 [],int i64 (↑i:Int),own 3 3 0 (d+2),int i64 c1,int i64 0,nil,int i64 0],[(3,ax.mk true true 3 (d+2) fun i=>rat (y i) (s i)),((0:Nat),bg fun x=>rat t 4096)]))):=ah
theorem To {n p i d:Nat} {k x:Nat->Rat} {t:Rat}:cJ T qn [] 60 vr [part Aa [1,1,1,1,1,1]] ⟨aF mL (uB n k p i d),[(2,kP (d+1) x fun _=>SB d),(0,tP t sK)],3⟩=
  let c1:Int:=(↑i:Int)-(↑p:Int);some (aj [-(2:Int)^63<=c1/\c1<(2:Int)^63] (leaf ret [int i64 c1,aq 3 (d+1) fun i=>rat (x (i+0)) (SB d),int i64 0])):=ah
theorem Ag {d:Nat}:SB (d+1)=4*SB d:=by unfold SB;rw[Nat.pow_succ];omega
theorem uq:∀{d:Nat},65536<=SB d
 |0=>by unfold SB;omega
 |d+1=>by rw[Ag];have:=uq (d:=d);omega
theorem C5:sF=16386:=rfl
theorem WR {d e:Nat} (h:d<=e):SB d<=SB e:=Nat.mul_le_mul_left _ (Nat.pow_le_pow_right aa h)
abbrev sV:Nat:=268435456
theorem yh {d:Nat} (h:d<=6):SB d<=sV:=Nat.le_trans (WR h) (by decide)
def yI (n:Nat) (k:Nat->Rat) (p:Nat) (t:Rat) (f:Nat->Rat):AV:=.tuple [.int .i64 (if cT n k t then 0 else(bL n k t:Int)-p),.aq 3 (if cT n k t then 0 else p+1) (fun j=>.rat (f j) sV),.int .i64 (eH n k t)]
abbrev zU (n:Nat) (k:Nat->Rat) (p:Nat) (t:Rat):AV:=yI n k p t (vB k (bL n k t) t p)
theorem aic {n p:Nat} {k f:Nat->Rat} {t:Rat} (h:cT n k t):er [.int .i64 0,.nil,.int .i64 7] (yI n k p t f):=by
 unfold yI eH
 rw[if_pos h,if_pos h,if_pos h]
 exact⟨.refl _,jI aa,.refl _,trivial⟩
theorem afu {n p:Nat} {k f:Nat->Rat} {t:Rat} {g:Nat->AV} (h:¬cT n k t) (hg:∀j,j<p+1->bD (g j) (.rat (f j) sV)):er [.int .i64 ((bL n k t:Int)-p),.aq 3 (p+1) g,.int .i64 0] (yI n k p t f):=by
 unfold yI eH
 rw[if_neg h,if_neg h,if_neg h]
 exact⟨.refl _,gm hg,.refl _,trivial⟩
theorem wB:bn P qn:=dB (aI Lx (aI Ok (aI (F2 GL) fZ)))
def vP (k:Nat->Rat) (i:Nat) (t:Rat) (d j:Nat):Rat:=if j=0 then 0 else fr (k (i-d+(j-1))) (k (i-d+(j-1)+(d+1))) t*vB k i t d (j-1)
def mw (k:Nat->Rat) (i:Nat) (t:Rat) (d j x:Nat):Rat:=if x<j then vB k i t (d+1) x else if x=j then vP k i t d j else 0
def jJ (d j x:Nat):Nat:=if x<j then SB (d+1)else if x=j then HB d else 1
theorem adJ {rl:List (Nat×Nat)} {k:Nat->Rat} {i d j x:Nat} {t:Rat} (hj:j<=d):
  gA rl (.rat (bif x==j then(bif j==j+1 then mw k i t d j (j+1)+fr (k (i-d+j)) (k (i-d+j+(d+1))) t*vB k i t d j else mw k i t d j j)+(((1:Int):Rat)-fr (k (i-d+j)) (k (i-d+j+(d+1))) t)*vB k i t d j
   else bif x==j+1 then mw k i t d j (j+1)+fr (k (i-d+j)) (k (i-d+j+(d+1))) t*vB k i t d j else mw k i t d j x)
   (bif x==j then(bif j==j+1 then jJ d j (j+1)+(sF+SB d)+1 else jJ d j j)+(1+sF+1+SB d)+1 else bif x==j+1 then jJ d j (j+1)+(sF+SB d)+1 else jJ d j x))
   (.rat (mw k i t d (j+1) x) (jJ d (j+1) x)):=by
 have h1:=Ag (d:=d)
 have h2:=uq (d:=d)
 have h3:=C5
 have hjj:(j==j+1)=false:=by simp
 rw[hjj]
 refine .inr ⟨rfl,?_⟩
 by_cases hx:x=j
 ·subst hx
  simp only[beq_self_eq_true,cond_true,cond_false]
  refine bQ ?_ ?_
  ·unfold mw
   rw[if_neg aa,if_pos rfl,if_pos aa,vB,if_pos hj]
   have:((1:Int):Rat)=1:=rfl
   rw[this];rfl
  ·unfold jJ HB
   rw[if_neg aa,if_pos rfl,if_pos aa];omega
 ·have hb:(x==j)=false:=by simpa using hx
  rw[hb]
  by_cases hx2:x=j+1
  ·subst hx2
   simp only[beq_self_eq_true,cond_true,cond_false]
   refine bQ ?_ ?_
   ·unfold mw vP
    rw[if_neg aa,if_neg aa,if_neg aa,if_pos rfl,if_neg aa,Nat.add_sub_cancel,Rat.zero_add]
   ·unfold jJ HB
    rw[if_neg aa,if_neg aa,if_neg aa,if_pos rfl];omega
  ·have hb2:(x==j+1)=false:=by simpa using hx2
   rw[hb2]
   simp only[cond_false]
   refine bQ ?_ ?_
   ·unfold mw
    by_cases hlt:x<j
    ·rw[if_pos hlt,if_pos aa]
    ·rw[if_neg hlt,if_neg hx,if_neg aa,if_neg hx2]
   ·unfold jJ
    by_cases hlt:x<j
    ·rw[if_pos hlt,if_pos aa];omega
    ·rw[if_neg hlt,if_neg hx,if_neg aa,if_neg hx2];omega
theorem W9 {n p:Nat} {k:Nat->Rat} {t:Rat} (h:Kn n p k) (hp6:p<=6) (hn:n<2^40) (K:Nat):aD P DA K [ls k n,.int .i64 p,.rat t sK] [] (aL (zU n k p t) []):=by
 refine iy (r:=aL (zU n k p t) []) hT LI rfl aW rfl (fun _ c h0=>?_) K []
 have hk:=sL h0
 have hiv:¬cT n k t->p<=bL n k t/\bL n k t+p+1<n:=fun hin=>by
  have h1:¬t<k 0:=fun h=>hin (.inl h)
  have h2:¬k (n-1)<t:=fun h=>hin (.inr h)
  exact(h.xd (by grind) (by grind)).2
 have hp1:=h.p1
 have hl:=h.len
 refine ay.Dr hT wB hm [1,1,1,1,1,0,1] (i:=0) (y:=ta) (z:=part Aa [1,1,1,1,1,1]) ah ah ah LI.dst hk (f1:=[26,30,36,43]) 60 mL 3 (fun d:Nat=>uB n k p (bL n k t) d) (fun d=>[(2,kP (d+1) (vB k (bL n k t) t d) fun _=>SB d),(0,tP t sK)])
  (fun d=>d<=p/\¬cT n k t) (fun d=>d=p/\¬cT n k t) (fun d=>p-d) (nO vr mL (zU n k p t)) ⟨_,agt,?_⟩ (fun d ⟨hd,hin⟩=>?_) (fun d ⟨hd,hin⟩=>?_) (fun v s' hv hs'=>hv.fin hs')
 ·simp only[ag.all,aA,yW,bne_iff_ne,ne_eq,bne_eq_false_iff_eq,bf,bt,cond_false,aX]
  refine⟨⟨aa,cI bp,bp,h,aa,hn⟩,fun hout=>?_,fun hin=>?_⟩
  ·have hout:cT n k t:=by
    unfold eH at hout
    by_cases ho:cT n k t
    ·exact ho
    ·rw[if_neg ho]at hout;exact absurd rfl hout
   refine⟨[.int .i64 0,.nil,.int .i64 7],?_,aic hout⟩
   unfold eH
   rw[if_pos hout]
   kernel_rfl
  ·have hin:¬cT n k t:=fun ho=>by unfold eH at hin;rw[if_pos ho]at hin;omega
   have hii:js n k t=bL n k t:=by unfold js;rw[if_neg hin]
   have hv:=hiv hin
   simp only[hii,bf,bt]
   (repeat' with_reducible first|refine And.intro ?_ ?_|intro _)
   all_goals first|omega|(exfalso;omega)|exact absurd ‹false=true› (by decide)|exact absurd ‹true=false› (by decide)|skip
   refine⟨0,⟨aa,hin⟩,[(0,0),(2,131072)],rfl,rfl,rfl,bO rfl rfl rfl (fun i hi=>?_) (aO trivial)⟩
   have:i=0:=aa
   subst this
   exact .inr ⟨rfl,bQ rfl (by have:=uq (d:=0);exact Nat.le_trans (by decide) this)⟩
 ·have hv:=hiv hin
  refine ay.tY hT wB hm (y:=ta) (x1:=qY) (zb:=part ta [1,1]) [1,0] (j:=1) ah ah ah ah hk (f1:=[48]) 60 mL 3 (fun _:Unit=>uB n k p (bL n k t) d) (fun _=>[(2,kP (d+1) (vB k (bL n k t) t d) fun _=>SB d),(0,tP t sK)]) (fun _=>d+1<=p) ⟨_,SU,?_⟩ (fun _ hd'=>?_)
  ·simp only[ag.all,aA,bf,bt]
   have re:eu [] ([aq 3 n fun i=>rat (k i) sK,int i64 p,ptr 0 0 3 0 [],int i64 (bL n k t),own 2 3 0 (d+1),int i64 ((d+1:Nat):Int),int i64 0,nil,int i64 0],[(2,ax.mk true true 3 (d+1) fun i=>rat (vB k (bL n k t) t d i) (SB d)),((0:Nat),bg fun x=>rat t sK)]) (uB n k p (bL n k t) d) [(2,kP (d+1) (vB k (bL n k t) t d) fun _=>SB d),(0,tP t sK)] 3:=
    ⟨[(0,0),(2,2)],rfl,rfl,rfl,bO rfl rfl rfl (fun i hi=>cB rfl rfl) (aO trivial)⟩
   exact⟨fun h1=>⟨(),aa,re⟩,fun h1 s' hs'=>⟨rfl,d,⟨aa,hin⟩,re.le hs' hk⟩⟩
  refine ay.jx hT wB hm (x:=qY) (z:=part qY [1,1]) [1,0,1] (i:=2) (y:=part qY [1,0,1,0,0]) ah ah ah ah hk (f1:=[]) (f2:=[57]) 60 yq 4 (fun j:Nat=>He n k p (bL n k t) d j)
   (fun j=>[(3,kP (d+2) (mw k (bL n k t) t d j) (jJ d j)),(2,kP (d+1) (vB k (bL n k t) t d) fun _=>SB d),(0,tP t sK)]) (fun j=>j<=d+1) (fun j=>j=d+1) (fun j=>d+1-j) (fun _=>False) ⟨_,UF,?_⟩ (fun j hj=>⟨_,ajf,?_⟩) (fun j hj=>?_) (fun _ _ h=>h.elim)
  ·simp only[ag.all,aA]
   rw[show(((d+1:Nat):Int)+1).toNat=d+2 by omega]
   refine⟨⟨aa,aa⟩,0,aa,[(0,0),(2,2),(3,8195)],rfl,rfl,rfl,bO rfl rfl rfl (fun i hi=>?_) (bO rfl rfl rfl (fun i hi=>cB rfl rfl) (aO trivial))⟩
   refine .inr ⟨rfl,bQ ?_ ?_⟩
   ·unfold mw vP;rw[if_neg aa];split<;>rfl
   ·unfold jJ HB;rw[if_neg aa];split<;>omega
  ·have hF:=C5
   have h1:=uq (d:=d)
   have h2:=yh (d:=d) aa
   have h3:=yh (d:=d+1) aa
   have h5:sV=268435456:=rfl
   have s0:jJ d j j=HB d:=by unfold jJ;rw[if_neg aa,if_pos rfl]
   have s1:jJ d j (j+1)=1:=by unfold jJ;rw[if_neg aa,if_neg aa]
   have e0:((bL n k t:Int)-((d+1:Nat):Int)+1+(j:Int)).toNat=bL n k t-d+j:=aa
   have e1:((bL n k t:Int)-((d+1:Nat):Int)+1+(j:Int)+((d+1:Nat):Int)).toNat=bL n k t-d+j+(d+1):=aa
   have e2:((j:Int)+1).toNat=j+1:=aa
   simp only[ag.all,aA,bf,bt,aX,Nat.add_zero,e0,e1,e2,T1]
   have hjj:(j==j+1)=false:=by simp
   refine⟨fun h4=>?_,fun h4=>⟨rfl,j,aa,[(0,0),(2,2),(3,3)],rfl,rfl,rfl,bO rfl rfl rfl (fun i hi=>cB rfl rfl) (bO rfl rfl rfl (fun i hi=>cB rfl rfl) (aO trivial))⟩⟩
   (repeat' with_reducible refine And.intro ?_ ?_)
   all_goals first|omega|(rw[s1];omega)|(rw[hjj,cond_false,s0];unfold HB;omega)|skip
   refine⟨j+1,aa,by dsimp only;omega,[(0,0),(2,2),(3,3)],rfl,rfl,rfl,bO rfl rfl rfl (fun x hx=>adJ aa) (bO rfl rfl rfl (fun i hi=>cB rfl rfl) (aO trivial))⟩
  ·subst hj
   refine ay.tail (fun s' hh=>by have:=hh.1;omega) (aG.bz hT wB hm 60 mL af3 ah ?_)
   simp only[ag.all,aA]
   refine⟨aa,fun s' hs'=>⟨d+1,⟨hd',hin⟩,by dsimp only;omega,eu.le ⟨[(0,0),(2,3)],rfl,rfl,rfl,bO rfl rfl rfl (fun x hx=>?_) (aO trivial)⟩ hs' hk⟩⟩
   refine .inr ⟨rfl,bQ ?_ ?_⟩
   ·unfold mw
    by_cases hlt:x<d+1
    ·rw[if_pos hlt]
    ·have:x=d+1:=aa
     subst this
     rw[if_neg aa,if_pos rfl,vB,if_neg (show¬d+1<=d by omega),Rat.add_zero];rfl
   ·have h1:=Ag (d:=d)
    have h2:=uq (d:=d)
    have hF:=C5
    show _<=SB (d+1)
    unfold jJ HB
    split
    ·omega
    ·split<;>omega
 ·subst hd
  refine ay.mC ((aG.fin hT wB hm 60 To ah ?_).mono fun _ _ h=>.inl h)
  simp only[ag.all,aA]
  exact⟨by have:=hiv hin;omega,afu hin fun j _=>fJ (yh hp6)⟩
theorem XO:aU P tF Cc (az Cc):=aT Proofs.Tryz.func93 ah ah ah
def Kx:Spec:=dj Q6 (fun a=>zU a.1.1 a.1.2 a.2.1.toNat a.2.2.1) fun a=>[Kn a.1.1 a.2.1.toNat a.1.2,0<=a.2.1,a.2.1<=6,a.1.1<2^40]
theorem Tq:∀K args pre r,Kx K args pre=some r->aD P DA K args pre r:=cY fun⟨⟨n,k⟩,p,t,_⟩ K hn=>by
 obtain⟨h1,h2,h3,h4⟩:=hn
 have h3:p<=6:=h3
 have:=W9 h1 (by simp only;omega) h4 K (t:=t)
 rw[Int.toNat_of_nonneg h2]at this
 exact this
def v9:Spec:=dj (kC (kL sK) (kC kI kN)) (fun a=>.int .i64 ((a.1.1:Int)-a.2.1-1)) fun a=>[a.1.1<2^40,-2^40<a.2.1,a.2.1<2^40]
theorem aeq {n:Nat} {k:Nat->Rat} {p:Int}:bP T [nG] [] 60 Cc (az Cc) ⟨aQ 0 [ls k n,.int .i64 p],[],0⟩=
  let c3:Int:=(↑n:Int)-p;let c1:Int:=(2:Int)^63;let c2:Int:=c3-(1:Int);some (aj [-c1<=c3/\c3<c1,-c1<=c2/\c2<c1] (leaf ret [int i64 c2])):=ah
theorem zF:∀K args pre r,v9 K args pre=some r->aD P tF K args pre r:=cY fun⟨⟨n,k⟩,p,_⟩ K hn=>by
 obtain⟨h1,h2,h3⟩:=hn
 have h3:p<2^40:=h3
 simp only at h1 h2
 refine bW (r:=aL (.int .i64 ((n:Int)-p-1)) []) hT (dB bE) hm XO rfl aW rfl 60 aeq (fun _=>?_) K []
 simp only[ag.all,aA]
 exact⟨aa,.refl _⟩
abbrev zO:ax:=⟨false,true,3,1,fun _=>.rat 0 1⟩
theorem Ri {n:Nat} {k:Nat->Rat} {t:Rat} (h:eH n k t≠0):cT n k t:=by
 unfold eH at h
 by_cases ho:cT n k t
 ·exact ho
 ·rw[if_neg ho]at h;exact absurd rfl h
theorem Lp {n:Nat} {k:Nat->Rat} {t:Rat} (h:eH n k t=0):¬cT n k t:=fun ho=>by unfold eH at h;rw[if_pos ho]at h;omega
theorem Kn.uo {n p:Nat} {k:Nat->Rat} (h:Kn n p k) {t:Rat} (hin:¬cT n k t):p<=bL n k t/\bL n k t+p+1<n:=by
 have h1:¬t<k 0:=fun h=>hin (.inl h)
 have h2:¬k (n-1)<t:=fun h=>hin (.inr h)
 exact(h.xd (by grind) (by grind)).2
def bF (k:Nat->Rat) (t:Rat):Nat->Nat
 |0=>0
 |i+1=>bF k t i+if k i=t then 1 else 0
def eo (k:Nat->Rat) (i:Nat):Prop:=i=0\/k i≠k (i-1)
instance {k:Nat->Rat} {i:Nat}:Decidable (eo k i):=inferInstanceAs (Decidable (i=0\/k i≠k (i-1)))
def aP (k:Nat->Rat):Nat->Nat
 |0=>0
 |i+1=>aP k i+if eo k i then 1 else 0
def aR (k:Nat->Rat):Nat->Nat->Rat
 |0=>fun _=>0
 |i+1=>if eo k i then jn (aR k i) (aP k i) (k i)else aR k i
theorem Q5 {k:Nat->Rat} {t:Rat}:∀{n:Nat},bF k t n<=n
 |0=>Nat.le_refl _
 |n+1=>by
  have:=Q5 (k:=k) (t:=t) (n:=n)
  unfold bF;split<;>omega
theorem nL {k:Nat->Rat}:∀{n:Nat},aP k n<=n
 |0=>Nat.le_refl _
 |n+1=>by
  have:=nL (k:=k) (n:=n)
  unfold aP;split<;>omega
theorem oC {k:Nat->Rat}:∀{n:Nat},0<aP k (n+1)/\aR k (n+1) 0=k 0/\aR k (n+1) (aP k (n+1)-1)=k n
 |0=>by simp[aP,aR,eo,jn]
 |n+1=>by
  obtain⟨h1,h2,h3⟩:=oC (k:=k) (n:=n)
  rw[aP,aR]
  by_cases h:eo k (n+1)
  ·rw[if_pos h,if_pos h]
   refine⟨by omega,by rw[gY (by omega)];exact h2,?_⟩
   rw[show aP k (n+1)+1-1=aP k (n+1) by omega,mQ]
  ·rw[if_neg h,if_neg h]
   refine⟨by omega,h2,?_⟩
   show aR k (n+1) (aP k (n+1)-1)=_
   rw[h3]
   unfold eo at h
   have:k (n+1)=k (n+1-1):=by
    by_cases e:k (n+1)=k (n+1-1)
    ·exact e
    ·exact absurd (.inr e) h
   rw[this];rfl
theorem HU {k:Nat->Rat}:∀{n j:Nat},j<aP k n->∃i,i<n/\aR k n j=k i
 |0,j,h=>by simp[aP]at h
 |n+1,j,h=>by
  rw[aR]
  rw[aP]at h
  by_cases hn:eo k n
  ·rw[if_pos hn]at h ⊢
   by_cases he:j=aP k n
   ·subst he;exact⟨n,by omega,mQ⟩
   ·obtain⟨i,h1,h2⟩:=HU (k:=k) (n:=n) (j:=j) (by omega)
    exact⟨i,by omega,by rw[gY he];exact h2⟩
  ·rw[if_neg hn]at h ⊢
   obtain⟨i,h1,h2⟩:=HU (k:=k) (n:=n) (j:=j) (by omega)
   exact⟨i,by omega,h2⟩
theorem Qy {k:Nat->Rat}:∀{n:Nat},(∀i,i+1<n->k i<=k (i+1))->∀{j:Nat},j+1<aP k n->aR k n j<aR k n (j+1)
 |0,_,j,h=>by simp[aP]at h
 |n+1,hs,j,h=>by
  have ih:∀{j:Nat},j+1<aP k n->aR k n j<aR k n (j+1):=fun {j} hj=>Qy (k:=k) (n:=n) (fun i hi=>hs i (by omega)) hj
  rw[aR]
  rw[aP]at h
  by_cases hn:eo k n
  ·rw[if_pos hn]at h ⊢
   by_cases he:j+1=aP k n
   ·rw[he,mQ,gY (by omega)]
    cases n with
    |zero=>simp[aP]at he
    |succ m=>
     have:=(oC (k:=k) (n:=m)).2.2
     rw[show j=aP k (m+1)-1 by omega,this]
     have h1:=hs m (by omega)
     unfold eo at hn
     have h2:k (m+1)≠k m:=by rcases hn with hn|hn;omega;exact hn
     grind
   ·rw[gY (by omega),gY (by omega)]
    exact ih (by omega)
  ·rw[if_neg hn]at h ⊢
   exact ih (by omega)
theorem MZ {k:Nat->Rat} {n:Nat} (hs:∀i,i+1<n->k i<=k (i+1)) {i:Nat}:∀{j:Nat},i<j->j<aP k n->aR k n i<aR k n j
 |0,h,_=>by omega
 |j+1,h,hj=>by
  have h1:=Qy hs (j:=j) hj
  by_cases he:i=j
  ·subst he;exact h1
  ·have:=MZ hs (i:=i) (j:=j) (by omega) (by omega)
   grind
def oN (n:Nat) (k:Nat->Rat):Prop:=∀i,i+1<n->k i<=k (i+1)
def kQ (n:Nat) (k:Nat->Rat) (p:Nat) (t:Rat):Prop:=((t=k 0\/t=k (n-1))/\bF k t n≠p+1)\/(¬(t=k 0\/t=k (n-1))/\p<bF k t n)
instance {n:Nat} {k:Nat->Rat} {p:Nat} {t:Rat}:Decidable (kQ n k p t):=inferInstanceAs (Decidable (((t=k 0\/t=k (n-1))/\bF k t n≠p+1)\/(¬(t=k 0\/t=k (n-1))/\p<bF k t n)))
def sw (n:Nat) (k:Nat->Rat) (p:Nat):Prop:=oN n k/\k 0≠k (n-1)/\∀j,j<aP k n->¬kQ n k p (aR k n j)
theorem aiB {n:Nat} {k:Nat->Rat} (hn:0<n) (hs:oN n k):aP k n<2↔k 0=k (n-1):=by
 obtain⟨m,rfl⟩:∃m,n=m+1:=⟨n-1,by omega⟩
 obtain⟨h1,h2,h3⟩:=oC (k:=k) (n:=m)
 simp only[Nat.add_sub_cancel]
 constructor
 ·intro h
  rw[show aP k (m+1)=1 by omega]at h3
  rw[<-h2,<-h3]
 ·intro h
  have key:¬(0<aP k (m+1)-1):=fun hlt=>by
   have:=MZ hs hlt (by omega)
   rw[h2,h3]at this
   grind
  omega
open Classical in
def gF (n:Nat) (k:Nat->Rat) (p:Int):Int:=
 if p<1\/6<p then 1 else if(n:Int)<2*p+2 then 5 else if 40<(n:Int)-p-1 then 2 else if sw n k p.toNat then 0 else 5
theorem NM {k:Nat->Rat} {t:Rat} {a b:Nat} (hab:a<=b):∀{n:Nat},(∀i,i<n->k i=t->a<=i/\i<b)->bF k t n<=min n b-min n a
 |0,_=>by simp[bF]
 |n+1,h=>by
  have ih:=NM (k:=k) (t:=t) hab (n:=n) fun i hi=>h i (by omega)
  rw[bF]
  split
  ·rename_i e
   have:=h n (by omega) e
   omega
  ·omega
theorem Ib {k:Nat->Rat} {t:Rat} {a b:Nat} (hab:a<=b):∀{n:Nat},(∀i,i<n->(k i=t↔a<=i/\i<b))->bF k t n=min n b-min n a
 |0,_=>by simp[bF]
 |n+1,h=>by
  have ih:=Ib (k:=k) (t:=t) hab (n:=n) fun i hi=>h i (by omega)
  rw[bF]
  have:=h n (by omega)
  split
  ·rename_i e
   have:=this.1 e
   omega
  ·rename_i e
   have:¬(a<=n/\n<b):=fun h=>e (this.2 h)
   omega
theorem least {q:Nat->Prop} [DecidablePred q]:∀{n:Nat},q n->∃a,a<=n/\q a/\∀i,i<a->¬q i
 |0,h=>⟨0,Nat.le_refl _,h,fun i hi=>by omega⟩
 |n+1,h=>by
  by_cases h2:∃i,i<n+1/\q i
  ·obtain⟨i,hi,hq⟩:=h2
   obtain⟨a,h3,h4,h5⟩:=least_lt hi hq
   exact⟨a,by omega,h4,h5⟩
  ·exact⟨n+1,Nat.le_refl _,h,fun i hi hq=>h2 ⟨i,hi,hq⟩⟩
where
 least_lt {q:Nat->Prop} [DecidablePred q]:∀{n i:Nat},i<n->q i->∃a,a<n/\q a/\∀i,i<a->¬q i
 |0,i,h,_=>by omega
 |n+1,i,h,hq=>by
  by_cases h2:∃j,j<n/\q j
  ·obtain⟨j,hj,hq⟩:=h2
   obtain⟨a,h3,h4,h5⟩:=least_lt hj hq
   exact⟨a,by omega,h4,h5⟩
  ·have:i=n:=by
    by_cases e:i=n
    ·exact e
    ·exact absurd ⟨i,by omega,hq⟩ h2
   subst this
   exact⟨i,h,hq,fun j hj hq=>h2 ⟨j,hj,hq⟩⟩
theorem Kn.sw {n p:Nat} {k:Nat->Rat} (h:Kn n p k):sw n k p:=by
 have hp:=h.p1
 have hl:=h.len
 have hw:k p<k (p+1):=by
  have:=h.mult 1 (by omega) (by omega)
  rw[h.first 1 (by omega),show 1+p=p+1 by omega]at this
  rw[h.first p (by omega)];exact this
 have hw2:k (n-p-2)<k (n-p-1):=by
  by_cases he:n=2*p+2
  ·have e1:n-p-2=p:=by omega
   have e2:n-p-1=p+1:=by omega
   rw[e1,e2];exact hw
  ·have:=h.mult (n-p-2) (by omega) (by omega)
   rw[h.last (n-p-2+p) (by omega) (by omega),<-h.last (n-p-1) (by omega) (by omega)]at this
   exact this
 have m:∀{i j},i<=j->j<n->k i<=k j:=fun hi hj=>fF h.sorted hi hj
 have h0l:k 0<k (n-1):=by
  have a:=m (i:=p+1) (j:=n-1) (by omega) (by omega)
  have b:=h.first p (Nat.le_refl _)
  grind
 refine⟨h.sorted,by grind,fun j hj=>?_⟩
 obtain⟨i,hi,e⟩:=HU hj
 rw[e]
 unfold kQ
 by_cases h0:k i=k 0
 ·have:bF k (k i) n=p+1:=by
   rw[Ib (a:=0) (b:=p+1) (by omega) (n:=n) fun x hx=>?_]
   ·omega
   ·rw[h0]
    constructor
    ·intro ex
     refine⟨by omega,?_⟩
     by_cases hx2:x<p+1
     ·exact hx2
     ·have:=m (i:=p+1) (j:=x) (by omega) hx
      have b:=h.first p (Nat.le_refl _)
      grind
    ·intro hx2;exact h.first x (by omega)
  rw[this]
  simp[h0]
 ·by_cases h1:k i=k (n-1)
  ·have:bF k (k i) n=p+1:=by
    rw[Ib (a:=n-p-1) (b:=n) (by omega) (n:=n) fun x hx=>?_]
    ·omega
    ·rw[h1]
     constructor
     ·intro ex
      refine⟨?_,hx⟩
      by_cases hx2:n-p-1<=x
      ·exact hx2
      ·have:=m (i:=x) (j:=n-p-2) (by omega) (by omega)
       have b:=h.last (n-p-1) (by omega) (by omega)
       grind
     ·intro hx2;exact h.last x (by omega) hx
   rw[this]
   simp[h1]
  ·obtain⟨a,ha,e,hlt⟩:=least (q:=fun x=>k x=k i) (n:=i) rfl
   have ha0:p<a:=by
    by_cases hx:p<a
    ·exact hx
    ·have:=h.first a (by omega)
     rw[this]at e;exact absurd e.symm h0
   have hal:a+p+1<n:=by
    by_cases hx:a+p+1<n
    ·exact hx
    ·have:=h.last a (by omega) (by omega)
     rw[this]at e;exact absurd e.symm h1
   have hm:=h.mult a (by omega) hal
   have:bF k (k i) n<=min n (a+p)-min n a:=by
    refine NM (by omega) fun x hx ex=>⟨?_,?_⟩
    ·by_cases hx2:a<=x
     ·exact hx2
     ·exact absurd ex (hlt x (by omega))
    ·by_cases hx2:x<a+p
     ·exact hx2
     ·have:=m (i:=a+p) (j:=x) (by omega) hx
      grind
   intro hb
   rcases hb with⟨h2,_⟩|⟨_,h2⟩
   ·exact h2.elim h0 h1
   ·omega
theorem Kn.Rg {n p:Nat} {k:Nat->Rat} (h:Kn n p k) (hp6:p<=6) (hn:n<=p+41):gF n k p=0:=by
 have hp:=h.p1
 have hl:=h.len
 unfold gF
 rw[if_neg (by omega),if_neg (by omega),if_neg (by omega),if_pos (by rw[Int.toNat_natCast];exact h.sw)]
def iT (k:Nat->Rat) (l i:Nat):Rat:=if i<aP k l then aR k l i else k i
theorem IN {k:Nat->Rat}:∀{b:Nat},(∀i,i<b->eo k i)->aP k b=b/\∀i,i<b->aR k b i=k i
 |0,_=>⟨rfl,fun i hi=>by omega⟩
 |b+1,h=>by
  obtain⟨h1,h2⟩:=IN (k:=k) (b:=b) fun i hi=>h i (by omega)
  rw[aP,aR,if_pos (h b (by omega)),if_pos (h b (by omega)),h1]
  refine⟨rfl,fun i hi=>?_⟩
  unfold jn
  split
  ·rename_i e;rw[e]
  ·exact h2 i (by omega)
theorem R4 {k:Nat->Rat} {b:Nat} (h:∀i,i<b->eo k i) (hb:¬eo k b):aP k (b+1)=b/\∀i,iT k (b+1) i=k i:=by
 obtain⟨h1,h2⟩:=IN h
 have e:aP k (b+1)=b:=by rw[aP,if_neg hb,h1];rfl
 refine⟨e,fun i=>?_⟩
 unfold iT
 rw[e,aR,if_neg hb]
 split
 ·exact h2 i ‹_›
 ·rfl
theorem QI {k:Nat->Rat} {n:Nat} (h:∀i,i<n->eo k i):aP k n=n/\∀i,i<n->aR k n i=k i:=IN h
theorem TD {k:Nat->Rat} {l i:Nat} (h:eo k l) (hl:aP k l<=l):iT k (l+1) i=if i=aP k l then k l else iT k l i:=by
 unfold iT
 rw[aP,aR,if_pos h,if_pos h]
 unfold jn
 by_cases h1:i=aP k l
 ·subst h1
  rw[if_pos (by omega),if_pos rfl,if_pos rfl]
 ·rw[if_neg h1]
  by_cases h2:i<aP k l
  ·rw[if_pos (by omega),if_pos h2,if_neg h1]
  ·rw[if_neg (by omega),if_neg h2,if_neg h1]
theorem ade {k:Nat->Rat} {l i:Nat} (h:¬eo k l):aP k (l+1)=aP k l/\iT k (l+1) i=iT k l i:=by
 unfold iT
 rw[aP,aR,if_neg h,if_neg h]
 exact⟨rfl,rfl⟩
theorem KH {k:Nat->Rat} {l:Nat} (h:eo k l):aP k (l+1)=aP k l+1:=by rw[aP,if_pos h]
theorem F7 {k:Nat->Rat} {l:Nat} (h:¬eo k l):aP k (l+1)=aP k l:=by rw[aP,if_neg h];rfl
theorem Lz {k:Nat->Rat} {l i:Nat} (h:aP k l<=i):iT k l i=k i:=by unfold iT;rw[if_neg (by omega)]
theorem OK {k:Nat->Rat} {b:Nat} (hb:¬eo k b):∀{l:Nat},b<l->aP k l<l
 |0,h=>by omega
 |l+1,h=>by
  by_cases he:l=b
  ·subst he;rw[F7 hb];have:=nL (k:=k) (n:=l);omega
  ·have:=OK hb (l:=l) (by omega)
   have h2:=nL (k:=k) (n:=l)
   rw[aP];split<;>omega
theorem Pj {k:Nat->Rat} {i:Nat}:eo k (i+1)↔k (i+1)≠k i:=by
 unfold eo
 simp
open Classical in
theorem Sv {n:Nat} {k:Nat->Rat} {p:Int} (h:p<1\/6<p):gF n k p=1:=if_pos h
theorem ad3 {n:Nat} {k:Nat->Rat} {p:Int} (h:¬(p<1\/6<p)) (h2:(n:Int)<2*p+2):gF n k p=5:=by unfold gF;rw[if_neg h,if_pos h2]
theorem Zz {n:Nat} {k:Nat->Rat} {p:Int} (h:¬(p<1\/6<p)) (h2:¬(n:Int)<2*p+2) (h3:40<(n:Int)-p-1):gF n k p=2:=by unfold gF;rw[if_neg h,if_neg h2,if_pos h3]
theorem X9 {n:Nat} {k:Nat->Rat} {p:Int} (h:¬(p<1\/6<p)) (h2:¬(n:Int)<2*p+2) (h3:¬40<(n:Int)-p-1) (h4:sw n k p.toNat):gF n k p=0:=by unfold gF;rw[if_neg h,if_neg h2,if_neg h3,if_pos h4]
theorem G5 {n:Nat} {k:Nat->Rat} {p:Int} (h:¬(p<1\/6<p)) (h2:¬(n:Int)<2*p+2) (h3:¬40<(n:Int)-p-1) (h4:¬sw n k p.toNat):gF n k p=5:=by unfold gF;rw[if_neg h,if_neg h2,if_neg h3,if_neg h4]
open Go Go.Am.N AV ag ak IntKind
theorem afp:aU P tA AU (az AU):=aT Proofs.Tryz.func81 ah ah ah
theorem Fq:aU P ru BT (az BT):=aT Proofs.Tryz.func186 ah ah ah
abbrev wI:List Nat:=[3,5,8,9,10]
abbrev vM (n:Nat) (k:Nat->Rat) (c i:Nat):List AV:=[.ptr 0 0 3 0 [],.int .i64 c,ls k n,.int .i64 n,.int .i64 i]
abbrev wJ:Code:=az AU
abbrev sJ:Nat:=4000
abbrev fU (m:Nat) (k:Nat->Rat):ax:=⟨true,true,3,m,fun i=>.rat (k i) sK⟩
abbrev vU:List Nat:=[3,9,10,11]
abbrev H6 (n:Nat) (k:Nat->Rat) (i:Nat):List AV:=[.own 0 3 0 i,bN k n sJ,.int .i64 n,.int .i64 i]
abbrev ng:Code:=az BT
theorem aaE {n:Nat} {k:Nat->Rat} {t:Rat}:aJ T gC [] 60 wI (before wJ [1,1,0,1]) ⟨aQ 0 [ls k n,.rat t sK],[],0⟩=
  some (leaf normal ([ptr 0 0 (bA (rat t sK)).size 0 [],int i64 0,aq 3 n fun i=>rat (k i) 4096,int i64 (↑n:Int),int i64 0],[(0,ax.mk false true (bA (rat t sK)).size 1 fun x=>rat t 4096)])):=ah
theorem XQ {n c i:Nat} {k:Nat->Rat} {t:Rat}:aJ T gC [11,16] 60 wI [part wJ [1,1,0,1,0,0]] ⟨aF wI (vM n k c i),[(0,tP t sK)],1⟩=
  let c10:Int:=(↑n:Int);let c9:Prop:=0<1;let c8:Int:=(↑c:Int)+(1:Int);let c7:AV:=aq 3 n fun i=>rat (k i) 4096;let c5:Int:=(↑i:Int);let c4:AV:=ptr 0 0 3 0 [];let c2:Int:=(2:Int)^63;let c1:Nat×ax:=((0:Nat),bg fun x=>rat t 4096);let c6:Int:=c5+(1:Int);let c3:List AV:=[c7,int i64 c10,int i64 c6];some (fork (decide (c5<c10)) (aj [(0:Int)<=c5/\c5.toNat<n,c9] (aj [c9,c9] (fork (decide (k c5.toNat=t)) (aj [-c2<=c8/\c8<c2] (aj [-c2<=c6/\c6<c2] (leaf normal (c4::int i64 c8::c3,[c1])))) (aj [-c2<=c6/\c6<c2] (leaf normal (c4::int i64 (↑c:Int)::c3,[c1])))))) (leaf (exit 0) ([c4,int i64 (↑c:Int),c7,int i64 c10,int i64 c5],[c1]))):=ah
theorem afN {n c i:Nat} {k:Nat->Rat} {t:Rat}:cJ T gC [] 60 AU [part wJ [1,1,1]] ⟨aF wI (vM n k c i),[(0,tP t sK)],1⟩=
  some (leaf ret [int i64 (↑c:Int)]):=ah
theorem ZR {n:Nat} {k:Nat->Rat}:aJ T gC [] 60 vU (before ng [1,1,0,1]) ⟨aQ 0 [bN k n sJ],[],0⟩=
  let c1:Int:=(↑n:Int);some (aj [(0:Int)<=(0:Int)/\(0:Int)<=c1/\c1<=(2:Int)^47/\c1*(↑(56:Nat):Int)<=(2:Int)^47] (leaf normal ([own 12288 3 0 0,aq 3 n fun i=>rat (k i) 4000,int i64 c1,int i64 0],[(12288,ax.mk true true 3 0 fun x=>rat 0 1)]))):=ah
theorem aiy {n i:Nat} {k:Nat->Rat}:aJ T gC [12] 60 vU [part ng [1,1,0,1,0,0]] ⟨aF vU (H6 n k i),[(0,fU i k)],1⟩=
  let c4:Int:=(↑n:Int);let c2:AV:=aq 3 n fun i=>rat (k i) 4000;let c1:Int:=(↑i:Int);let c3:Int:=c1+(1:Int);some (fork (decide (c1<c4)) (aj [(0:Int)<=c1/\c1.toNat<n,(0:Nat)<1] (aj [(0:Nat)<1,(1:Nat)*3<=2^24,(i+1)*((56:Nat)+1)*2<=2^47] (aj [-(2:Int)^63<=c3/\c3<(2:Int)^63] (leaf normal ([own 40961 3 0 (i+1),c2,int i64 c4,int i64 c3],[(40961,ax.mk true true 3 (i+1) fun i_1=>if i_1<i then rat (k i_1) sK else nth [rat (k c1.toNat+0) (sJ+1+1)] (rat 0 1) (i_1-i+0))]))))) (leaf (exit 0) ([own 0 3 0 i,c2,int i64 c4,int i64 c1],[(0,ax.mk true true 3 i fun i=>rat (k i) 4096)]))):=ah
theorem X6 {n i:Nat} {k:Nat->Rat}:aJ T gC [] 60 [2] [part ng [1,1,1]] ⟨aF vU (H6 n k i),[(0,fU i k)],1⟩=
  some (leaf ret ([own 0 3 0 i],[(0,ax.mk true true 3 i fun i=>rat (k i) 4096)])):=ah
theorem agF {k:Nat->Rat} {t:Rat} {i:Nat} (h:k i=t):bF k t (i+1)=bF k t i+1:=by rw[bF,if_pos h]
theorem TH {k:Nat->Rat} {t:Rat} {i:Nat} (h:¬k i=t):bF k t (i+1)=bF k t i:=by rw[bF,if_neg h];rfl
theorem aaj {n:Nat} {k:Nat->Rat} {t:Rat} (hn:n<2^40) (K:Nat):aD P tA K [ls k n,.rat t sK] [] (aL (.int .i64 (bF k t n)) []):=by
 refine g8 (r:=aL (.int .i64 (bF k t n)) []) hT lI hm afp rfl aW rfl [1,1,0,1] (i:=0) (y:=part wJ [1,1,0,1,0,0]) (z:=part wJ [1,1,1]) ah ah ah (f1:=[]) (f2:=[11,16]) (f3:=[]) 60 wI 1
  (fun i:Nat=>vM n k (bF k t i) i) (fun _=>[(0,tP t sK)]) (fun i=>i<=n) (fun i=>i=n) (fun i=>n-i) (fun _=>⟨⟨_,aaE,?_⟩,fun i hi=>⟨_,XQ,?_⟩,fun i hi=>⟨_,afN,?_⟩⟩) K []
 ·simp only[ag.all,aA]
  exact⟨0,Nat.zero_le _,[(0,0)],rfl,rfl,rfl,aO trivial⟩
 ·have h1:=Q5 (k:=k) (t:=t) (n:=i)
  simp only[ag.all,aA,bf,bt,aX,Nat.add_zero]
  refine⟨fun h2=>⟨aa,aa,fun h3=>⟨aa,aa,i+1,aa,by dsimp only;omega,[(0,0)],rfl,?_,rfl,aO trivial⟩,fun h3=>⟨aa,i+1,aa,by dsimp only;omega,[(0,0)],rfl,?_,rfl,aO trivial⟩⟩,fun h2=>⟨rfl,i,aa,[(0,0)],rfl,rfl,rfl,aO trivial⟩⟩
  ·show _=(vM n k (bF k t (i+1)) (i+1)).map _
   rw[agF h3];rfl
  ·show _=(vM n k (bF k t (i+1)) (i+1)).map _
   rw[TH h3];rfl
 ·subst hi
  simp only[ag.all,aA]
  exact .refl _
abbrev Sq:rQ ((Nat×(Nat->Rat))×Rat×Unit):=kC (kL sK) (kC (gz sK) kN)
def A3:Spec:=dj Sq (fun a=>.int .i64 (bF a.1.2 a.2.1 a.1.1)) fun a=>[a.1.1<2^40]
theorem EU:∀K args pre r,A3 K args pre=some r->aD P tA K args pre r:=cY fun⟨⟨n,k⟩,t,_⟩ K hn=>aaj hn K
theorem Zd {args:List AV} {n:Nat} {k:Nat->Rat} {l:List Prop} (ha:aA l->eU (aY []) args [bN k n sJ]) (hn:aA l->n<2^40) (K:Nat):aD P ru K args [] ⟨iw [.own K 3 0 n],[(K,fU n k)],l⟩:=by
 refine Ir hT Fq ha aW fun need c hk=>?_
 have hn:=hn need
 refine ay.jx hT lI hm [1,1,0,1] (i:=0) (y:=part ng [1,1,0,1,0,0]) (z:=part ng [1,1,1]) ah ah ah Fq.dst hk (f1:=[]) (f2:=[12]) 60 vU 1 (fun i:Nat=>H6 n k i) (fun i=>[(0,fU i k)])
  (fun i=>i<=n) (fun i=>i=n) (fun i=>n-i) (fun _=>False) ⟨_,ZR,?_⟩ (fun i hi=>⟨_,aiy,?_⟩) (fun i hi=>?_) (fun _ _ h=>h.elim)
 ·simp only[ag.all,aA]
  exact⟨aa,0,Nat.zero_le _,[(0,12288)],rfl,rfl,rfl,bO rfl rfl rfl (fun i hi=>absurd hi (Nat.not_lt_zero i)) trivial⟩
 ·simp only[ag.all,aA,bf,bt,aX,Nat.add_zero]
  exact⟨fun h2=>⟨aa,aa,aa,i+1,aa,by dsimp only;omega,[(0,40961)],rfl,rfl,rfl,bO rfl rfl rfl (fun j hj=>pG (fun _ _=>rfl) (Rat.add_zero _) bp (by decide) hj) trivial⟩,fun h2=>⟨rfl,i,aa,[(0,0)],rfl,rfl,rfl,bO rfl rfl rfl (fun j hj=>cB rfl rfl) trivial⟩⟩
 ·subst hi
  refine ay.bz hT lI hm 60 [2] X6 ah fun s' hs'=>⟨.inr rfl,[2],_,[.own 0 3 0 i],_,0,_,hs',ah,⟨⟨rfl,cP (by simp[aY,look]) rfl rfl⟩,trivial⟩,rfl,iA rfl fun i hi=>aK rfl⟩
def NU:Spec:=pX fun K l=>match l with
 |[v]=>match(kL sJ).read v with
  |some ((n,k),q)=>some ⟨.own K 3 0 n,[(K,fU n k)],q++[n<2^40]⟩
  |none=>none
 |_=>none
theorem ae3:∀K args pre r,NU K args pre=some r->aD P ru K args pre r:=by
 refine uM fun K args r hk hs=>?_
 split at hs
 ·rename_i v
  split at hs
  ·rename_i n k q hv
   simp only[au]at hs
   subst hs
   exact Zd (fun hn=>xq hk (by cases v<;>first|rfl|simp[kL,ym]at hv) ⟨(kL sJ).ok hv (dn.1 hn).1,trivial⟩) (fun hn=>(dn (a:=q) (b:=[n<2^40]).1 hn).2) K
  ·simp at hs
 ·simp at hs
theorem MK:aU P Fb Hs (az Hs):=aT Proofs.Tryz.func185 ah ah ah
theorem Yr:aU P yF Av (az Av):=aT Proofs.Tryz.func86 ah ah ah
abbrev sO:Func:=Hs
abbrev yw:Code:=az sO
abbrev s7:Code:=part yw [1,1,0,1,0,0]
abbrev uI:Code:=part s7 [1,0,0]
abbrev pQ:Code:=part uI [1,0]
abbrev jX:List Nat:=[4,0,1,5]
abbrev yg (n i:Nat):List AV:=[.nil,.own 0 3 0 n,.func gV [],.int .i64 i]
abbrev Ej:List Nat:=[4,0,1,5,28]
abbrev IZ (n i:Nat) (b:Bool):List AV:=[.nil,.own 0 3 0 n,.func gV [],.int .i64 i,.bool b]
abbrev xR:List Nat:=[4,0,1,5,6,7]
abbrev ur (n m b j:Nat):List AV:=[.nil,.own 0 3 0 n,.func gV [],.int .i64 m,.own 0 3 b (n-b),.int .i64 j]
theorem ahl {n:Nat} {k:Nat->Rat}:aJ T gC [10] 60 jX (before yw [1,1,0,1]) ⟨aQ 0 [.own 0 3 0 n,.func gV []],[(0,fU n k)],1⟩=
  let c2:Nat×ax:=(0,ax.mk true true 3 n fun i=>rat (k i) 4096);let c1:AV:=own 0 3 0 n;some (fork (decide ((↑n:Int)<(2:Int))) (leaf ret ([c1,c1,func gV [],tuple []],[c2])) (leaf normal ([nil,c1,func gV [],int i64 1],[c2]))):=ah
theorem ahf {n i:Nat} {k:Nat->Rat}:aJ T gC [15] 60 jX (before s7 [1,0]) ⟨aF jX (yg n i),[(0,fU n k)],1⟩=
  let c1:List AV×aE:=([nil,own 0 3 0 n,func gV [],int i64 (↑i:Int)],[(0,ax.mk true true 3 n fun i=>rat (k i) 4096)]);some (fork (decide ((↑i:Int)<(↑n:Int))) (leaf normal c1) (leaf (exit 0) c1)):=ah
theorem Ur {n i:Nat} {k:Nat->Rat}:aJ T gC [] 60 Ej (before uI [1]) ⟨aF jX (yg n i),[(0,fU n k)],1⟩=
  let c4:Int:=(↑i:Int);let c2:Nat:=c4.toNat+0;let c1:Int:=c4-(1:Int);let c3:Nat:=c1.toNat+0;some (aj [(0:Int)<=c4/\c4.toNat<n,c2<n,-(2:Int)^63<=c1/\c1<(2:Int)^63,(0:Int)<=c1/\c1.toNat<n,c3<n] (leaf normal ([nil,own 0 3 0 n,func gV [],int i64 c4,AV.bool (decide (k c2=k c3))],[(0,ax.mk true true 3 n fun i=>rat (k i) 4096)]))):=ah
theorem agS {n i:Nat} {b:Bool} {k:Nat->Rat}:aJ T gC [] 60 xR (before pQ [1,0,1]) ⟨aF Ej (IZ n i b),[(0,fU n k)],1⟩=
  let c2:Int:=(↑i:Int);let c1:Int:=(↑n:Int);some (aj [(0:Int)<=c2/\c2<=c1/\c1<=c1/\c1<=c1] (leaf normal ([nil,own 0 3 0 n,func gV [],int i64 c2,own 0 3 ((0:Nat)+c2.toNat) (c1.toNat-c2.toNat),int i64 1],[(0,ax.mk true true 3 n fun i=>rat (k i) 4096)]))):=ah
theorem af4 {n m b j:Nat} {k:Nat->Rat}:aJ T gC [35,49] 60 xR [part pQ [1,0,1,0,0]] ⟨aF xR (ur n m b j),[(0,fU n k)],1⟩=
  let c11:AV:=func gV [];let c7:AV:=own 0 3 b (n-b);let c6:Nat×ax:=(0,ax.mk true true 3 n fun i=>rat (k i) 4096);let c5:Int:=(↑m:Int);let c4:AV:=own 0 3 0 n;let c2:Int:=(2:Int)^63;let c1:Int:=(↑j:Int);let c13:Int:=c5+(1:Int);let c12:Prop:=(0:Int)<=c1/\c1.toNat<n-b;let c10:Nat:=c5.toNat+0;let c9:Nat:=c1.toNat+b;let c8:Int:=c1+(1:Int);let c3:Int:=c1-(1:Int);some (fork (decide (c1<(↑(n-b):Int))) (aj [c12,c9<n,-c2<=c3/\c3<c2,(0:Int)<=c3/\c3.toNat<n-b,c3.toNat+b<n] (fork (!decide (k c9=k (c3.toNat+b))) (aj [c12,c9<n,(0:Int)<=c5/\c5.toNat<n,c10<n] (aj [-c2<=c13/\c13<c2] (aj [-c2<=c8/\c8<c2] (leaf normal ([nil,c4,c11,int i64 c13,c7,int i64 c8],[(0,ax.mk true true 3 n fun j=>rat (bif j==c10 then k c9 else k j) (bif j==c10 then sK else sK))]))))) (aj [-c2<=c8/\c8<c2] (leaf normal ([nil,c4,c11,int i64 c5,c7,int i64 c8],[c6]))))) (leaf (exit 2) ([nil,c4,c11,int i64 c5,c7,int i64 c1],[c6]))):=ah
theorem ad8 {n m b j:Nat} {k:Nat->Rat}:aJ T gC [] 60 jX [part pQ [1,1]] ⟨aF xR (ur n m b j),[(0,fU n k)],1⟩=
  let c4:Int:=(↑n:Int);let c2:Int:=(↑m:Int);let c3:Nat:=0+c2.toNat;let c1:Nat:=c3+(c4.toNat-c2.toNat);some (aj [(0:Int)<=c2/\c2<=c4/\c4<=c4/\c4<=c4] (aj [(0:Int)<=(0:Int)/\(0:Int)<=c2/\c2<=c2/\c2<=c4] (leaf ret ([own 0 3 0 (c2.toNat-Int.toNat (0:Int)),own 0 3 0 n,func gV [],int i64 c2],[(0,ax.mk true true 3 n fun i=>if c3<=i/\i<c1 then rat 0 1 else rat (k i) sK)])))):=ah
theorem ahA {n i:Nat} {b:Bool} {k:Nat->Rat}:aJ T gC [] 60 jX [part uI [1,1],part s7 [1,1]] ⟨aF Ej (IZ n i b),[(0,fU n k)],1⟩=
  let c1:Int:=(↑i:Int)+(1:Int);some (aj [-(2:Int)^63<=c1/\c1<(2:Int)^63] (leaf normal ([nil,own 0 3 0 n,func gV [],int i64 c1],[(0,ax.mk true true 3 n fun i=>rat (k i) 4096)]))):=ah
theorem Zh {n i:Nat} {k:Nat->Rat}:aJ T gC [] 60 jX [part yw [1,1,1]] ⟨aF jX (yg n i),[(0,fU n k)],1⟩=
  let c1:AV:=own 0 3 0 n;some (leaf ret ([c1,c1,func gV [],int i64 (↑i:Int)],[(0,ax.mk true true 3 n fun i=>rat (k i) 4096)])):=ah
def lf (k:Nat->Rat) (n i:Nat):Rat:=if i<aP k n then aR k n i else 0
theorem ahn {k:Nat->Rat} {n:Nat} (h:∀j,j<n->eo k j) {i:Nat} (hi:i<n):aP k n=n/\lf k n i=k i:=by
 obtain⟨h1,h2⟩:=QI h
 unfold lf
 rw[h1,if_pos hi]
 exact⟨rfl,h2 i hi⟩
theorem Ss {kk n:Nat} {k:Nat->Rat} (hn:n<2^40) (c:Ctx) (hk:Kept [0] c):ay P c sO.ntmps yw ⟨aQ 0 [.own 0 3 0 n,.func gV []],[(0,fU n k)],1⟩ (Fe sO kk [.own kk 3 0 (aP k n)] (fU n (lf k n))):=by
 have hall:∀{L:List Nat} {us:List AV},(∀j,j<n->eo k j)->lS (aF L us) sO.results.toList=some [.own 0 3 0 n]->BK sO kk [.own kk 3 0 (aP k n)] (fU n (lf k n)) L (us,[(0,fU n k)]):=fun h1 h2=>
  ⟨_,_,h2,⟨⟨rfl,cP (by simp[aY,look]) rfl (QI h1).1.symm⟩,trivial⟩,Bf,rfl,rfl,rfl,rfl,fun i hi=>by
   show gD _ (.rat (k i) sK) (.rat (lf k n i) sK)
   rw[(ahn h1 hi).2];exact aK rfl⟩
 refine ay.Dr hT lI hm [1,1,0,1] (i:=0) (y:=s7) (z:=part yw [1,1,1]) ah ah ah MK.dst hk (f1:=[10]) 60 jX 1 (fun i:Nat=>yg n i) (fun _=>[(0,fU n k)]) (fun i=>1<=i/\i<=n/\∀j,j<i->eo k j) (fun i=>i=n/\∀j,j<n->eo k j) (fun i=>n-i)
  (BK sO kk [.own kk 3 0 (aP k n)] (fU n (lf k n)) jX) ⟨_,ahl,?_⟩ (fun i ⟨h1,h2,h3⟩=>?_) (fun i ⟨h1,h2⟩=>?_) (fun v s' hv hs'=>hv.fin hs')
 ·simp only[ag.all,aA,bf,bt]
  exact⟨fun h=>hall (fun j hj=>.inl aa) ah,fun h=>⟨1,⟨aa,aa,fun j hj=>.inl aa⟩,[(0,0)],rfl,rfl,rfl,bO rfl rfl rfl (fun x hx=>cB rfl rfl) trivial⟩⟩
 ·refine ay.tY hT lI hm (y:=s7) (x1:=uI) (zb:=part s7 [1,1]) [1,0] (j:=1) ah ah ah ah hk (f1:=[15]) 60 jX 1 (fun _:Unit=>yg n i) (fun _=>[(0,fU n k)]) (fun _=>i<n) ⟨_,ahf,?_⟩ (fun _ hlt=>?_)
  ·simp only[ag.all,aA,bf,bt]
   exact⟨fun h=>⟨(),aa,[(0,0)],rfl,rfl,rfl,bO rfl rfl rfl (fun x hx=>cB rfl rfl) trivial⟩,fun h s' hs'=>⟨rfl,i,⟨aa,fun j hj=>h3 j aa⟩,eu.le ⟨[(0,0)],rfl,rfl,rfl,bO rfl rfl rfl (fun x hx=>cB rfl rfl) trivial⟩ hs' hk⟩⟩
  refine ay.branch hT lI hm (x:=uI) (u:=pQ) (v:=part uI [1,1]) (b:=.tmp 28) [1] ah ah ah ah hk (f1:=[]) 60 Ej 1 (fun _:Unit=>IZ n i (decide (k i=k (i-1)))) (fun _=>[(0,fU n k)]) (fun _=>True) ⟨_,Ur,?_⟩ (fun _ _=>⟨decide (k i=k (i-1)),rfl,fun hb=>?_,fun hb=>?_⟩)
  ·simp only[ag.all,aA]
   simp only[aX,Nat.add_zero,show((i:Int)-1).toNat=i-1 by omega]
   exact⟨⟨⟨aa,aa⟩,aa,aa,⟨aa,aa⟩,aa⟩,(),trivial,[(0,0)],rfl,rfl,rfl,bO rfl rfl rfl (fun x hx=>cB rfl rfl) trivial⟩
  ·have hold:¬eo k i:=fun h=>by
    rcases h with h|h
    ·omega
    ·exact h (of_decide_eq_true hb)
   obtain⟨s1,s2⟩:=R4 h3 hold
   refine ay.vH hT lI hm (x:=pQ) [1,0,1] (i:=2) (y:=part pQ [1,0,1,0,0]) ah ah ah hk (f1:=[]) (f2:=[35,49]) 60 xR 1 (fun j:Nat=>ur n (aP k (i+j)) i j) (fun j=>[(0,fU n (iT k (i+j)))]) (fun j=>1<=j/\i+j<=n) (fun j=>i+j=n) (fun j=>n-j) (fun _=>False) ⟨_,agS,?_⟩ (fun j ⟨j1,j2⟩=>⟨_,af4,?_⟩) (fun j s' hj hle=>?_) (fun _ _ h=>h.elim)
   ·simp only[ag.all,aA]
    simp only[aX,Nat.zero_add]
    refine⟨aa,1,⟨aa,aa⟩,[(0,0)],rfl,?_,rfl,bO rfl rfl rfl (fun x hx=>cB rfl ?_) trivial⟩
    ·show _=(ur n (aP k (i+1)) i 1).map _
     rw[s1];rfl
    ·rw[s2]
   ·simp only[ag.all,aA,bf,bt]
    have hd:=OK hold (l:=i+j) aa
    have e1:iT k (i+j) (j+i)=k (i+j):=by rw[Nat.add_comm j i];exact Lz aa
    have e2:iT k (i+j) (((j:Int)-1).toNat+i)=k (i+j-1):=by rw[show((j:Int)-1).toNat+i=i+j-1 by omega];exact Lz aa
    simp only[aX,Nat.add_zero,e1,e2,Bool.not_eq_true',Bool.not_eq_false',bf,bt]
    refine⟨fun h=>⟨aa,fun hne=>⟨aa,aa,aa,j+1,aa,by dsimp only;omega,[(0,0)],rfl,?_,rfl,bO rfl rfl rfl (fun x hx=>?_) trivial⟩,fun heq=>⟨aa,j+1,aa,by dsimp only;omega,[(0,0)],rfl,?_,rfl,bO rfl rfl rfl (fun x hx=>?_) trivial⟩⟩,fun h=>⟨rfl,j,aa,[(0,0)],rfl,rfl,rfl,bO rfl rfl rfl (fun x hx=>cB rfl rfl) trivial⟩⟩
    ·show _=(ur n (aP k (i+j+1)) i (j+1)).map _
     rw[KH (l:=i+j) (.inr hne)];rfl
    ·refine .inr ⟨rfl,bQ ?_ (by cases (x==aP k (i+j))<;>exact Nat.le_refl _)⟩
     show _=iT k (i+j+1) x
     rw[TD (.inr hne) aa]
     by_cases hx2:x=aP k (i+j)
     ·subst hx2;simp
     ·have:(x==aP k (i+j))=false:=by simpa using hx2
      rw[this,if_neg hx2];rfl
    ·have hold2:¬eo k (i+j):=fun h=>by
      rcases h with h|h
      ·omega
      ·exact h heq
     show _=(ur n (aP k (i+j+1)) i (j+1)).map _
     rw[F7 hold2];rfl
    ·have hold2:¬eo k (i+j):=fun h=>by
      rcases h with h|h
      ·omega
      ·exact h heq
     exact cB rfl (by show _=AV.rat (iT k (i+j+1) x) sK;rw[(ade hold2).2])
   ·rw[show behind pQ [1,0,1]=[part pQ [1,1]]from by kernel_rfl]
    refine aG.weak rfl hle (aG.bz hT lI hm 60 jX ad8 ah ?_)
    simp only[ag.all,aA]
    rw[hj]
    have hd:=nL (k:=k) (n:=n)
    simp only[aX,Nat.zero_add]
    refine⟨aa,aa,fun s' hs'=>⟨_,⟨[.own 0 3 0 (aP k n)],⟨true,true,3,n,fun i=>if aP k n<=i/\i<aP k n+(n-aP k n)then .rat 0 1 else .rat (iT k n i) sK⟩,ah,⟨⟨rfl,cP (by simp[aY,look]) rfl rfl⟩,trivial⟩,rfl,⟨rfl,rfl,rfl,rfl,fun x hx=>?_⟩⟩,hs'⟩⟩
    have hx:x<n:=hx
    refine nB (xy rfl rfl) ?_
    show bD (if _ then _ else _) (.rat (lf k n x) sK)
    unfold lf
    by_cases h:x<aP k n
    ·rw[if_neg aa,if_pos h]
     exact dD (by unfold iT;rw[if_pos h])
    ·rw[if_pos aa,if_neg h]
     exact fJ (by decide)
  ·have hnew:eo k i:=.inr (of_decide_eq_false hb)
   refine ay.tail (fun s' hh=>by have:=hh.1;omega) (aG.bz hT lI hm 60 jX ahA ah ?_)
   simp only[ag.all,aA]
   refine⟨aa,fun s' hs'=>⟨i+1,⟨aa,aa,fun j hj=>?_⟩,by dsimp only;omega,eu.le ⟨[(0,0)],rfl,rfl,rfl,bO rfl rfl rfl (fun x hx=>cB rfl rfl) trivial⟩ hs' hk⟩⟩
   by_cases he:j=i
   ·subst he;exact hnew
   ·exact h3 j aa
 ·subst h1
  refine ay.bz hT lI hm 60 jX Zh ah ?_
  simp only[ag.all,aA]
  exact fun s' hs'=>(hall h2 ah).fin hs'
def IU (f:Nat->AV) (n s:Nat):Prop:=∀i,i<n->keys (f i)=[]/\bD (f i) (.rat (aZ (f i)) s)
theorem ag8 {k:Nat->Rat} {n s s':Nat} (h:s<=s'):IU (fun i=>.rat (k i) s) n s':=fun _ _=>⟨rfl,fJ h⟩
def Ij:Spec:=fun _ args pre=>match args,pre with
 |[.own k 3 0 n,.func g []],[(k',⟨true,true,3,m,f⟩)]=>match Nat.beq g gV&&k'==k with
  |true=>some ⟨iw [.own k 3 0 (aP (fun i=>aZ (f i)) n)],[(k,fU n (lf (fun i=>aZ (f i)) n))],[m=n,IU f n sK,n<2^40]⟩
  |false=>none
 |_,_=>none
theorem agU:∀K args pre r,Ij K args pre=some r->aD P Fb K args pre r:=by
 intro K args pre r h
 unfold Ij at h
 split at h
 ·rename_i k n g k' m f
  split at h
  ·rename_i hc
   simp only[Bool.and_eq_true,beq_iff_eq]at hc
   obtain⟨h1,h2⟩:=hc
   have h1:=Nat.eq_of_beq_eq_true h1
   subst h1 h2
   simp only[au]at h
   subst h
   intro need
   have h0:=need
   obtain⟨rfl,n1,n2⟩:=need
   exact WD hT MK (rest:=[.func gV []]) (o2:=⟨true,true,3,m,f⟩) (o:=fU m fun i=>aZ (f i)) rfl rfl aW (fun ρ=>⟨rfl,rfl,rfl,rfl,fun i hi=>nB (n1 i hi).1 (n1 i hi).2⟩) (fun _ c hk=>Ss n2 c hk) K h0
  ·simp at h
 ·simp at h
end Go.Am.B
