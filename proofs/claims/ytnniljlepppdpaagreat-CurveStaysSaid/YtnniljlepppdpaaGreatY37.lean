/- brepkernelmade: Part. -/
import Derived.Test.YtnniljlepppdpaaGreatB33
import Derived.Test.YtnniljlepppdpaaGreatZ2
import Init
set_option linter.unusedVariables false
noncomputable section
namespace Go.Am.B
open Go Go.Am.N AV
theorem ag3:aR P IS Dl (az Dl):=aS Proofs.Tryz.func79 ag ag ag
def abk:aX:=[(xO,FZ),(sN,yN)]
theorem agD {d:Int}:bS T abk [] 60 Dl (az Dl) ⟨aP 0 [.int .i64 d],[],0⟩=
  some (ah.aj [(17:Int)≠(0:Int),(0:Int)<(12:Int),(12:Int)<(2:Int)^62] (ah.aj [(0:Int)<IntKind.i64.wrap (IntKind.i64.wrap ((1:Int)+IntKind.i64.wrap (d.tdiv (17:Int))%(12:Int))+(1:Int)),IntKind.i64.wrap (IntKind.i64.wrap ((1:Int)+IntKind.i64.wrap (d.tdiv (17:Int))%(12:Int))+(1:Int))<(2:Int)^62,-(2:Int)^63<=d%IntKind.i64.wrap (IntKind.i64.wrap ((1:Int)+IntKind.i64.wrap (d.tdiv (17:Int))%(12:Int))+(1:Int)),d%IntKind.i64.wrap (IntKind.i64.wrap ((1:Int)+IntKind.i64.wrap (d.tdiv (17:Int))%(12:Int))+(1:Int))<(2:Int)^63,-(2:Int)^63<=IntKind.i64.wrap ((1:Int)+IntKind.i64.wrap (d.tdiv (17:Int))%(12:Int)),IntKind.i64.wrap ((1:Int)+IntKind.i64.wrap (d.tdiv (17:Int))%(12:Int))<(2:Int)^63,(0:Nat)<1] (ah.aj [(0:Nat)<1] (ah.leaf aq.ret [rat ((↑(d%IntKind.i64.wrap (IntKind.i64.wrap ((1:Int)+IntKind.i64.wrap (d.tdiv (17:Int))%(12:Int))+(1:Int))):Rat)/(↑(IntKind.i64.wrap ((1:Int)+IntKind.i64.wrap (d.tdiv (17:Int))%(12:Int))):Rat)) 64])))):=ag
def qJ (d:Int):Int:=1+IntKind.i64.wrap (d.tdiv 17)%12
def iX (d:Int):Rat:=((d%(qJ d+1):Int):Rat)/((qJ d:Int):Rat)
def P8:Spec:=bU fun l=>match l with
 |[.int .i64 d]=>some (aK (.rat (iX d) 64) [])
 |_=>none
theorem am6:∀K args pre r,P8 K args pre=some r->aD P IS K args pre r:=by
 refine cB fun K args r hk hs _=>?_
 split at hs
 ·rename_i d
  simp only[ax]at hs
  subst hs
  refine bY hT (aH Ou (aH Fu bC)) hm ag3 rfl aW rfl 60 agD (fun _=>?_) K []
  unfold iX qJ
  generalize IntKind.i64.wrap (d.tdiv 17)=w at*
  have w1:=Int.emod_nonneg w (show(12:Int)≠0 by omega)
  have w2:=Int.emod_lt_of_pos w (show(0:Int)<12 by omega)
  generalize w%12=x at*
  have e1:IntKind.i64.wrap (1+x)=1+x:=wrap_i64 aa aa
  have e2:IntKind.i64.wrap (1+x+1)=1+x+1:=wrap_i64 aa aa
  rw[e1,e2]
  have v1:=Int.emod_nonneg d (show 1+x+1≠0 by omega)
  have v2:=Int.emod_lt_of_pos d (show 0<1+x+1 by omega)
  generalize d%(1+x+1)=y at*
  simp only[ah.all,aA]
  exact⟨⟨aa,aa,aa⟩,⟨aa,aa,aa,aa,aa,aa,aa⟩,aa,.refl _⟩
 ·simp at hs
@[ext] structure V3 where
 x:Rat
 y:Rat
 z:Rat
structure Pl where
 n:V3
 d:Rat
structure M3 where
 a:V3
 b:V3
 c:V3
structure Mp where
 m:M3
 t:V3
abbrev rA (q:Rat) (n:Nat):AV:=.rat q n
abbrev vA (v:V3) (n:Nat):AV:=.agg [.rat v.x n,.rat v.y n,.rat v.z n]
abbrev bH (p:Pl) (n:Nat):AV:=.agg [vA p.n n,.rat p.d n]
abbrev EP (m:M3) (n:Nat):AV:=.agg [vA m.a n,vA m.b n,vA m.c n]
abbrev nU (m:Mp) (n:Nat):AV:=.agg [EP m.m n,vA m.t n]
theorem bX {q r:Rat} {n k:Nat} (h:q=r) (hk:n<=k):bF (.rat q n) (.rat r k):=h▸gj hk
theorem mY {u v:V3} {n k:Nat} (h:u=v) (hk:n<=k):bF (vA u n) (vA v k):=
 h▸ct ⟨bX rfl hk,bX rfl hk,bX rfl hk,trivial⟩
structure Kind (α:Type) where
 read:AV->Option (α×List Prop)
 make:α->AV
 ok:∀{v:AV} {a:α} {q:List Prop},read v=some (a,q)->aA q->bF v (make a)
def jH:AV->Option (Rat×Nat)
 |.rat q n=>some (q,n)
 |.agg [.bool false,.mag 0,.mag 0]=>some (0,1)
 |_=>none
theorem kV {v:AV} {a:Rat×Nat} (h:jH v=some a):bF v (rA a.1 a.2):=by
 unfold jH at h
 split at h
 ·simp only[ax]at h;subst h;exact .refl _
 ·simp only[ax]at h;subst h;exact mc
 ·simp at h
def s8:AV->Option ((V3×Nat)×List Prop)
 |.agg [x,y,z]=>match jH x,jH y,jH z with
  |some (x,a),some (y,b),some (z,c)=>some ((⟨x,y,z⟩,a),[b<=a,c<=a])
  |_,_,_=>none
 |_=>none
theorem x7 {v:AV} {a:V3×Nat} {q:List Prop} (h:s8 v=some (a,q)) (hq:aA q):bF v (vA a.1 a.2):=by
 unfold s8 at h
 split at h
 ·split at h
  ·rename_i h1 h2 h3
   simp only[ax,Prod.mk.injEq]at h
   obtain⟨rfl,rfl⟩:=h
   exact ct ⟨kV h1,(kV h2).trans (bX rfl hq.1),(kV h3).trans (bX rfl hq.2),trivial⟩
  ·simp at h
 ·simp at h
def DP:AV->Option ((Pl×Nat)×List Prop)
 |.agg [v,d]=>match s8 v,jH d with
  |some ((v,a),q),some (d,b)=>some ((⟨v,d⟩,max a b),q)
  |_,_=>none
 |_=>none
theorem adh {v:AV} {a:Pl×Nat} {q:List Prop} (h:DP v=some (a,q)) (hq:aA q):bF v (bH a.1 a.2):=by
 unfold DP at h
 split at h
 ·split at h
  ·rename_i h1 h2
   simp only[ax,Prod.mk.injEq]at h
   obtain⟨rfl,rfl⟩:=h
   exact ct ⟨(x7 h1 hq).trans (mY rfl (by simp only;omega)),(kV h2).trans (bX rfl (by simp only;omega)),trivial⟩
  ·simp at h
 ·simp at h
def GH:AV->Option ((M3×Nat)×List Prop)
 |.agg [x,y,z]=>match s8 x,s8 y,s8 z with
  |some ((x,a),p),some ((y,b),q),some ((z,c),r)=>some ((⟨x,y,z⟩,a),[b<=a,c<=a]++(p++(q++r)))
  |_,_,_=>none
 |_=>none
theorem alQ {v:AV} {a:M3×Nat} {q:List Prop} (h:GH v=some (a,q)) (hq:aA q):bF v (EP a.1 a.2):=by
 unfold GH at h
 split at h
 ·split at h
  ·rename_i h1 h2 h3
   simp only[ax,Prod.mk.injEq]at h
   obtain⟨rfl,rfl⟩:=h
   obtain⟨q1,q2⟩:=eu.1 hq
   obtain⟨q2,q3⟩:=eu.1 q2
   obtain⟨q3,q4⟩:=eu.1 q3
   exact ct ⟨x7 h1 q2,(x7 h2 q3).trans (mY rfl q1.1),(x7 h3 q4).trans (mY rfl q1.2),trivial⟩
  ·simp at h
 ·simp at h
theorem QO {u v:M3} {n k:Nat} (h:u=v) (hk:n<=k):bF (EP u n) (EP v k):=
 h▸ct ⟨mY rfl hk,mY rfl hk,mY rfl hk,trivial⟩
def HY:AV->Option ((Mp×Nat)×List Prop)
 |.agg [v,d]=>match GH v,s8 d with
  |some ((v,a),p),some ((d,b),q)=>some ((⟨v,d⟩,max a b),p++q)
  |_,_=>none
 |_=>none
theorem abL {v:AV} {a:Mp×Nat} {q:List Prop} (h:HY v=some (a,q)) (hq:aA q):bF v (nU a.1 a.2):=by
 unfold HY at h
 split at h
 ·split at h
  ·rename_i h1 h2
   simp only[ax,Prod.mk.injEq]at h
   obtain⟨rfl,rfl⟩:=h
   obtain⟨q1,q2⟩:=eu.1 hq
   exact ct ⟨(alQ h1 q1).trans (QO rfl (by simp only;omega)),(x7 h2 q2).trans (mY rfl (by simp only;omega)),trivial⟩
  ·simp at h
 ·simp at h
theorem ajU {u v:Mp} {n k:Nat} (h:u=v) (hk:n<=k):bF (nU u n) (nU v k):=
 h▸ct ⟨QO rfl hk,mY rfl hk,trivial⟩
def FU (v:AV):Option ((Rat×Nat)×List Prop):=match jH v with
 |some a=>some (a,[])
 |none=>none
theorem agN {v:AV} {a:Rat×Nat} {q:List Prop} (h:FU v=some (a,q)) (_:aA q):bF v (rA a.1 a.2):=by
 unfold FU at h
 split at h
 ·rename_i h1
  simp only[ax,Prod.mk.injEq]at h
  obtain⟨rfl,rfl⟩:=h
  exact kV h1
 ·simp at h
def Hp:AV->Option (Int×List Prop)
 |.int .i64 n=>some (n,[])
 |_=>none
theorem acS {v:AV} {a:Int} {q:List Prop} (h:Hp v=some (a,q)) (_:aA q):bF v (.int .i64 a):=by
 unfold Hp at h
 split at h
 ·simp only[ax,Prod.mk.injEq]at h
  obtain⟨rfl,rfl⟩:=h
  exact .refl _
 ·simp at h
def kR:Kind (Rat×Nat):=⟨FU,fun a=>rA a.1 a.2,agN⟩
def kPl:Kind (Pl×Nat):=⟨DP,fun a=>bH a.1 a.2,adh⟩
def kI:Kind Int:=⟨Hp,fun a=>.int .i64 a,acS⟩
section specs
variable {α β γ δ:Type} {f:FuncId}
def He (k:Kind α) (g:α->AV) (need:α->List Prop):Spec:=bU fun l=>match l with
 |[x]=>match k.read x with
  |some (a,p)=>some (aK (g a) (p++need a))
  |none=>none
 |_=>none
theorem Nc {k:Kind α} {g:α->AV} {need:α->List Prop} (h:∀a K,aA (need a)->aD P f K [k.make a] [] (aK (g a) [])):∀K args pre r,He k g need K args pre=some r->aD P f K args pre r:=by
 refine cB fun K args r hk hs _=>?_
 split at hs
 ·split at hs
  ·rename_i h1
   simp only[ax]at hs
   subst hs
   intro hn
   obtain⟨n1,hn⟩:=eu.1 hn
   exact gR (h _ K hn) hk ⟨k.ok h1 n1,trivial⟩ [] trivial
  ·simp at hs
 ·simp at hs
def kH (k:Kind α) (k2:Kind β) (g:α->β->AV) (need:α->β->List Prop):Spec:=bU fun l=>match l with
 |[x,y]=>match k.read x,k2.read y with
  |some (a,p),some (b,q)=>some (aK (g a b) (p++(q++need a b)))
  |_,_=>none
 |_=>none
theorem kT {k:Kind α} {k2:Kind β} {g:α->β->AV} {need:α->β->List Prop} (h:∀a b K,aA (need a b)->aD P f K [k.make a,k2.make b] [] (aK (g a b) [])):∀K args pre r,kH k k2 g need K args pre=some r->aD P f K args pre r:=by
 refine cB fun K args r hk hs _=>?_
 split at hs
 ·split at hs
  ·rename_i h1 h2
   simp only[ax]at hs
   subst hs
   intro hn
   obtain⟨n1,hn⟩:=eu.1 hn
   obtain⟨n2,hn⟩:=eu.1 hn
   exact gR (h _ _ K hn) hk ⟨k.ok h1 n1,k2.ok h2 n2,trivial⟩ [] trivial
  ·simp at hs
 ·simp at hs
end specs
def p8 (a b:Rat×Nat):List Prop:=[a.2<2^42,b.2<2^42]
def wE (a b:Rat×Nat):List Prop:=[a.2<2^41,b.2<2^41]
def j9 (a b:Rat×Nat):AV:=rA (a.1+b.1) (a.2+b.2+1)
def EI (a b:Rat×Nat):AV:=rA (a.1-b.1) (a.2+b.2+1)
def Dg (a b:Rat×Nat):AV:=rA (a.1*b.1) (a.2+b.2)
def uM (a b:Rat×Nat):AV:=.tuple [rA (a.1/b.1) (a.2+b.2),.int .i64 (if b.1=0 then 3 else 0)]
def Vq (a b:Rat×Nat):AV:=rA (tc a.1 b.1) (max a.2 b.2)
def akt (a b:Rat×Nat):AV:=rA (o7 a.1 b.1) (max a.2 b.2)
def Be (a b:Rat×Nat):AV:=.int .i64 (e9 a.1 b.1)
def Et (a b:Rat×Nat):AV:=.bool (decide (a.1=b.1))
def AI (a:Rat×Nat):AV:=.int .i64 (fy a.1)
abbrev Jr:FuncId×Spec:=(uT,ME)
def fQ:aX:=[(Ce,kH kR kR j9 p8),(B5,kH kR kR EI p8),(CA,kH kR kR Dg p8),(gp,kH kR kR Et p8),(lT,kH kR kR Be p8),(vk,He kR AI fun a=>[a.2<2^42]),Jr]
def OE:aX:=[(vO,kH kR kR j9 wE),(DR,kH kR kR EI wE),(BS,kH kR kR Dg wE),(B6,kH kR kR Et wE),(A8,kH kR kR Be wE),(vI,He kR AI fun a=>[a.2<2^41]),(rC,zZ)]
theorem Ye:∀K args pre r,Jr.2 K args pre=some r->aD P Jr.1 K args pre r:=aiv
theorem gm:bq P fQ:=aH (kT fun _ _ K hn=>OG hn.1 hn.2 K) (aH (kT fun _ _ K hn=>M6 hn.1 hn.2 K) (aH (kT fun _ _ K hn=>OO hn.1 hn.2 K)
 (aH (kT fun _ _ K hn=>NX (Nat.lt_trans hn.1 aa) (Nat.lt_trans hn.2 aa) K []) (aH (kT fun _ _ K hn=>I8 hn.1 hn.2 K []) (aH (Nc fun _ K hn=>Gs (Nat.lt_trans hn aa) K []) (aH Ye bC))))))
theorem akk:bq P OE:=aH (kT fun _ _ K hn=>G7 hn.1 hn.2 K) (aH (kT fun _ _ K hn=>Nl hn.1 hn.2 K) (aH (kT fun _ _ K hn=>TS hn.1 hn.2 K)
 (aH (kT fun _ _ K hn=>Mc (Nat.lt_trans hn.1 aa) (Nat.lt_trans hn.2 aa) K []) (aH (kT fun _ _ K hn=>P9 hn.1 hn.2 K) (aH (Nc fun _ K _=>Je K []) (aH D9 bC))))))
end Go.Am.B
namespace Go.Am.B
open Go Go.Am.N AV
structure Kd (α:Type) where
 read:AV->Option α
 make:α->AV
 ok:∀{v:AV} {a:α},read v=some a->bF v (make a)
def Jl:AV->Option (V3×Nat)
 |.agg [x,y,z]=>match jH x,jH y,jH z with
  |some (x,a),some (y,b),some (z,c)=>some (⟨x,y,z⟩,max a (max b c))
  |_,_,_=>none
 |_=>none
theorem agM {v:AV} {a:V3×Nat} (h:Jl v=some a):bF v (vA a.1 a.2):=by
 unfold Jl at h
 split at h
 ·split at h
  ·rename_i h1 h2 h3
   simp only[ax]at h
   subst h
   exact ct ⟨(kV h1).trans (bX rfl (by simp only;omega)),(kV h2).trans (bX rfl (by simp only;omega)),(kV h3).trans (bX rfl (by simp only;omega)),trivial⟩
  ·simp at h
 ·simp at h
def dR:Kd (Rat×Nat):=⟨jH,fun a=>rA a.1 a.2,kV⟩
def dV:Kd (V3×Nat):=⟨Jl,fun a=>vA a.1 a.2,agM⟩
section specs
variable {α β γ δ:Type} {f:FuncId}
def Km (k:Kd α) (g:α->AV) (B:α->Bool):Spec:=bU fun l=>match l with
 |[x]=>match k.read x with
  |some a=>match B a with
   |true=>some (aK (g a) [])
   |false=>none
  |_=>none
 |_=>none
theorem Rl {k:Kd α} {g:α->AV} {B:α->Bool} (h:∀a K,B a=true->aD P f K [k.make a] [] (aK (g a) [])):∀K args pre r,Km k g B K args pre=some r->aD P f K args pre r:=by
 refine cB fun K args r hk hs _=>?_
 split at hs
 ·split at hs
  ·rename_i h1
   split at hs
   ·rename_i hB
    simp only[ax]at hs
    subst hs
    exact gR (h _ K hB) hk ⟨k.ok h1,trivial⟩ []
   ·simp at hs
  ·simp at hs
 ·simp at hs
def jw (k:Kd α) (k2:Kd β) (g:α->β->AV) (B:α->β->Bool):Spec:=bU fun l=>match l with
 |[x,y]=>match k.read x,k2.read y with
  |some a,some b=>match B a b with
   |true=>some (aK (g a b) [])
   |false=>none
  |_,_=>none
 |_=>none
theorem ko {k:Kd α} {k2:Kd β} {g:α->β->AV} {B:α->β->Bool} (h:∀a b K,B a b=true->aD P f K [k.make a,k2.make b] [] (aK (g a b) [])):∀K args pre r,jw k k2 g B K args pre=some r->aD P f K args pre r:=by
 refine cB fun K args r hk hs _=>?_
 split at hs
 ·split at hs
  ·rename_i h1 h2
   split at hs
   ·rename_i hB
    simp only[ax]at hs
    subst hs
    exact gR (h _ _ K hB) hk ⟨k.ok h1,k2.ok h2,trivial⟩ []
   ·simp at hs
  ·simp at hs
 ·simp at hs
end specs
def b1 {α:Type} (e:Nat) (a:α×Nat):Bool:=Nat.blt a.2 (2^e)
def b2 {α β:Type} (e:Nat) (a:α×Nat) (b:β×Nat):Bool:=Nat.blt a.2 (2^e)&&Nat.blt b.2 (2^e)
def b3 {α β γ:Type} (e:Nat) (a:α×Nat) (b:β×Nat) (c:γ×Nat):Bool:=Nat.blt a.2 (2^e)&&(Nat.blt b.2 (2^e)&&Nat.blt c.2 (2^e))
theorem Mr {a b:Nat}:Nat.blt a b=true↔a<b:=by rw[Nat.blt_eq]
theorem abh {α:Type} {e:Nat} {a:α×Nat} (h:b1 e a=true):a.2<2^e:=Mr.1 h
theorem fP {α β:Type} {e:Nat} {a:α×Nat} {b:β×Nat} (h:b2 e a b=true):a.2<2^e/\b.2<2^e:=by
 simp only[b2,Bool.and_eq_true,Mr]at h;exact h
def Cy:Spec:=bU fun l=>match l with
 |[.int .i64 n]=>match decide (-2^63<=n/\n<2^63)with
  |true=>some (aK (.rat (n:Rat) (max 1 (bM n.natAbs))) [])
  |false=>none
 |_=>none
abbrev GU:FuncId×Spec:=(uT,Cy)
abbrev Hr:FuncId×Spec:=(Iu,jw dR dR Vq (b2 42))
abbrev Ic:FuncId×Spec:=(KC,jw dR dR akt (b2 42))
def tD:aX:=[(Ce,jw dR dR j9 (b2 42)),(B5,jw dR dR EI (b2 42)),(CA,jw dR dR Dg (b2 42)),(gp,jw dR dR Et (b2 42)),(lT,jw dR dR Be (b2 42)),(vk,Km dR AI (b1 42)),GU,(vC,jw dR dR uM (b2 42)),Hr,Ic]
def vr:aX:=[(vO,jw dR dR j9 (b2 41)),(DR,jw dR dR EI (b2 41)),(BS,jw dR dR Dg (b2 41)),(B6,jw dR dR Et (b2 41)),(A8,jw dR dR Be (b2 41)),(vI,Km dR AI (b1 41)),(rC,Cy)]
theorem IN {n:Nat} (h:n<2^42):n<2^44:=Nat.lt_trans h aa
theorem Sd {n:Nat} (h:n<2^41):n<2^44:=Nat.lt_trans h aa
theorem FW {f:FuncId} (h:∀{n:Int},-2^63<=n->n<2^63->∀K,aD P f K [.int .i64 n] [] (aK (.rat (n:Rat) (max 1 (bM n.natAbs))) [])):∀K args pre r,Cy K args pre=some r->aD P f K args pre r:=by
 refine cB fun K args r hk hs _=>?_
 split at hs
 ·split at hs
  ·rename_i hc
   simp only[ax]at hs
   subst hs
   have:=of_decide_eq_true hc
   exact h this.1 this.2 K
  ·simp at hs
 ·simp at hs
theorem akv:∀K args pre r,GU.2 K args pre=some r->aD P GU.1 K args pre r:=FW Hs
theorem ZJ:∀K args pre r,Hr.2 K args pre=some r->aD P Hr.1 K args pre r:=ko fun _ _ K hn=>aaM (fP hn).1 (fP hn).2 K
theorem agA:∀K args pre r,Ic.2 K args pre=some r->aD P Ic.1 K args pre r:=ko fun _ _ K hn=>ZE (fP hn).1 (fP hn).2 K
theorem v9:bq P tD:=aH (ko fun _ _ K hn=>OG (fP hn).1 (fP hn).2 K) (aH (ko fun _ _ K hn=>M6 (fP hn).1 (fP hn).2 K) (aH (ko fun _ _ K hn=>OO (fP hn).1 (fP hn).2 K)
 (aH (ko fun _ _ K hn=>NX (IN (fP hn).1) (IN (fP hn).2) K []) (aH (ko fun _ _ K hn=>I8 (fP hn).1 (fP hn).2 K []) (aH (Rl fun _ K hn=>Gs (IN (abh hn)) K []) (aH akv
 (aH (ko fun _ _ K hn=>Ci (fP hn).1 (fP hn).2 K) (aH ZJ (aH agA bC)))))))))
theorem xI:bq P vr:=aH (ko fun _ _ K hn=>G7 (fP hn).1 (fP hn).2 K) (aH (ko fun _ _ K hn=>Nl (fP hn).1 (fP hn).2 K) (aH (ko fun _ _ K hn=>TS (fP hn).1 (fP hn).2 K)
 (aH (ko fun _ _ K hn=>Mc (Sd (fP hn).1) (Sd (fP hn).2) K []) (aH (ko fun _ _ K hn=>P9 (fP hn).1 (fP hn).2 K) (aH (Rl fun _ K _=>Je K []) (aH (FW OC) bC))))))
end Go.Am.B
namespace Go.Am.B
open Go Go.Am.N AV
theorem Z1:aR P D4 Ea (az Ea):=aS Proofs.Tryz.func108 ag ag ag
theorem aaq:aR P Jd Dr (az Dr):=aS Proofs.Tryz.func22 ag ag ag
theorem ale {q r:Rat} {n m:Nat}:bS T tQ [9] 60 Ea (az Ea) ⟨aP 0 [.rat q n,.rat r m],[],0⟩=
  some (ah.aj [(0:Nat)<1] (ah.fork ((↑(nl r.num.natAbs):Int)==(0:Int)) (ah.aj [(0:Nat)<1] (ah.aj [(0:Nat)<1] (ah.leaf aq.ret [agg [AV.bool false,mag 0,mag 0],int IntKind.i64 (3:Int)]))) (ah.aj [(0:Nat)<1,(0:Nat)<1,(0:Nat)<1,(0:Nat)<1,nl q.num.natAbs<2^39,nl r.den<2^39,(0:Nat)<1,(0:Nat)<1,nl q.den<2^39,nl r.num.natAbs<2^39,nl (q.num.natAbs*r.den)<2^38,nl (q.den*r.num.natAbs)<2^38,q.den*r.num.natAbs≠0,(0:Nat)<1] (ah.aj [(0:Nat)<1] (ah.leaf aq.ret [rat (sQ (decide (q<0)!=decide (r<0)) (q.num.natAbs*r.den) (q.den*r.num.natAbs)) (cR (sQ (decide (q<0)!=decide (r<0)) (q.num.natAbs*r.den) (q.den*r.num.natAbs))),int IntKind.i64 (0:Int)]))))):=ag
theorem Lz {q r:Rat} {n m:Nat} (hn:n<2^41) (hm':m<2^41) (K:Nat):aD P D4 K [.rat q n,.rat r m] [] (aK (.tuple [.rat (q/r) (n+m),.int .i64 (if r=0 then 3 else 0)]) []):=by
 refine jL fun⟨hq,hr,_⟩=>?_
 have hq:Sz q n:=hq
 have hr:Sz r m:=hr
 have d1:=q.den_nz
 have d2:=r.den_nz
 have a1:nl q.num.natAbs<2^38:=gb hq.1 aa
 have a2:nl q.den<2^38:=gb hq.2 aa
 have b1:nl r.num.natAbs<2^38:=gb hr.1 aa
 have b2:nl r.den<2^38:=gb hr.2 aa
 have m1:nl (q.num.natAbs*r.den)<2^38:=gb (oM hq.1 hr.2) aa
 have m3:nl (q.den*r.num.natAbs)<2^38:=gb (oM hq.2 hr.1) aa
 refine bY hT wg hm Z1 rfl aW rfl 60 ale (fun _=>?_) K []
 have key:((nl r.num.natAbs:Int)==(0:Int))=decide (r=0):=by
  by_cases h:r=0
  ·subst h;rfl
  ·have h1:r.num.natAbs≠0:=fun e=>h (oz.1 e)
   have:=gG.2 h1
   simp only[h,decide_false,beq_eq_false_iff_ne];omega
 rw[key]
 simp only[ah.all,aA,bh,bz]
 refine⟨aa,fun h0=>?_,fun h0=>?_⟩
 ·refine⟨aa,aa,?_,bN (by rw[if_pos h0]),trivial⟩
  have e:q/r=0:=by rw[h0,Rat.div_def,Rat.inv_zero,Rat.mul_zero]
  obtain⟨k,hk⟩:∃k,n+m=k+1:=⟨n+m-1,by have:=hq.pos;omega⟩
  rw[e,hk]
  first|exact mc|exact gj aa
 ·have hr0:r.num.natAbs≠0:=fun h=>h0 (oz.1 h)
  have hv:=Ga q r h0
  (repeat' with_reducible refine And.intro ?_ ?_)
  all_goals first|omega|exact m1|exact m3|exact Nat.mul_ne_zero d1 hr0|skip
  exact⟨dc hv (hq.div hr),bN (by rw[if_neg h0]),trivial⟩
def PB:aX:=[(D4,kH kR kR uM wE)]
theorem VT:bq P PB:=aH (kT fun _ _ K hn=>Lz hn.1 hn.2 K) bC
theorem al8 {q r:Rat} {n m:Nat}:bS T PB [] 60 Dr (az Dr) ⟨aP 0 [.rat q n,.rat r m],[],0⟩=
  some (ah.aj [(0:Nat)<1,(0:Nat)<1,n<2^41,m<2^41,(0:Nat)<1] (ah.aj [(0:Nat)<1,(0:Nat)<1] (ah.aj [(0:Nat)<1] (ah.leaf aq.ret [rat (q/r) (n+m)])))):=ag
theorem Ue {q r:Rat} {n m:Nat} (hn:n<2^41) (hm':m<2^41) (K:Nat):aD P Jd K [.rat q n,.rat r m] [] (aK (.rat (q/r) (n+m)) []):=by
 refine bY hT VT hm aaq rfl aW rfl 60 al8 (fun _=>?_) K []
 simp only[ah.all,aA]
 (repeat' with_reducible refine And.intro ?_ ?_)
 all_goals first|omega|exact bF.refl _
def agz (a b:Rat×Nat):AV:=rA (a.1/b.1) (a.2+b.2)
def Oz:aX:=[(Jd,jw dR dR agz (b2 41)),(D4,jw dR dR uM (b2 41))]
theorem aif:bq P Oz:=aH (ko fun _ _ K hn=>Ue (fP hn).1 (fP hn).2 K) (aH (ko fun _ _ K hn=>Lz (fP hn).1 (fP hn).2 K) bC)
def cO (n:Nat) (f:Nat->Rat):Rat:=match n with
 |0=>0
 |n+1=>cO n f+f n
theorem AB {f g:Nat->Rat}:∀{n:Nat},(∀i,i<n->f i=g i)->cO n f=cO n g
 |0,_=>rfl
 |n+1,h=>by rw[cO,cO,AB fun i hi=>h i (by omega),h n (by omega)]
theorem HJ {f g:Nat->Rat}:∀{n:Nat},cO n (fun i=>f i+g i)=cO n f+cO n g
 |0=>by simp only[cO];grind
 |n+1=>by rw[cO,cO,cO,HJ];grind
theorem Gl {f:Nat->Rat}:∀{n:Nat},cO (n+1) f=f 0+cO n fun i=>f (i+1)
 |0=>by simp only[cO];grind
 |n+1=>by rw[cO,Gl,cO];grind
theorem Hq {f:Nat->Rat}:∀{n:Nat},(∀i,i<n->f i=0)->cO n f=0
 |0,_=>rfl
 |n+1,h=>by rw[cO,Hq fun i hi=>h i (by omega),h n (by omega)];grind
structure Kn (n p:Nat) (k:Nat->Rat):Prop where
 p1:1<=p
 len:2*p+2<=n
 sorted:∀i,i+1<n->k i<=k (i+1)
 first:∀i,i<=p->k i=k 0
 last:∀i,n<=i+p+1->i<n->k i=k (n-1)
 mult:∀i,1<=i->i+p+1<n->k i<k (i+p)
theorem fK {n:Nat} {k:Nat->Rat} (h:∀i,i+1<n->k i<=k (i+1)) {i:Nat}:∀{j:Nat},i<=j->j<n->k i<=k j
 |0,hij,_=>by
    have:i=0:=by omega
    subst this;exact Rat.le_refl
 |j+1,hij,hj=>by
  by_cases he:i=j+1
  ·subst he;exact Rat.le_refl
  ·exact Rat.le_trans (fK h (j:=j) (by omega) (by omega)) (h j hj)
theorem Kn.mono {n p:Nat} {k:Nat->Rat} (h:Kn n p k) {i j:Nat} (hij:i<=j) (hj:j<n):k i<=k j:=fK h.sorted hij hj
def fr (a b t:Rat):Rat:=(t-a)/(b-a)
theorem nK {a b t:Rat} (h:a<b):fr a b t*(b-a)=t-a:=by
 unfold fr;rw[Rat.div_mul_cancel];intro e;grind
theorem G4 {a b:Rat}:fr a b a=0:=by
 unfold fr;rw[Rat.sub_self,Rat.div_def,Rat.zero_mul]
theorem LM {a b:Rat} (h:a<b):fr a b b=1:=by
 unfold fr;rw[Rat.div_def,Rat.mul_inv_cancel];intro e;grind
theorem Nq {a b t:Rat} (h:a<b) (h0:a<=t):0<=fr a b t:=by
 have e:=nK (t:=t) h
 rcases Rat.le_total (a:=0) (b:=fr a b t)with h1|h1
 ·exact h1
 ·by_cases h2:fr a b t=0
  ·rw[h2];exact Rat.le_refl
  ·have:=Rat.mul_pos (a:=-fr a b t) (b:=b-a) (by grind) (by grind)
   grind
theorem MP {a b t:Rat} (h:a<b) (h0:t<=b):fr a b t<=1:=by
 have e:=nK (t:=t) h
 rcases Rat.le_total (a:=fr a b t) (b:=1)with h1|h1
 ·exact h1
 ·by_cases h2:fr a b t=1
  ·rw[h2];exact Rat.le_refl
  ·have:=Rat.mul_pos (a:=fr a b t-1) (b:=b-a) (by grind) (by grind)
   grind
def vB (k:Nat->Rat) (i:Nat) (t:Rat):Nat->Nat->Rat
 |0,j=>if j=0 then 1 else 0
 |d+1,j=>(if j=0 then 0 else fr (k (i-d+(j-1))) (k (i-d+(j-1)+(d+1))) t*vB k i t d (j-1))+
   (if j<=d then(1-fr (k (i-d+j)) (k (i-d+j+(d+1))) t)*vB k i t d j else 0)
theorem AN {k:Nat->Rat} {i:Nat} {t:Rat}:∀{d j:Nat},d<j->vB k i t d j=0
 |0,j,h=>by unfold vB;rw[if_neg (by omega)]
 |d+1,j,h=>by
  unfold vB
  rw[if_neg (by omega),if_neg (by omega),AN (d:=d) (j:=j-1) (by omega)];grind
theorem tV {k:Nat->Rat} {i:Nat} {t:Rat} {d j:Nat}:vB k i t (d+1) (j+1)=fr (k (i-d+j)) (k (i-d+j+(d+1))) t*vB k i t d j+(1-fr (k (i-d+(j+1))) (k (i-d+(j+1)+(d+1))) t)*vB k i t d (j+1):=by
 rw[vB,if_neg (by omega),Nat.add_sub_cancel]
 by_cases h:j+1<=d
 ·rw[if_pos h]
 ·rw[if_neg h,AN (d:=d) (j:=j+1) (by omega)];grind
theorem yq {k:Nat->Rat} {i:Nat} {t:Rat} {d:Nat}:vB k i t (d+1) 0=(1-fr (k (i-d)) (k (i-d+(d+1))) t)*vB k i t d 0:=by
 rw[vB,if_pos rfl,if_pos (by omega)];simp only[Nat.add_zero];grind
theorem Zd {k:Nat->Rat} {i:Nat} {t:Rat} {d:Nat} {c:Nat->Rat}:
  cO (d+2) (fun j=>c j*vB k i t (d+1) j)=
   cO (d+1) fun j=>(c (j+1)*fr (k (i-d+j)) (k (i-d+j+(d+1))) t+c j*(1-fr (k (i-d+j)) (k (i-d+j+(d+1))) t))*vB k i t d j:=by
 rw[Gl,yq]
 have h1:cO (d+1) (fun j=>c (j+1)*vB k i t (d+1) (j+1))=
   cO (d+1) (fun j=>c (j+1)*(fr (k (i-d+j)) (k (i-d+j+(d+1))) t*vB k i t d j))+cO (d+1) (fun j=>c (j+1)*((1-fr (k (i-d+(j+1))) (k (i-d+(j+1)+(d+1))) t)*vB k i t d (j+1))):=by
  rw[<-HJ]
  refine AB fun j _=>?_
  rw[tV];grind
 have h2:cO (d+2) (fun j=>c j*((1-fr (k (i-d+j)) (k (i-d+j+(d+1))) t)*vB k i t d j))=
   c 0*((1-fr (k (i-d)) (k (i-d+(d+1))) t)*vB k i t d 0)+cO (d+1) (fun j=>c (j+1)*((1-fr (k (i-d+(j+1))) (k (i-d+(j+1)+(d+1))) t)*vB k i t d (j+1))):=by
  rw[Gl];rfl
 have h3:cO (d+2) (fun j=>c j*((1-fr (k (i-d+j)) (k (i-d+j+(d+1))) t)*vB k i t d j))=
   cO (d+1) (fun j=>c j*((1-fr (k (i-d+j)) (k (i-d+j+(d+1))) t)*vB k i t d j)):=by
  rw[cO,AN (d:=d) (j:=d+1) (by omega)];grind
 have h4:cO (d+1) (fun j=>(c (j+1)*fr (k (i-d+j)) (k (i-d+j+(d+1))) t+c j*(1-fr (k (i-d+j)) (k (i-d+j+(d+1))) t))*vB k i t d j)=
   cO (d+1) (fun j=>c (j+1)*(fr (k (i-d+j)) (k (i-d+j+(d+1))) t*vB k i t d j))+cO (d+1) (fun j=>c j*((1-fr (k (i-d+j)) (k (i-d+j+(d+1))) t)*vB k i t d j)):=by
  rw[<-HJ]
  exact AB fun j _=>by grind
 rw[h1,h4,<-h3,h2];grind
structure At (n:Nat) (k:Nat->Rat) (i:Nat):Prop where
 lt:i+1<n
 sorted:∀i,i+1<n->k i<=k (i+1)
 wide:k i<k (i+1)
theorem At.around {n:Nat} {k:Nat->Rat} {i:Nat} (h:At n k i) {a b:Nat} (ha:a<=i) (hb:i<b) (hn:b<n):k a<k b:=by
 have h1:=fK h.sorted ha (show i<n by have:=h.lt;omega)
 have h2:=fK h.sorted (show i+1<=b by omega) hn
 have h3:=h.wide
 grind
def gD (k:Nat->Rat) (b p r:Nat) (t:Rat) (x:Nat->Rat) (j:Nat):Rat:=
 if r<j then x (j-1)+fr (k (b+j)) (k (b+j+(p-r))) t*(x j-x (j-1))else x j
def bl (k:Nat->Rat) (b p:Nat):Nat->(Nat->Rat)->List Rat->Nat->Rat
 |_,x,[]=>x
 |r,x,t::l=>bl k b p (r+1) (gD k b p r t x) l
def aT (t:Nat->Rat):Nat->Nat->List Rat
 |_,0=>[]
 |a,l+1=>t a::aT t (a+1) l
def bR (k:Nat->Rat) (b p:Nat) (t:Nat->Rat) (x:Nat->Rat):Nat->Nat->Rat
 |0=>x
 |r+1=>gD k b p r (t r) (bR k b p t x r)
variable {k:Nat->Rat} {b p:Nat}
theorem Mm {t x:Nat->Rat}:∀{l r:Nat},bl k b p r (bR k b p t x r) (aT t r l)=bR k b p t x (r+l)
 |0,r=>rfl
 |l+1,r=>by
  have:=Mm (t:=t) (x:=x) (l:=l) (r:=r+1)
  rw[show r+(l+1)=r+1+l by omega,<-this];rfl
theorem yw {t x:Nat->Rat} {l:Nat}:bR k b p t x l=bl k b p 0 x (aT t 0 l):=by
 have:=Mm (k:=k) (b:=b) (p:=p) (t:=t) (x:=x) (l:=l) (r:=0)
 rw[Nat.zero_add]at this
 exact this.symm
theorem Ck:∀{l:List Rat} {r:Nat} {x y:Nat->Rat},r+l.length=p->(∀j,r<=j->j<=p->x j=y j)->bl k b p r x l p=bl k b p r y l p
 |[],r,x,y,hl,h=>h p (by simp at hl;omega) (Nat.le_refl _)
 |t::l,r,x,y,hl,h=>by
  refine Ck (l:=l) (r:=r+1) (by simp at hl;omega) fun j h1 h2=>?_
  unfold gD
  rw[if_pos (by omega),if_pos (by omega),h j (by omega) h2,h (j-1) (by omega) (by omega)]
theorem N6 {x y u v:Rat} (hu:u≠0) (hv:v≠0) (h:x*(u*v)=y*(u*v)):x=y:=by
 have:(x-y)*(u*v)=0:=by grind
 simp only[Rat.mul_eq_zero]at this
 rcases this with h1|h1|h1
 ·grind
 ·exact absurd h1 hu
 ·exact absurd h1 hv
theorem XI {a1 a2 b1 b2 s t x0 x1 x2:Rat} (h1:a1<b1) (h2:a2<b1) (h3:a2<b2):
  x0+fr a1 b1 s*(x1-x0)+fr a2 b1 t*(x1+fr a2 b2 s*(x2-x1)-(x0+fr a1 b1 s*(x1-x0)))=
   x0+fr a1 b1 t*(x1-x0)+fr a2 b1 s*(x1+fr a2 b2 t*(x2-x1)-(x0+fr a1 b1 t*(x1-x0))):=by
 have n1:b1-a1≠0:=by intro e;grind
 have n2:b1-a2≠0:=by intro e;grind
 have n3:b2-a2≠0:=by intro e;grind
 have e1:=nK (t:=s) h1
 have e2:=nK (t:=t) h1
 have e3:=nK (t:=s) h2
 have e4:=nK (t:=t) h2
 have e5:=nK (t:=s) h3
 have e6:=nK (t:=t) h3
 generalize fr a1 b1 s=f1s at*
 generalize fr a1 b1 t=f1t at*
 generalize fr a2 b1 s=gs at*
 generalize fr a2 b1 t=gt at*
 generalize fr a2 b2 s=f2s at*
 generalize fr a2 b2 t=f2t at*
 have c0:(1-gt)*(1-f1s)=(1-gs)*(1-f1t):=by
  refine N6 n2 n1 ?_
  have q1:(1-gt)*(b1-a2)=b1-t:=by grind
  have q2:(1-f1s)*(b1-a1)=b1-s:=by grind
  have q3:(1-gs)*(b1-a2)=b1-s:=by grind
  have q4:(1-f1t)*(b1-a1)=b1-t:=by grind
  have l1:(1-gt)*(1-f1s)*((b1-a2)*(b1-a1))=((1-gt)*(b1-a2))*((1-f1s)*(b1-a1)):=by grind
  have l2:(1-gs)*(1-f1t)*((b1-a2)*(b1-a1))=((1-gs)*(b1-a2))*((1-f1t)*(b1-a1)):=by grind
  rw[l1,l2,q1,q2,q3,q4];grind
 have c2:gt*f2s=gs*f2t:=by
  refine N6 n2 n3 ?_
  have l1:gt*f2s*((b1-a2)*(b2-a2))=(gt*(b1-a2))*(f2s*(b2-a2)):=by grind
  have l2:gs*f2t*((b1-a2)*(b2-a2))=(gs*(b1-a2))*(f2t*(b2-a2)):=by grind
  rw[l1,l2,e3,e4,e5,e6];grind
 have f1:x0+f1s*(x1-x0)+gt*(x1+f2s*(x2-x1)-(x0+f1s*(x1-x0)))=((1-gt)*(1-f1s))*x0+(1-(1-gt)*(1-f1s)-gt*f2s)*x1+(gt*f2s)*x2:=by grind
 have f2:x0+f1t*(x1-x0)+gs*(x1+f2t*(x2-x1)-(x0+f1t*(x1-x0)))=((1-gs)*(1-f1t))*x0+(1-(1-gs)*(1-f1t)-gs*f2t)*x1+(gs*f2t)*x2:=by grind
 rw[f1,f2,c0,c2]
variable {n:Nat}
theorem Xw (h:At n k (b+p)) (hn:b+p+p<n) {s t:Rat} {x:Nat->Rat} {r j:Nat} (h1:r+2<=j) (h2:j<=p):
  gD k b p (r+1) t (gD k b p r s x) j=gD k b p (r+1) s (gD k b p r t x) j:=by
 have a1:=h.around (a:=b+(j-1)) (b:=b+(j-1)+(p-r)) (by omega) (by omega) (by omega)
 have a2:=h.around (a:=b+j) (b:=b+j+(p-(r+1))) (by omega) (by omega) (by omega)
 have a3:=h.around (a:=b+j) (b:=b+j+(p-r)) (by omega) (by omega) (by omega)
 have e:b+j+(p-(r+1))=b+(j-1)+(p-r):=by omega
 rw[e]at a2
 simp only[gD]
 rw[if_pos (by omega),if_pos (by omega),if_pos (by omega),if_pos (by omega),if_pos (by omega),if_pos (by omega),e]
 exact XI a1 a2 a3
theorem pz (h:At n k (b+p)) (hn:b+p+p<n) {l m:List Rat} (hp:l.Perm m):∀{r:Nat} {x:Nat->Rat},r+l.length=p->bl k b p r x l p=bl k b p r x m p:=by
 induction hp with
 |nil=>intro r x _;rfl
 |cons t _ ih=>intro r x hl;exact ih (by simp at hl;omega)
 |swap s t l=>
  intro r x hl
  refine Ck (l:=l) (r:=r+2) (by simp at hl;omega) fun j h1 h2=>?_
  exact Xw h hn h1 h2
 |trans h1 h2 ih1 ih2=>intro r x hl;rw[ih1 hl,ih2 (by rw[<-h1.length_eq];exact hl)]
def iB (t:Nat->Rat) (a:Nat):Nat->List Rat
 |0=>[]
 |l+1=>t (a+l)::iB t a l
theorem vP {t:Nat->Rat}:∀{l a:Nat},aT t a (l+1)=aT t a l++[t (a+l)]
 |0,a=>rfl
 |l+1,a=>by
  rw[aT,vP (l:=l) (a:=a+1),aT,List.cons_append,show a+1+l=a+(l+1) by omega]
theorem oE {t:Nat->Rat} {a:Nat}:∀{l:Nat},(iB t a l).Perm (aT t a l)
 |0=>.nil
 |l+1=>by
  rw[vP,iB]
  exact((oE (l:=l)).cons _).trans (List.perm_append_singleton _ _).symm
theorem oG {t:Nat->Rat} {m:Nat}:∀{l a:Nat},aT t a (l+m)=aT t a l++aT t (a+l) m
 |0,a=>by rw[Nat.zero_add];rfl
 |l+1,a=>by
  rw[show l+1+m=(l+m)+1 by omega,aT,oG (l:=l) (a:=a+1),aT,List.cons_append,show a+1+l=a+(l+1) by omega]
theorem gy {t:Nat->Rat}:∀{l a:Nat},(aT t a l).length=l
 |0,_=>rfl
 |l+1,a=>by rw[aT,List.length_cons,gy]
theorem Yd {l m:List Rat}:∀{r:Nat} {x:Nat->Rat},bl k b p r x (l++m)=bl k b p (r+l.length) (bl k b p r x l) m:=by
 induction l with
 |nil=>intro r x;rfl
 |cons t l ih=>
  intro r x
  rw[List.cons_append,bl,ih,bl,List.length_cons,show r+1+l.length=r+(l.length+1) by omega]
theorem NL (h:At n k (b+p)) (hn:b+p+p<n) {J:Nat} (hJ:J<=p):∀{l r:Nat} {x:Nat->Rat},r+l=J->bl k b p r x (iB k (b+p+1) l) J=x J
 |0,r,x,_=>rfl
 |l+1,r,x,hr=>by
  rw[iB,bl,NL h hn hJ (l:=l) (r:=r+1) (by omega)]
  unfold gD
  have a1:=h.around (a:=b+J) (b:=b+J+(p-r)) (by omega) (by omega) (by omega)
  rw[if_pos (by omega),show b+p+1+l=b+J+(p-r) by omega,LM a1];grind
theorem N3 {J:Nat}:∀{l q:Nat} {x:Nat->Rat},bl k b p (J+q) x (aT k (b+J+1+q) l) (J+q+l)=x (J+q)
 |0,q,x=>rfl
 |l+1,q,x=>by
  have ih:=N3 (J:=J) (l:=l) (q:=q+1) (x:=gD k b p (J+q) (k (b+J+1+q)) x)
  rw[aT,bl,show J+q+(l+1)=J+(q+1)+l by omega,show J+q+1=J+(q+1) by omega,show b+J+1+q+1=b+J+1+(q+1) by omega,ih]
  unfold gD
  rw[if_pos (by omega),show b+J+1+q=b+(J+(q+1)) by omega,G4,show J+(q+1)-1=J+q by omega];grind
theorem af9 (h:At n k (b+p)) (hn:b+p+p<n) {J:Nat} (hJ:J<=p) {x:Nat->Rat}:bl k b p 0 x (aT k (b+J+1) p) p=x J:=by
 have e:aT k (b+J+1) p=aT k (b+J+1) (p-J)++aT k (b+p+1) J:=by
  have:=oG (t:=k) (l:=p-J) (a:=b+J+1) (m:=J)
  rw[show p-J+J=p by omega,show b+J+1+(p-J)=b+p+1 by omega]at this
  exact this
 have hp:(aT k (b+J+1) p).Perm (iB k (b+p+1) J++aT k (b+J+1) (p-J)):=by
  rw[e]
  exact(List.perm_append_comm).trans ((oE).symm.append_right _)
 rw[pz h hn hp (by rw[gy];omega),Yd]
 have hd:(iB k (b+p+1) J).length=J:=by rw[(oE).length_eq,gy]
 rw[hd,Nat.zero_add]
 have:=N3 (k:=k) (b:=b) (p:=p) (J:=J) (l:=p-J) (q:=0) (x:=bl k b p 0 x (iB k (b+p+1) J))
 simp only[Nat.add_zero]at this
 rw[show J+(p-J)=p by omega]at this
 rw[this]
 exact NL h hn hJ (l:=J) (r:=0) (by omega)
theorem diag (i:Nat) (hi:b+p=i) (t:Rat) {x:Nat->Rat}:∀{r:Nat},r<=p->cO (p-r+1) (fun j=>bR k b p (fun _=>t) x r (r+j)*vB k i t (p-r) j)=cO (p+1) fun j=>x j*vB k i t p j
 |0,_=>by simp only[Nat.sub_zero,Nat.zero_add];rfl
 |r+1,hr=>by
  rw[<-diag i hi t (x:=x) (r:=r) (by omega)]
  obtain⟨d,hd⟩:∃d,p-r=d+1:=⟨p-r-1,by omega⟩
  rw[show p-(r+1)=d by omega,hd,Zd]
  refine AB fun j hj=>?_
  rw[bR,gD,if_pos (by omega),show r+1+j-1=r+j by omega,show b+(r+1+j)=i-d+j by omega,hd,show r+(j+1)=r+1+j by omega]
  grind
theorem ZC (i:Nat) (hi:b+p=i) (t:Rat) {x:Nat->Rat}:bR k b p (fun _=>t) x p p=cO (p+1) fun j=>x j*vB k i t p j:=by
 rw[<-diag i hi t (r:=p) (Nat.le_refl _),Nat.sub_self]
 simp only[cO,vB,Nat.add_zero,if_true];grind
end Go.Am.B
namespace Go.Am.B
def mw (g:Nat->Bool):Nat->Nat
 |0=>0
 |m+1=>if g m then m else mw g m
theorem Qt {g:Nat->Bool} {i:Nat} (hi:g i=true):∀{m:Nat},i<m->(∀j,i<j->j<m->g j=false)->mw g m=i
 |0,h,_=>by omega
 |m+1,h,hn=>by
  unfold mw
  by_cases he:i=m
  ·subst he;rw[if_pos hi]
  ·rw[if_neg (by rw[hn m (by omega) (by omega)];decide),Qt hi (m:=m) (by omega) fun j h1 h2=>hn j h1 (by omega)]
def bJ (n:Nat) (k:Nat->Rat) (t:Rat):Nat:=mw (fun i=>decide (k i<k (i+1))&&decide (k i<=t)) (n-1)
structure CI (n:Nat) (k:Nat->Rat) (t:Rat) (i:Nat):Prop where
 at_:At n k i
 lo:k i<=t
 hi:t<=k (i+1)
 KE:t<k (i+1)\/k (i+1)=k (n-1)
theorem DE {n:Nat} {k:Nat->Rat} {t:Rat} {i:Nat} (h:CI n k t i):bJ n k t=i:=by
 have hw:=h.at_.wide
 have hlo:=h.lo
 refine Qt (by simp[hw,hlo]) (by have:=h.at_.lt;omega) fun j h1 h2=>?_
 rcases h.KE with h3|h3
 ·have:=fK h.at_.sorted (show i+1<=j by omega) (show j<n by omega)
  have:¬k j<=t:=by grind
  simp[this]
 ·have a1:=fK h.at_.sorted (show i+1<=j by omega) (show j<n by omega)
  have a2:=fK h.at_.sorted (show j+1<=n-1 by omega) (show n-1<n by omega)
  have:¬k j<k (j+1):=by grind
  simp[this]
theorem TV {g:Nat->Bool}:∀{m:Nat},(∃i,i<m/\g i=true)->g (mw g m)=true/\mw g m<m/\∀j,mw g m<j->j<m->g j=false
 |0,⟨i,h,_⟩=>by omega
 |m+1,⟨i,h,hi⟩=>by
  unfold mw
  by_cases hm:g m=true
  ·rw[if_pos hm];exact⟨hm,by omega,fun j h1 h2=>by omega⟩
  ·rw[if_neg hm]
   have hi':i<m:=by
    by_cases he:i=m
    ·subst he;exact absurd hi hm
    ·omega
   obtain⟨a1,a2,a3⟩:=TV (g:=g) (m:=m) ⟨i,hi',hi⟩
   refine⟨a1,by omega,fun j h1 h2=>?_⟩
   by_cases he:j=m
   ·subst he;simpa using hm
   ·exact a3 j h1 (by omega)
theorem Kn.BB {n p:Nat} {k:Nat->Rat} (h:Kn n p k) {t:Rat} (h0:k 0<=t) (h1:t<=k (n-1)):CI n k t (bJ n k t)/\p<=bJ n k t/\bJ n k t+p+1<n:=by
 have hp:=h.p1
 have hl:=h.len
 have hw:k p<k (p+1):=by
  have:=h.mult 1 (by omega) (by omega)
  rw[h.first 1 (by omega),show 1+p=p+1 by omega]at this
  rw[h.first p (by omega)];exact this
 obtain⟨a1,a2,a3⟩:=TV (g:=fun i=>decide (k i<k (i+1))&&decide (k i<=t)) (m:=n-1) ⟨p,by omega,by rw[h.first p (by omega)]at*;simp[hw,h0]⟩
 have e:bJ n k t=mw (fun i=>decide (k i<k (i+1))&&decide (k i<=t)) (n-1):=rfl
 rw[<-e]at a1 a2 a3
 generalize bJ n k t=i at*
 simp only[Bool.and_eq_true,decide_eq_true_eq]at a1
 have hat:At n k i:=⟨by omega,h.sorted,a1.1⟩
 -- from the next knot on
 have key:t<k (i+1)\/k (i+1)=k (n-1):=by
  by_cases ht:t<k (i+1)
  ·exact .inl ht
  ·refine .inr ?_
   have step:∀j,i+1<=j->j<=n-1->k j=k (i+1):=by
    intro j hj1 hj2
    induction j with
    |zero=>omega
    |succ j ih=>
     by_cases hji:j+1=i+1
     ·rw[hji]
     ·have e1:=ih (by omega) (by omega)
      have:=a3 j (by omega) (by omega)
      have hs:=h.sorted j (by omega)
      by_cases hlt:k j<k (j+1)
      ·simp[hlt]at this
       grind
      ·grind
   exact(step (n-1) (by omega) (by omega)).symm
 have hi2:t<=k (i+1):=by rcases key with h2|h2<;>grind
 refine⟨⟨hat,a1.2,hi2,key⟩,?_,?_⟩
 ·by_cases hge:p<=i
  ·exact hge
  ·exfalso
   have:=h.first i (by omega)
   have:=h.first (i+1) (by omega)
   have:=a1.1
   grind
 ·by_cases hge:i+p+1<n
  ·exact hge
  ·exfalso
   have:=h.last i (by omega) (by omega)
   have:=h.last (i+1) (by omega) (by omega)
   have:=a1.1
   grind
structure KG (p j:Nat) (k:Nat->Rat) (t:Rat):Prop where
 p1:1<=p
 first:∀i,i<=p->k i=k 0
 top:k (p+j)=t
 sorted:∀i,i<p+j->k i<=k (i+1)
 mult:∀i,1<=i->i<=j->k i<k (i+p)
 half:∀i,i<=p+j->∃z:Int,k i=(z:Rat)/2/\-4<=z/\z<=2+6*(j:Int)
def mP (k:Nat->Rat) (m:Nat) (t:Rat):Nat->Rat:=fun i=>if i=m then t else k i
theorem wk {k:Nat->Rat} {m:Nat} {t:Rat}:mP k m t m=t:=if_pos rfl
theorem m9 {k:Nat->Rat} {m i:Nat} {t:Rat} (h:i≠m):mP k m t i=k i:=if_neg h
theorem KG.start {p:Nat} (hp:1<=p) {z:Int} (h1:-2<=z) (h2:z<=1):KG p 0 (fun _=>(z:Rat)) (z:Rat) where
 p1:=hp
 first:=fun _ _=>rfl
 top:=rfl
 sorted:=fun _ _=>Rat.le_refl
 mult:=fun i h1 h2=>by omega
 half:=fun i _=>⟨2*z,by
  have:((2*z:Int):Rat)=2*(z:Rat):=by simp
  rw[this];grind,by omega,by omega⟩
theorem KG.le_top {p j:Nat} {k:Nat->Rat} {t:Rat} (h:KG p j k t) {i:Nat} (hi:i<=p+j):k i<=t:=by
 rw[<-h.top]
 exact fK (n:=p+j+1) (fun i hi=>h.sorted i (by omega)) hi (by omega)
theorem KG.next {p j:Nat} {k:Nat->Rat} {t t':Rat} (h:KG p j k t) (hc:(t<t'/\∃z:Int,t'=t+(z:Rat)/2/\z<=6)\/(t'=t/\1<=j/\t≠k (j+1))):KG p (j+1) (mP k (p+1+j) t') t':=by
 have hle:t<=t':=by
  rcases hc with⟨h1,_⟩|⟨h1,_⟩
  ·grind
  ·rw[h1];exact Rat.le_refl
 have hp:=h.p1
 refine⟨hp,fun i hi=>?_,?_,fun i hi=>?_,fun i h1 h2=>?_,fun i hi=>?_⟩
 ·rw[m9 (by omega),m9 (by omega)];exact h.first i hi
 ·rw[show p+(j+1)=p+1+j by omega,wk]
 ·by_cases he:i+1=p+1+j
  ·rw[he,wk,m9 (by omega),show i=p+j by omega,h.top];exact hle
  ·rw[m9 (by omega),m9 he];exact h.sorted i (by omega)
 ·by_cases he:i=j+1
  ·subst he
   rw[show j+1+p=p+1+j by omega,wk,m9 (by omega)]
   have:=h.le_top (i:=j+1) (by omega)
   rcases hc with⟨h3,_⟩|⟨h3,h4,h5⟩
   ·grind
   ·rw[h3];grind
  ·rw[m9 (by omega),m9 (by omega)];exact h.mult i h1 (by omega)
 ·by_cases he:i=p+1+j
  ·subst he
   rw[wk]
   obtain⟨z,e1,e2,e3⟩:=h.half (p+j) (by omega)
   rw[h.top]at e1
   rcases hc with⟨h3,y,e4,e5⟩|⟨h3,_⟩
   ·refine⟨z+y,?_,?_,by omega⟩
    ·rw[e4,e1]
     have:((z+y:Int):Rat)=(z:Rat)+(y:Rat):=by simp
     rw[this];grind
    ·have hy:0<y:=by
      rcases Int.lt_or_le 0 y with h6|h6
      ·exact h6
      ·exfalso
       have:((y:Int):Rat)<=0:=Rat.intCast_nonpos.2 h6
       grind
     omega
   ·exact⟨z,by rw[h3,e1],e2,by omega⟩
  ·rw[m9 he]
   obtain⟨z,e1,e2,e3⟩:=h.half i (by omega)
   exact⟨z,e1,e2,by omega⟩
def nu (p j:Nat) (k:Nat->Rat) (t:Rat):Nat->Rat:=fun i=>if i<p+1+j then k i else t+1
theorem KG.done {p j:Nat} {k:Nat->Rat} {t:Rat} (h:KG p j k t):Kn (2*p+2+j) p (nu p j k t):=by
 have hp:=h.p1
 have lo:∀{i},i<p+1+j->nu p j k t i=k i:=fun hi=>if_pos hi
 have hi':∀{i},p+1+j<=i->nu p j k t i=t+1:=fun hi=>if_neg (by omega)
 refine⟨hp,by omega,fun i hi=>?_,fun i hi=>?_,fun i h1 h2=>?_,fun i h1 h2=>?_⟩
 ·by_cases h1:i+1<p+1+j
  ·rw[lo h1,lo (by omega)];exact h.sorted i (by omega)
  ·rw[hi' (i:=i+1) (by omega)]
   by_cases h2:i<p+1+j
   ·rw[lo h2]
    have:=h.le_top (i:=i) (by omega)
    grind
   ·rw[hi' (by omega)];exact Rat.le_refl
 ·rw[lo (i:=i) (by omega),lo (i:=0) (by omega)];exact h.first i hi
 ·rw[hi' (i:=i) (by omega),hi' (i:=2*p+2+j-1) (by omega)]
 ·by_cases h3:i+p<p+1+j
  ·rw[lo (by omega),lo h3];exact h.mult i h1 (by omega)
  ·rw[hi' (i:=i+p) (by omega),lo (i:=i) (by omega)]
   have:=h.le_top (i:=i) (by omega)
   grind
theorem KG.Tx {p j:Nat} {k:Nat->Rat} {t:Rat} (h:KG p j k t) (i:Nat):∃z:Int,nu p j k t i=(z:Rat)/2/\-4<=z/\z<=4+6*(j:Int):=by
 unfold nu
 split
 ·rename_i hi
  obtain⟨z,e1,e2,e3⟩:=h.half i (by omega)
  exact⟨z,e1,e2,by omega⟩
 ·obtain⟨z,e1,e2,e3⟩:=h.half (p+j) (by omega)
  rw[h.top]at e1
  refine⟨z+2,?_,by omega,by omega⟩
  have:((z+2:Int):Rat)=(z:Rat)+2:=by simp
  rw[e1,this];grind
open AV
def aV:AV->Rat
 |.rat q _=>q
 |_=>0
def bT (f:Nat->AV) (n s:Nat):Prop:=∀i,i<n->bF (f i) (.rat (aV (f i)) s)
abbrev bD (k:Nat->Rat) (n s:Nat):AV:=.ak 3 n (fun i=>.rat (k i) s)
theorem cz {k:Nat->Rat} {n s s':Nat} (h:s<=s'):bT (fun i=>.rat (k i) s) n s':=fun _ _=>gj h
theorem IP {f:Nat->AV} {n s:Nat} (h:bT f n s):bF (.ak 3 n f) (bD (fun i=>aV (f i)) n s):=fG h
def Bn:AV->Option (Nat×(Nat->AV))
 |.ak 3 n f=>some (n,f)
 |.nil=>some (0,fun _=>.rat 0 1)
 |_=>none
theorem alM {v:AV} {n s:Nat} {f:Nat->AV} (h:Bn v=some (n,f)) (ha:bT f n s):bF v (bD (fun i=>aV (f i)) n s):=by
 unfold Bn at h
 split at h
 ·simp only[ax,Prod.mk.injEq]at h
  obtain⟨rfl,rfl⟩:=h
  exact IP ha
 ·simp only[ax,Prod.mk.injEq]at h
  obtain⟨rfl,rfl⟩:=h
  exact ki aa
 ·simp at h
open Go Go.Am.N AV
theorem WH:aR P RU F7 (az F7):=aS Proofs.Tryz.func13 ag ag ag
def OQ:aX:=[(RU,gX T (sG::(IS,P8)::vr) [] 60 F7)]
theorem ag2:bq P OQ:=aH (iJ hT (kr (aH am6 xI)) hm WH _ _) bC
def kL (s:Nat):Kind (Nat×(Nat->Rat)):=⟨fun v=>match Bn v with
 |some (n,f)=>some ((n,fun i=>aV (f i)),[bT f n s])
 |none=>none,fun a=>bD a.2 a.1 s,fun {v a q} h hq=>by
  split at h
  ·rename_i h1
   simp only[ax,Prod.mk.injEq]at h
   obtain⟨rfl,rfl⟩:=h
   exact alM h1 hq
  ·simp at h⟩
def fL (s:Nat):Kind Rat:=⟨fun v=>match jH v with
 |some (q,n)=>some (q,[n<=s])
 |none=>none,fun a=>.rat a s,fun {v a q} h hq=>by
  split at h
  ·rename_i h1
   simp only[ax,Prod.mk.injEq]at h
   obtain⟨rfl,rfl⟩:=h
   exact(kV h1).trans (gj hq)
  ·simp at h⟩
structure sk (α:Type) where
 read:List AV->Option (α×List Prop)
 make:α->List AV
 ok:∀{l:List AV} {a:α} {q:List Prop},read l=some (a,q)->aA q->ff l (make a)
def kN:sk Unit:=⟨fun l=>match l with
 |[]=>some ((),[])
 |_=>none,fun _=>[],fun {l a q} h _=>by
  split at h
  ·trivial
  ·simp at h⟩
def kC {α β:Type} (k:Kind α) (kl:sk β):sk (α×β):=⟨fun l=>match l with
 |v::l=>match k.read v,kl.read l with
  |some (a,p),some (b,q)=>some ((a,b),p++q)
  |_,_=>none
 |[]=>none,fun a=>k.make a.1::kl.make a.2,fun {l a q} h hq=>by
  split at h
  ·split at h
   ·rename_i h1 h2
    simp only[ax,Prod.mk.injEq]at h
    obtain⟨rfl,rfl⟩:=h
    obtain⟨q1,q2⟩:=eu.1 hq
    exact⟨k.ok h1 q1,kl.ok h2 q2⟩
   ·simp at h
  ·simp at h⟩
def cI {α:Type} (k:sk α) (g:α->AV) (need:α->List Prop):Spec:=bU fun l=>match k.read l with
 |some (a,p)=>some (aK (g a) (p++need a))
 |none=>none
theorem cL {α:Type} {f:FuncId} {k:sk α} {g:α->AV} {need:α->List Prop} (h:∀a K,aA (need a)->aD P f K (k.make a) [] (aK (g a) [])):∀K args pre r,cI k g need K args pre=some r->aD P f K args pre r:=by
 refine cB fun K args r hk hs _=>?_
 split at hs
 ·rename_i h1
  simp only[ax]at hs
  subst hs
  intro hn
  obtain⟨n1,hn⟩:=eu.1 hn
  exact gR (h _ K hn) hk (k.ok h1 n1) [] trivial
 ·simp at hs
open Go Go.Am.N AV ah aq IntKind
theorem alx:aR P vc Fh (az Fh):=aS Proofs.Tryz.func188 ag ag ag
def gJ:aX:=nG::tD
abbrev sK:Nat:=4096
abbrev ls (k:Nat->Rat) (n:Nat):AV:=bD k n sK
abbrev tP (t:Rat) (s:Nat):au:=⟨false,true,3,1,fun _=>.rat t s⟩
abbrev Ao:List Nat:=[0,5,8,9,6,7]
abbrev Hx (n:Nat) (k:Nat->Rat) (l i:Nat):List AV:=[ls k n,.ptr 0 0 3 0 [],.int .i64 l,.int .i64 i,.int .i64 0,.int .i64 0]
abbrev wQ:Code:=az Fh
theorem abn {n:Nat} {k:Nat->Rat} {p:Int} {t:Rat}:aI T gJ [200013,21,31] 60 Ao (before wQ [1,1,1,0,1]) ⟨aP 0 [ls k n,.int .i64 p,.rat t sK],[],0⟩=
  let c11:Prop:=((↑n:Int)==(0:Int))=false;let c10:Prop:=0<1;let c9:AV:=ak 3 n fun i=>rat (k i) 4096;let c8:Nat:=Int.toNat (0:Int);let c7:AV:=ptr 0 0 (bt (rat t sK)).size 0 [];let c6:AV:=int i64 0;let c5:Nat×au:=(0,au.mk false true (bt (rat t sK)).size 1 fun x=>rat t 4096);let c4:Int:=(↑n:Int)-(1:Int);let c12:Prop:=(0:Int)<=(0:Int)/\c8<n;let c3:Bool:=bif false then true else decide (e9 t (k c8)<(0:Int));let c2:ah (List AV×aF):=leaf ret ([c9,c7,tuple [],tuple [],c6,int i64 7],[c5]);let c1:ah (List AV×aF):=leaf normal ([c9,c7,c6,c6,c6,c6],[c5]);some (fork c3 (aj [c11,c10,c12,c3=true] (fork true c2 c1)) (aj [c11,c10,c12,c3=false,c10,-(2:Int)^63<=c4/\c4<(2:Int)^63,(0:Int)<=c4/\c4.toNat<n] (fork (bif false then true else decide (e9 t (k c4.toNat)>(0:Int))) c2 c1))):=ag
theorem ah5 {n l i:Nat} {k:Nat->Rat} {t:Rat}:aI T gJ [36,49,58] 60 Ao [part wQ [1,1,1,0,1,0,0]] ⟨aE Ao (Hx n k l i),[(0,tP t sK)],1⟩=
  let c7:Int:=(↑i:Int);let c6:List AV:=[int i64 0,int i64 0];let c5:AV:=ptr 0 0 3 0 [];let c4:AV:=ak 3 n fun i=>rat (k i) 4096;let c2:Nat×au:=((0:Nat),aQ fun x=>rat t 4096);let c10:AV:=int i64 c7;let c1:Int:=c7+(1:Int);let c8:Int:=e9 (k c7.toNat) (k c1.toNat);let c3:Prop:=-(2:Int)^63<=c1/\c1<(2:Int)^63;let c9:List Prop:=[c3,(0:Int)<=c1/\c1.toNat<n];some (aj [c3] (fork (decide (c1<(↑n:Int))) (aj (((0:Int)<=c7/\c7.toNat<n)::c9) (fork (decide (c8>=(0:Int))) (aj [c3] (leaf normal (c4::c5::int i64 (↑l:Int)::int i64 c1::c6,[c2]))) (aj (((0:Nat)<1)::c9) (fork (decide (e9 t (k c1.toNat)<(0:Int))) (leaf (exit 0) (c4::c5::c10::c10::c6,[c2])) (aj [c3] (leaf normal (c4::c5::c10::int i64 c1::c6,[c2]))))))) (leaf (exit 0) (c4::c5::int i64 (↑l:Int)::c10::c6,[c2])))):=ag
theorem XC {n l i:Nat} {k:Nat->Rat} {t:Rat}:cJ T gJ [] 60 Fh [part wQ [1,1,1,1]] ⟨aE Ao (Hx n k l i),[(0,tP t sK)],1⟩=
  some (leaf ret [int i64 (↑l:Int),int i64 0]):=ag
abbrev L5 (n:Nat) (k:Nat->Rat) (i:Nat):List AV:=[ls k n,.ptr 0 0 3 0 [],.int .i64 i,.int .i64 0,.int .i64 0]
theorem lK:bq P gJ:=dg v9
theorem xQ {q:Rat} {n:Nat}:aV (.rat q n)=q:=rfl
theorem aaD:max 1 (bM (Int.natAbs 1))=1:=by decide
theorem vZ {a b:Rat}:e9 a b>=(0:Int)↔b<=a:=by
 have:=@pT a b
 constructor
 ·intro h
  have:¬a<b:=fun h'=>by have:=pT.2 h';omega
  grind
 ·intro h
  have:¬e9 a b<0:=fun h'=>by have:=pT.1 h';grind
  omega
theorem pI {rl:List (Nat×Nat)} {l i s s' s2:Nat} {x y:Nat->Rat} {t:Rat} (hx:∀i,i<l->x i=y i) (ht:t=y l) (h1:s<=s2) (h2:s'<=s2) (hi:i<l+1):gn rl (if i<l then .rat (x i) s else nth [.rat t s'] (.rat 0 1) (i-l+0)) (.rat (y i) s2):=by
 by_cases h:i<l
 ·rw[if_pos h,hx i h];exact .inr ⟨rfl,bX rfl h1⟩
 ·have:i=l:=aa
  subst this
  rw[if_neg h,Nat.sub_self,ht]
  exact .inr ⟨rfl,bX rfl h2⟩
def cw (n:Nat) (k:Nat->Rat) (t:Rat):Prop:=t<k 0\/k (n-1)<t
instance {n:Nat} {k:Nat->Rat} {t:Rat}:Decidable (cw n k t):=inferInstanceAs (Decidable (t<k 0\/k (n-1)<t))
def fH (n:Nat) (k:Nat->Rat) (t:Rat):Nat:=if cw n k t then 0 else bJ n k t
def fe (n:Nat) (k:Nat->Rat) (t:Rat):Int:=if cw n k t then 7 else 0
abbrev zC (n:Nat) (k:Nat->Rat) (t:Rat):AV:=.tuple [.int .i64 (fH n k t),.int .i64 (fe n k t)]
theorem T3 {n:Nat} {k:Nat->Rat} {t:Rat} (h:cw n k t):en [.int .i64 0,.int .i64 7] (zC n k t):=
 ⟨bN (by unfold fH;rw[if_pos h];rfl),bN (by unfold fe;rw[if_pos h]),trivial⟩
theorem afP {n i:Nat} {k:Nat->Rat} {t:Rat} (h:¬cw n k t) (hi:i=bJ n k t):en [.int .i64 i,.int .i64 0] (zC n k t):=
 ⟨bN (by unfold fH;rw[if_neg h,hi]),bN (by unfold fe;rw[if_neg h]),trivial⟩
abbrev vg (k:Nat->Rat) (t:Rat) (i:Nat):Nat:=mw (fun i=>decide (k i<k (i+1))&&decide (k i<=t)) i
theorem Oh {g:Nat->Bool} {m:Nat}:mw g (m+1)=if g m then m else mw g m:=rfl
theorem aiD {n p0:Nat} {k:Nat->Rat} {p:Int} {t:Rat} (h:Kn n p0 k) (hn:n<2^40) (K:Nat):aD P vc K [ls k n,.int .i64 p,.rat t sK] [] (aK (zC n k t) []):=by
 have hp:=h.p1
 have hl:=h.len
 refine gV (r:=aK (zC n k t) []) hT lK hm alx rfl aW rfl [1,1,1,0,1] (i:=0) (y:=part wQ [1,1,1,0,1,0,0]) (z:=part wQ [1,1,1,1]) ag ag ag (f1:=[200013,21,31]) (f2:=[36,49,58]) (f3:=[]) 60 Ao 1
  (fun a:Nat×Nat=>Hx n k a.2 a.1) (fun _=>[(0,tP t sK)]) (fun a=>a.1+1<=n/\a.2=vg k t a.1/\k a.1<=t/\¬cw n k t) (fun a=>a.2=bJ n k t/\¬cw n k t) (fun a=>n-a.1) (fun _=>⟨⟨_,abn,?_⟩,fun⟨i,l⟩ ⟨h1,h2,h3,h4⟩=>⟨_,ah5,?_⟩,fun⟨i,l⟩ ⟨h1,h2⟩=>⟨_,XC,afP h2 h1⟩⟩) K []
 ·simp only[ah.all,aA,bh,bz,pT,uW,cond_false,Int.toNat_zero,beq_eq_false_iff_ne,ne_eq,show((n:Int)-1).toNat=n-1 by omega]
  (repeat' with_reducible first|refine And.intro ?_ ?_|intro _)
  all_goals first|omega|assumption|skip
  ·exact⟨_,ag,T3 (.inl ‹_›)⟩
  ·exact absurd ‹true=false› (by decide)
  ·exact⟨_,ag,T3 (.inr ‹_›)⟩
  ·rename_i a b
   have hin:¬cw n k t:=fun h=>h.elim (fun h=>a h) fun h=>b h
   exact⟨(0,0),⟨aa,rfl,by show k 0<=t;grind,hin⟩,[(0,0)],rfl,rfl,rfl,aM trivial⟩
 ·have hs:∀i,i+1<n->k i<=k (i+1):=h.sorted
  simp only at h1 h2 h3
  simp only[ah.all,aA,bh,bz,pT,vZ,aZ,show((i:Int)+1).toNat=i+1 by omega]
  (repeat' with_reducible first|refine And.intro ?_ ?_|intro _)
  all_goals first|omega|assumption|skip
  ·rename_i hi hge
   have:=hs i aa
   have e:vg k t (i+1)=vg k t i:=by
    have:¬k i<k (i+1):=by grind
    rw[vg,Oh,if_neg (by simp[this])]
   exact⟨(i+1,l),⟨aa,h2.trans e.symm,by show k (i+1)<=t;grind,h4⟩,by dsimp only;omega,[(0,0)],rfl,rfl,rfl,aM trivial⟩
  ·rename_i hi hlt hb
   have:k i<k (i+1):=by grind
   have hiv:bJ n k t=i:=DE ⟨⟨aa,hs,this⟩,h3,by grind,.inl hb⟩
   exact⟨rfl,(i,i),⟨hiv.symm,h4⟩,[(0,0)],rfl,rfl,rfl,aM trivial⟩
  ·rename_i hi hlt hb
   have:k i<k (i+1):=by grind
   have e:vg k t (i+1)=i:=by
    rw[vg,Oh,if_pos (by simp[this,h3])]
   exact⟨(i+1,i),⟨aa,e.symm,by show k (i+1)<=t;grind,h4⟩,by dsimp only;omega,[(0,0)],rfl,rfl,rfl,aM trivial⟩
  ·have hin:i=n-1:=aa
   subst hin
   exact⟨rfl,(n-1,l),⟨h2,h4⟩,[(0,0)],rfl,rfl,rfl,aM trivial⟩
abbrev T0:sk ((Nat×(Nat->Rat))×Int×Rat×Unit):=kC (kL sK) (kC kI (kC (fL sK) kN))
def CS:Spec:=cI T0 (fun a=>zC a.1.1 a.1.2 a.2.2.1) fun a=>[Kn a.1.1 a.2.1.toNat a.1.2,0<=a.2.1,a.1.1<2^40]
theorem JT:∀K args pre r,CS K args pre=some r->aD P vc K args pre r:=cL fun _ K hn=>aiD hn.1 hn.2.2 K
theorem U6:aR P Fp BA (az BA):=aS Proofs.Tryz.func278 ag ag ag
theorem Q3:aR P D3 zF (az zF):=aS Proofs.Tryz.func232 ag ag ag
def RO:aX:=(vC,kH kR kR uM p8)::fQ
theorem ad5 {a b t:Rat} {n:Nat}:bS T RO [] 60 BA (az BA) ⟨aP 0 [.rat a n,.rat b n,.rat t n],[],0⟩=
  let c3:Nat:=n+n+1;let c2:Nat:=2^42;let c1:Prop:=0<1;some (aj [c1,c1,n<c2,n<c2,c1,c1,n<c2,n<c2,c3<c2,c3<c2,c1] (aj [c1,c1] (aj [c1] (leaf ret [rat ((t-a)/(b-a)) (c3+c3)])))):=ag
abbrev sF:Nat:=16386
def ID:Spec:=cI (kC (fL sK) (kC (fL sK) (kC (fL sK) kN))) (fun a=>.rat (fr a.1 a.2.1 a.2.2.1) sF) fun _=>[]
theorem aa8:bq P RO:=aH (kT fun _ _ K hn=>Ci hn.1 hn.2 K) gm
theorem SV:∀K args pre r,ID K args pre=some r->aD P Fp K args pre r:=cL fun⟨a,b,t,_⟩ K _=>by
 refine bY (r:=aK (.rat (fr a b t) sF) []) hT aa8 hm U6 rfl aW rfl 60 ad5 (fun _=>?_) K []
 simp only[ah.all,aA]
 have h1:sK=4096:=rfl
 (repeat' with_reducible refine And.intro ?_ ?_)
 all_goals first|omega|exact(bX rfl (show sK+sK+1+(sK+sK+1)<=sF by decide))
def rW:aX:=nG::(vc,CS)::(Fp,ID)::(uT,Cy)::fQ
def SB (d:Nat):Nat:=65536*4^d
abbrev HB (d:Nat):Nat:=1+(sF+SB d)+1
abbrev nH:List Nat:=[0,1,5,9,11,12,6,7,8]
abbrev um (n:Nat) (k:Nat->Rat) (p i d:Nat):List AV:=[ls k n,.int .i64 p,.ptr 0 0 3 0 [],.int .i64 i,.own 2 3 0 (d+1),.int .i64 ((d+1:Nat):Int),.int .i64 0,.nil,.int .i64 0]
abbrev lH (m:Nat) (x:Nat->Rat) (s:Nat->Nat):au:=⟨true,true,3,m,fun i=>.rat (x i) (s i)⟩
abbrev Fm:Code:=az zF
abbrev uE:Code:=part Fm [1,1,1,1,1,0,1,0,0]
abbrev sX:Code:=part uE [1,0,0]
abbrev ye:List Nat:=[0,1,5,9,12,13,54,55,56,6,7,8]
abbrev Hg (n:Nat) (k:Nat->Rat) (p i d j:Nat):List AV:=[ls k n,.int .i64 p,.ptr 0 0 3 0 [],.int .i64 i,.int .i64 ((d+1:Nat):Int),.own 3 3 0 (d+2),.own 2 3 0 (d+1),.int .i64 ((d+1:Nat):Int),.int .i64 j,.int .i64 0,.nil,.int .i64 0]
theorem ah4 {n p:Nat} {k:Nat->Rat} {t:Rat}:aI T rW [26,30,36,43] 60 nH (before Fm [1,1,1,1,1,0,1]) ⟨aP 0 [ls k n,.int .i64 p,.rat t sK],[],0⟩=
  let c13 : Int := fe n (fun i => aV (rat (k i) sK)) t; let c12 : AV := int i64 (0 : Int); let c9 : AV := ak 3 n fun i => rat (k i) 4096; let c7 : AV := ptr 0 0 (bt (rat t sK)).size 0 []; let c6 : Int := (2 : Int) ^ 63; let c5 : Nat × au := ((0 : Nat), au.mk false true (bt (rat t sK)).size 1 fun x => rat t 4096); let c4 : Int := (↑p : Int); let c3 : Int := (↑(fH n (fun i => aV (rat (k i) sK)) t) : Int); let c15 : Prop := -c6 <= c3 - c4 /\ c3 - c4 < c6; let c14 : Prop := -c6 <= c3 + c4 /\ c3 + c4 < c6; let c11 : Bool := bif false then true else decide (c3 + c4 >= (↑n : Int)); let c10 : Bool := decide (c4 < (0 : Int)); let c8 : Bool := bif false then true else decide (c3 - c4 < (0 : Int)); let c2 : ah (List AV × aF) := leaf ret ([c9, int i64 c4, c7, int i64 c3, tuple [], tuple [], c12, nil, int i64 (7 : Int)], [c5]); let c1 : ah (List AV × aF) := aj [(1 : Nat) * 3 <= 2 ^ 24] (leaf normal ([c9, int i64 c4, c7, int i64 c3, own 131072 3 0 1, int i64 (1 : Int), c12, nil, c12], [((131072 : Nat), au.mk true true 3 1 fun i => nth [rat (↑(1 : Int) : Rat) (Max.max 1 (bM (Int.natAbs (1 : Int))))] (rat 0 1) i), c5])); some (aj [(0 : Nat) < 1, bT (fun i => rat (k i) sK) n sK, sK <= sK, Kn n c4.toNat fun i => aV (rat (k i) sK), (0 : Int) <= c4, n < 2 ^ 40] (fork (c13 != (0 : Int)) (leaf ret ([c9, int i64 c4, c7, int i64 c3, tuple [], tuple [], c12, nil, int i64 c13], [c5])) (fork false (fork true (aj [c10 = true, true = true] (fork true c2 c1)) (aj [c10 = true, true = false, c14] (fork c11 c2 c1))) (fork c8 (aj [c10 = false, c15, c8 = true] (fork true c2 c1)) (aj [c10 = false, c15, c8 = false, c14] (fork c11 c2 c1)))))) := ag
theorem akJ {n p i d:Nat} {k x:Nat->Rat} {t:Rat}:aI T rW [48] 60 nH (before uE [1,0]) ⟨aE nH (um n k p i d),[(2,lH (d+1) x fun _=>SB d),(0,tP t sK)],3⟩=
  let c2:Int:=(↑(d+1):Int);let c1:List AV×aF:=([ak 3 n fun i=>rat (k i) 4096,int i64 (↑p:Int),ptr 0 0 3 0 [],int i64 (↑i:Int),own 2 3 0 (d+1),int i64 c2,int i64 0,nil,int i64 0],[(2,au.mk true true 3 (d+1) fun i=>rat (x i) (SB d)),((0:Nat),aQ fun x=>rat t 4096)]);some (fork (decide (c2<=(↑p:Int))) (leaf normal c1) (leaf (exit 0) c1)):=ag
theorem ajv {n p i d:Nat} {k x:Nat->Rat} {t:Rat}:aI T rW [] 60 ye (before sX [1,0,1]) ⟨aE nH (um n k p i d),[(2,lH (d+1) x fun _=>SB d),(0,tP t sK)],3⟩=
  let c3:AV:=int i64 0;let c2:Int:=(↑(d+1):Int);let c1:Int:=c2+(1:Int);some (aj [-(2:Int)^63<=c1/\c1<(2:Int)^63,(0:Int)<=c1/\c1<=c1/\c1<=(2:Int)^47/\c1*(↑(56:Nat):Int)<=(2:Int)^47] (leaf normal ([ak 3 n fun i=>rat (k i) 4096,int i64 (↑p:Int),ptr 0 0 3 0 [],int i64 (↑i:Int),int i64 c2,own 8195 3 0 c1.toNat,own 2 3 0 (d+1),int i64 c2,c3,c3,nil,c3],[(2,au.mk true true 3 (d+1) fun i=>rat (x i) (SB d)),(8195,au.mk true true 3 c1.toNat fun x=>rat 0 1),((0:Nat),aQ fun x=>rat t 4096)]))):=ag
theorem ahS {n p i d j:Nat} {k x y:Nat->Rat} {s:Nat->Nat} {t:Rat}:aI T rW [57] 60 ye [part sX [1,0,1,0,0]] ⟨aE ye (Hg n k p i d j),[(3,lH (d+2) y s),(2,lH (d+1) x fun _=>SB d),(0,tP t sK)],4⟩=
  let c20:AV:=int i64 0;let c19:AV:=ptr 0 0 3 0 [];let c18:AV:=ak 3 n fun i=>rat (k i) 4096;let c16:Nat:=d+1;let c13:Nat×au:=((0:Nat),aQ fun x=>rat t 4096);let c11:Int:=(↑j:Int);let c10:Prop:=0<1;let c9:Nat:=d+2;let c8:Nat:=Max.max 1 (bM (Int.natAbs (1:Int)));let c7:Nat:=2^42;let c5:Int:=(2:Int)^63;let c25:Prop:=(0:Int)<=c11/\c11.toNat<c9;let c23:Nat:=c8+sF+1;let c22:AV:=own 3 3 0 c9;let c21:AV:=own 2 3 0 c16;let c12:Nat×au:=(2,au.mk true true 3 c16 fun i=>rat (x i) (SB d));let c6:Int:=c11+(1:Int);let c4:Nat:=c11.toNat+0;let c3:Int:=(↑c16:Int);let c29:AV:=int i64 c3;let c27:Prop:=(0:Int)<=c6/\c6.toNat<c9;let c24:Prop:=-c5<=c6/\c6<c5;let c17:Int:=(↑i:Int)-c3;let c2:Nat:=c6.toNat+0;let c28:Int:=c17+(1:Int);let c26:Nat:=s c2+(sF+SB d)+1;let c15:Nat:=bif c4==c2 then c26 else s c4;let c1:Int:=c28+c11;let c14:Rat:=fr (k c1.toNat) (k (c1+c3).toNat) t;some (fork (decide (c11<c3)) (aj [(0:Int)<=c11/\c11.toNat<c16,c4<c16,c10] (aj [-c5<=c17/\c17<c5,-c5<=c28/\c28<c5,-c5<=c1/\c1<c5] (aj [(0:Int)<=c1/\c1.toNat<n,-c5<=c1+c3/\c1+c3<c5,(0:Int)<=c1+c3/\(c1+c3).toNat<n,c10,sK<=sK,sK<=sK,sK<=sK,c10] (aj [c24,c24,c27,c2<c9,c10,c10,sF<c7,SB d<c7,s c2<c7,sF+SB d<c7,c27,c2<c9] (aj [c25,c4<c9,c10,c8<c7,sF<c7,c10,c23<c7,SB d<c7,c15<c7,c23+SB d<c7,c25,c4<c9] (aj [c24] (leaf normal ([c18,int i64 (↑p:Int),c19,int i64 (↑i:Int),c29,c22,c21,c29,int i64 c6,c20,nil,c20],[c12,(3,au.mk true true 3 c9 fun j=>rat (bif j==c4 then(bif c4==c2 then y c2+c14*x c4 else y c4)+((↑(1:Int):Rat)-c14)*x c4 else bif j==c2 then y c2+c14*x c4 else y j) (bif j==c4 then c15+(c23+SB d)+1 else bif j==c2 then c26 else s j)),c13])))))))) (leaf (exit 2) ([c18,int i64 (↑p:Int),c19,int i64 (↑i:Int),c29,c22,c21,c29,int i64 c11,c20,nil,c20],[c12,(3,au.mk true true 3 c9 fun i=>rat (y i) (s i)),c13]))):=ag
theorem aen {n p i d j:Nat} {k x y:Nat->Rat} {s:Nat->Nat} {t:Rat}:aI T rW [] 60 nH [part sX [1,1],part uE [1,1]] ⟨aE ye (Hg n k p i d j),[(3,lH (d+2) y s),(2,lH (d+1) x fun _=>SB d),(0,tP t sK)],4⟩=
  let c1:Int:=(↑(d+1):Int)+(1:Int);some (aj [-(2:Int)^63<=c1/\c1<(2:Int)^63] (leaf normal ([ak 3 n fun i=>rat (k i) 4096,int i64 (↑p:Int),ptr 0 0 3 0 [],int i64 (↑i:Int),own 3 3 0 (d+2),int i64 c1,int i64 0,nil,int i64 0],[(3,au.mk true true 3 (d+2) fun i=>rat (y i) (s i)),((0:Nat),aQ fun x=>rat t 4096)]))):=ag
theorem agi {n p i d:Nat} {k x:Nat->Rat} {t:Rat}:cJ T rW [] 60 zF [part Fm [1,1,1,1,1,1]] ⟨aE nH (um n k p i d),[(2,lH (d+1) x fun _=>SB d),(0,tP t sK)],3⟩=
  let c1:Int:=(↑i:Int)-(↑p:Int);some (aj [-(2:Int)^63<=c1/\c1<(2:Int)^63] (leaf ret [int i64 c1,ak 3 (d+1) fun i=>rat (x (i+0)) (SB d),int i64 0])):=ag
theorem Eb {d:Nat}:SB (d+1)=4*SB d:=by unfold SB;rw[Nat.pow_succ];omega
theorem v7:∀{d:Nat},65536<=SB d
 |0=>by unfold SB;omega
 |d+1=>by rw[Eb];have:=v7 (d:=d);omega
theorem Fs:sF=16386:=rfl
theorem Y9 {d e:Nat} (h:d<=e):SB d<=SB e:=Nat.mul_le_mul_left _ (Nat.pow_le_pow_right aa h)
abbrev sV:Nat:=268435456
theorem Ay {d:Nat} (h:d<=6):SB d<=sV:=Nat.le_trans (Y9 h) (by decide)
def xH (n:Nat) (k:Nat->Rat) (p:Nat) (t:Rat) (f:Nat->Rat):AV:=.tuple [.int .i64 (if cw n k t then 0 else(bJ n k t:Int)-p),.ak 3 (if cw n k t then 0 else p+1) (fun j=>.rat (f j) sV),.int .i64 (fe n k t)]
abbrev CE (n:Nat) (k:Nat->Rat) (p:Nat) (t:Rat):AV:=xH n k p t (vB k (bJ n k t) t p)
theorem aeJ {n p:Nat} {k f:Nat->Rat} {t:Rat} (h:cw n k t):en [.int .i64 0,.nil,.int .i64 7] (xH n k p t f):=by
 unfold xH fe
 rw[if_pos h,if_pos h,if_pos h]
 exact⟨.refl _,ki aa,.refl _,trivial⟩
theorem aeH {n p:Nat} {k f:Nat->Rat} {t:Rat} {g:Nat->AV} (h:¬cw n k t) (hg:∀j,j<p+1->bF (g j) (.rat (f j) sV)):en [.int .i64 ((bJ n k t:Int)-p),.ak 3 (p+1) g,.int .i64 0] (xH n k p t f):=by
 unfold xH fe
 rw[if_neg h,if_neg h,if_neg h]
 exact⟨.refl _,fG hg,.refl _,trivial⟩
theorem ya:bq P rW:=dg (aH JT (aH SV (aH (FW Hs) gm)))
def xA (k:Nat->Rat) (i:Nat) (t:Rat) (d j:Nat):Rat:=if j=0 then 0 else fr (k (i-d+(j-1))) (k (i-d+(j-1)+(d+1))) t*vB k i t d (j-1)
def mV (k:Nat->Rat) (i:Nat) (t:Rat) (d j x:Nat):Rat:=if x<j then vB k i t (d+1) x else if x=j then xA k i t d j else 0
def kE (d j x:Nat):Nat:=if x<j then SB (d+1)else if x=j then HB d else 1
theorem VS {rl:List (Nat×Nat)} {k:Nat->Rat} {i d j x:Nat} {t:Rat} (hj:j<=d):
  gn rl (.rat (bif x==j then(bif j==j+1 then mV k i t d j (j+1)+fr (k (i-d+j)) (k (i-d+j+(d+1))) t*vB k i t d j else mV k i t d j j)+(((1:Int):Rat)-fr (k (i-d+j)) (k (i-d+j+(d+1))) t)*vB k i t d j
   else bif x==j+1 then mV k i t d j (j+1)+fr (k (i-d+j)) (k (i-d+j+(d+1))) t*vB k i t d j else mV k i t d j x)
   (bif x==j then(bif j==j+1 then kE d j (j+1)+(sF+SB d)+1 else kE d j j)+(1+sF+1+SB d)+1 else bif x==j+1 then kE d j (j+1)+(sF+SB d)+1 else kE d j x))
   (.rat (mV k i t d (j+1) x) (kE d (j+1) x)):=by
 have h1:=Eb (d:=d)
 have h2:=v7 (d:=d)
 have h3:=Fs
 have hjj:(j==j+1)=false:=by simp
 rw[hjj]
 refine .inr ⟨rfl,?_⟩
 by_cases hx:x=j
 ·subst hx
  simp only[beq_self_eq_true,cond_true,cond_false]
  refine bX ?_ ?_
  ·unfold mV
   rw[if_neg aa,if_pos rfl,if_pos aa,vB,if_pos hj]
   have:((1:Int):Rat)=1:=rfl
   rw[this];rfl
  ·unfold kE HB
   rw[if_neg aa,if_pos rfl,if_pos aa];omega
 ·have hb:(x==j)=false:=by simpa using hx
  rw[hb]
  by_cases hx2:x=j+1
  ·subst hx2
   simp only[beq_self_eq_true,cond_true,cond_false]
   refine bX ?_ ?_
   ·unfold mV xA
    rw[if_neg aa,if_neg aa,if_neg aa,if_pos rfl,if_neg aa,Nat.add_sub_cancel,Rat.zero_add]
   ·unfold kE HB
    rw[if_neg aa,if_neg aa,if_neg aa,if_pos rfl];omega
  ·have hb2:(x==j+1)=false:=by simpa using hx2
   rw[hb2]
   simp only[cond_false]
   refine bX ?_ ?_
   ·unfold mV
    by_cases hlt:x<j
    ·rw[if_pos hlt,if_pos aa]
    ·rw[if_neg hlt,if_neg hx,if_neg aa,if_neg hx2]
   ·unfold kE
    by_cases hlt:x<j
    ·rw[if_pos hlt,if_pos aa];omega
    ·rw[if_neg hlt,if_neg hx,if_neg aa,if_neg hx2];omega
theorem adf {n p:Nat} {k:Nat->Rat} {t:Rat} (h:Kn n p k) (hp6:p<=6) (hn:n<2^40) (K:Nat):aD P D3 K [ls k n,.int .i64 p,.rat t sK] [] (aK (CE n k p t) []):=by
 refine iP (r:=aK (CE n k p t) []) hT Q3 rfl aW rfl (fun _ c h0=>?_) K []
 have hk:=qw h0
 have hiv:¬cw n k t->p<=bJ n k t/\bJ n k t+p+1<n:=fun hin=>by
  have h1:¬t<k 0:=fun h=>hin (.inl h)
  have h2:¬k (n-1)<t:=fun h=>hin (.inr h)
  exact(h.BB (by grind) (by grind)).2
 have hp1:=h.p1
 have hl:=h.len
 refine ay.yS hT ya hm [1,1,1,1,1,0,1] (i:=0) (y:=uE) (z:=part Fm [1,1,1,1,1,1]) ag ag ag Q3.dst hk (f1:=[26,30,36,43]) 60 nH 3 (fun d:Nat=>um n k p (bJ n k t) d) (fun d=>[(2,lH (d+1) (vB k (bJ n k t) t d) fun _=>SB d),(0,tP t sK)])
  (fun d=>d<=p/\¬cw n k t) (fun d=>d=p/\¬cw n k t) (fun d=>p-d) (oZ zF nH (CE n k p t)) ⟨_,ah4,?_⟩ (fun d ⟨hd,hin⟩=>?_) (fun d ⟨hd,hin⟩=>?_) (fun v s' hv hs'=>hv.fin hs')
 ·simp only[ah.all,aA,xQ,bne_iff_ne,ne_eq,bne_eq_false_iff_eq,bh,bz,cond_false,aZ]
  refine⟨⟨aa,cz aY,aY,h,aa,hn⟩,fun hout=>?_,fun hin=>?_⟩
  ·have hout:cw n k t:=by
    unfold fe at hout
    by_cases ho:cw n k t
    ·exact ho
    ·rw[if_neg ho]at hout;exact absurd rfl hout
   refine⟨[.int .i64 0,.nil,.int .i64 7],?_,aeJ hout⟩
   unfold fe
   rw[if_pos hout]
   kernel_rfl
  ·have hin:¬cw n k t:=fun ho=>by unfold fe at hin;rw[if_pos ho]at hin;omega
   have hii:fH n k t=bJ n k t:=by unfold fH;rw[if_neg hin]
   have hv:=hiv hin
   simp only[hii,bh,bz]
   (repeat' with_reducible first|refine And.intro ?_ ?_|intro _)
   all_goals first|omega|(exfalso;omega)|exact absurd ‹false=true› (by decide)|exact absurd ‹true=false› (by decide)|skip
   refine⟨0,⟨aa,hin⟩,[(0,0),(2,131072)],rfl,rfl,rfl,bZ rfl rfl rfl (fun i hi=>?_) (aM trivial)⟩
   have:i=0:=aa
   subst this
   exact .inr ⟨rfl,bX rfl (by have:=v7 (d:=0);exact Nat.le_trans (by decide) this)⟩
 ·have hv:=hiv hin
  refine ay.rL hT ya hm (y:=uE) (x1:=sX) (zb:=part uE [1,1]) [1,0] (j:=1) ag ag ag ag hk (f1:=[48]) 60 nH 3 (fun _:Unit=>um n k p (bJ n k t) d) (fun _=>[(2,lH (d+1) (vB k (bJ n k t) t d) fun _=>SB d),(0,tP t sK)]) (fun _=>d+1<=p) ⟨_,akJ,?_⟩ (fun _ hd'=>?_)
  ·simp only[ah.all,aA,bh,bz]
   have re:ej [] ([ak 3 n fun i=>rat (k i) sK,int i64 p,ptr 0 0 3 0 [],int i64 (bJ n k t),own 2 3 0 (d+1),int i64 ((d+1:Nat):Int),int i64 0,nil,int i64 0],[(2,au.mk true true 3 (d+1) fun i=>rat (vB k (bJ n k t) t d i) (SB d)),((0:Nat),aQ fun x=>rat t sK)]) (um n k p (bJ n k t) d) [(2,lH (d+1) (vB k (bJ n k t) t d) fun _=>SB d),(0,tP t sK)] 3:=
    ⟨[(0,0),(2,2)],rfl,rfl,rfl,bZ rfl rfl rfl (fun i hi=>cQ rfl rfl) (aM trivial)⟩
   exact⟨fun h1=>⟨(),aa,re⟩,fun h1 s' hs'=>⟨rfl,d,⟨aa,hin⟩,re.le hs' hk⟩⟩
  refine ay.ni hT ya hm (x:=sX) (z:=part sX [1,1]) [1,0,1] (i:=2) (y:=part sX [1,0,1,0,0]) ag ag ag ag hk (f1:=[]) (f2:=[57]) 60 ye 4 (fun j:Nat=>Hg n k p (bJ n k t) d j)
   (fun j=>[(3,lH (d+2) (mV k (bJ n k t) t d j) (kE d j)),(2,lH (d+1) (vB k (bJ n k t) t d) fun _=>SB d),(0,tP t sK)]) (fun j=>j<=d+1) (fun j=>j=d+1) (fun j=>d+1-j) (fun _=>False) ⟨_,ajv,?_⟩ (fun j hj=>⟨_,ahS,?_⟩) (fun j hj=>?_) (fun _ _ h=>h.elim)
  ·simp only[ah.all,aA]
   rw[show(((d+1:Nat):Int)+1).toNat=d+2 by omega]
   refine⟨⟨aa,aa⟩,0,aa,[(0,0),(2,2),(3,8195)],rfl,rfl,rfl,bZ rfl rfl rfl (fun i hi=>?_) (bZ rfl rfl rfl (fun i hi=>cQ rfl rfl) (aM trivial))⟩
   refine .inr ⟨rfl,bX ?_ ?_⟩
   ·unfold mV xA;rw[if_neg aa];split<;>rfl
   ·unfold kE HB;rw[if_neg aa];split<;>omega
  ·have hF:=Fs
   have h1:=v7 (d:=d)
   have h2:=Ay (d:=d) aa
   have h3:=Ay (d:=d+1) aa
   have h5:sV=268435456:=rfl
   have s0:kE d j j=HB d:=by unfold kE;rw[if_neg aa,if_pos rfl]
   have s1:kE d j (j+1)=1:=by unfold kE;rw[if_neg aa,if_neg aa]
   have e0:((bJ n k t:Int)-((d+1:Nat):Int)+1+(j:Int)).toNat=bJ n k t-d+j:=aa
   have e1:((bJ n k t:Int)-((d+1:Nat):Int)+1+(j:Int)+((d+1:Nat):Int)).toNat=bJ n k t-d+j+(d+1):=aa
   have e2:((j:Int)+1).toNat=j+1:=aa
   simp only[ah.all,aA,bh,bz,aZ,Nat.add_zero,e0,e1,e2,aaD]
   have hjj:(j==j+1)=false:=by simp
   refine⟨fun h4=>?_,fun h4=>⟨rfl,j,aa,[(0,0),(2,2),(3,3)],rfl,rfl,rfl,bZ rfl rfl rfl (fun i hi=>cQ rfl rfl) (bZ rfl rfl rfl (fun i hi=>cQ rfl rfl) (aM trivial))⟩⟩
   (repeat' with_reducible refine And.intro ?_ ?_)
   all_goals first|omega|(rw[s1];omega)|(rw[hjj,cond_false,s0];unfold HB;omega)|skip
   refine⟨j+1,aa,by dsimp only;omega,[(0,0),(2,2),(3,3)],rfl,rfl,rfl,bZ rfl rfl rfl (fun x hx=>VS aa) (bZ rfl rfl rfl (fun i hi=>cQ rfl rfl) (aM trivial))⟩
  ·subst hj
   refine ay.tail (fun s' hh=>by have:=hh.1;omega) (aG.bB hT ya hm 60 nH aen ag ?_)
   simp only[ah.all,aA]
   refine⟨aa,fun s' hs'=>⟨d+1,⟨hd',hin⟩,by dsimp only;omega,ej.le ⟨[(0,0),(2,3)],rfl,rfl,rfl,bZ rfl rfl rfl (fun x hx=>?_) (aM trivial)⟩ hs' hk⟩⟩
   refine .inr ⟨rfl,bX ?_ ?_⟩
   ·unfold mV
    by_cases hlt:x<d+1
    ·rw[if_pos hlt]
    ·have:x=d+1:=aa
     subst this
     rw[if_neg aa,if_pos rfl,vB,if_neg (show¬d+1<=d by omega),Rat.add_zero];rfl
   ·have h1:=Eb (d:=d)
    have h2:=v7 (d:=d)
    have hF:=Fs
    show _<=SB (d+1)
    unfold kE HB
    split
    ·omega
    ·split<;>omega
 ·subst hd
  refine ay.m8 ((aG.fin hT ya hm 60 agi ag ?_).mono fun _ _ h=>.inl h)
  simp only[ah.all,aA]
  exact⟨by have:=hiv hin;omega,aeH hin fun j _=>gj (Ay hp6)⟩
theorem amW:aR P tF BE (az BE):=aS Proofs.Tryz.func93 ag ag ag
def TM:Spec:=cI T0 (fun a=>CE a.1.1 a.1.2 a.2.1.toNat a.2.2.1) fun a=>[Kn a.1.1 a.2.1.toNat a.1.2,0<=a.2.1,a.2.1<=6,a.1.1<2^40]
theorem acE:∀K args pre r,TM K args pre=some r->aD P D3 K args pre r:=cL fun⟨⟨n,k⟩,p,t,_⟩ K hn=>by
 obtain⟨h1,h2,h3,h4⟩:=hn
 have h3:p<=6:=h3
 have:=adf h1 (by simp only;omega) h4 K (t:=t)
 rw[Int.toNat_of_nonneg h2]at this
 exact this
def uj:Spec:=cI (kC (kL sK) (kC kI kN)) (fun a=>.int .i64 ((a.1.1:Int)-a.2.1-1)) fun a=>[a.1.1<2^40,-2^40<a.2.1,a.2.1<2^40]
theorem Yf {n:Nat} {k:Nat->Rat} {p:Int}:bS T [nG] [] 60 BE (az BE) ⟨aP 0 [ls k n,.int .i64 p],[],0⟩=
  let c3:Int:=(↑n:Int)-p;let c1:Int:=(2:Int)^63;let c2:Int:=c3-(1:Int);some (aj [-c1<=c3/\c3<c1,-c1<=c2/\c2<c1] (leaf ret [int i64 c2])):=ag
theorem yG:∀K args pre r,uj K args pre=some r->aD P tF K args pre r:=cL fun⟨⟨n,k⟩,p,_⟩ K hn=>by
 obtain⟨h1,h2,h3⟩:=hn
 have h3:p<2^40:=h3
 simp only at h1 h2
 refine bY (r:=aK (.int .i64 ((n:Int)-p-1)) []) hT (dg bC) hm amW rfl aW rfl 60 Yf (fun _=>?_) K []
 simp only[ah.all,aA]
 exact⟨aa,.refl _⟩
abbrev zO:au:=⟨false,true,3,1,fun _=>.rat 0 1⟩
theorem LB {n:Nat} {k:Nat->Rat} {t:Rat} (h:fe n k t≠0):cw n k t:=by
 unfold fe at h
 by_cases ho:cw n k t
 ·exact ho
 ·rw[if_neg ho]at h;exact absurd rfl h
theorem Nz {n:Nat} {k:Nat->Rat} {t:Rat} (h:fe n k t=0):¬cw n k t:=fun ho=>by unfold fe at h;rw[if_pos ho]at h;omega
theorem Kn.qN {n p:Nat} {k:Nat->Rat} (h:Kn n p k) {t:Rat} (hin:¬cw n k t):p<=bJ n k t/\bJ n k t+p+1<n:=by
 have h1:¬t<k 0:=fun h=>hin (.inl h)
 have h2:¬k (n-1)<t:=fun h=>hin (.inr h)
 exact(h.BB (by grind) (by grind)).2
def bu (k:Nat->Rat) (t:Rat):Nat->Nat
 |0=>0
 |i+1=>bu k t i+if k i=t then 1 else 0
def ij (k:Nat->Rat) (i:Nat):Prop:=i=0\/k i≠k (i-1)
instance {k:Nat->Rat} {i:Nat}:Decidable (ij k i):=inferInstanceAs (Decidable (i=0\/k i≠k (i-1)))
def cC (k:Nat->Rat):Nat->Nat
 |0=>0
 |i+1=>cC k i+if ij k i then 1 else 0
def eo (k:Nat->Rat):Nat->Nat->Rat
 |0=>fun _=>0
 |i+1=>if ij k i then mP (eo k i) (cC k i) (k i)else eo k i
theorem R3 {k:Nat->Rat} {t:Rat}:∀{n:Nat},bu k t n<=n
 |0=>Nat.le_refl _
 |n+1=>by
  have:=R3 (k:=k) (t:=t) (n:=n)
  unfold bu;split<;>omega
theorem sL {k:Nat->Rat}:∀{n:Nat},cC k n<=n
 |0=>Nat.le_refl _
 |n+1=>by
  have:=sL (k:=k) (n:=n)
  unfold cC;split<;>omega
theorem Ho {k:Nat->Rat}:∀{n j:Nat},j<cC k n->∃i,i<n/\eo k n j=k i
 |0,j,h=>by simp[cC]at h
 |n+1,j,h=>by
  rw[eo]
  rw[cC]at h
  by_cases hn:ij k n
  ·rw[if_pos hn]at h ⊢
   by_cases he:j=cC k n
   ·subst he;exact⟨n,by omega,wk⟩
   ·obtain⟨i,h1,h2⟩:=Ho (k:=k) (n:=n) (j:=j) (by omega)
    exact⟨i,by omega,by rw[m9 he];exact h2⟩
  ·rw[if_neg hn]at h ⊢
   obtain⟨i,h1,h2⟩:=Ho (k:=k) (n:=n) (j:=j) (by omega)
   exact⟨i,by omega,h2⟩
def tq (n:Nat) (k:Nat->Rat):Prop:=∀i,i+1<n->k i<=k (i+1)
def lE (n:Nat) (k:Nat->Rat) (p:Nat) (t:Rat):Prop:=((t=k 0\/t=k (n-1))/\bu k t n≠p+1)\/(¬(t=k 0\/t=k (n-1))/\p<bu k t n)
instance {n:Nat} {k:Nat->Rat} {p:Nat} {t:Rat}:Decidable (lE n k p t):=inferInstanceAs (Decidable (((t=k 0\/t=k (n-1))/\bu k t n≠p+1)\/(¬(t=k 0\/t=k (n-1))/\p<bu k t n)))
def tX (n:Nat) (k:Nat->Rat) (p:Nat):Prop:=tq n k/\k 0≠k (n-1)/\∀j,j<cC k n->¬lE n k p (eo k n j)
open Classical in
def iu (n:Nat) (k:Nat->Rat) (p:Int):Int:=
 if p<1\/6<p then 1 else if(n:Int)<2*p+2 then 5 else if 40<(n:Int)-p-1 then 2 else if tX n k p.toNat then 0 else 5
theorem MX {k:Nat->Rat} {t:Rat} {a b:Nat} (hab:a<=b):∀{n:Nat},(∀i,i<n->k i=t->a<=i/\i<b)->bu k t n<=min n b-min n a
 |0,_=>by simp[bu]
 |n+1,h=>by
  have ih:=MX (k:=k) (t:=t) hab (n:=n) fun i hi=>h i (by omega)
  rw[bu]
  split
  ·rename_i e
   have:=h n (by omega) e
   omega
  ·omega
theorem Ks {k:Nat->Rat} {t:Rat} {a b:Nat} (hab:a<=b):∀{n:Nat},(∀i,i<n->(k i=t↔a<=i/\i<b))->bu k t n=min n b-min n a
 |0,_=>by simp[bu]
 |n+1,h=>by
  have ih:=Ks (k:=k) (t:=t) hab (n:=n) fun i hi=>h i (by omega)
  rw[bu]
  have:=h n (by omega)
  split
  ·rename_i e
   have:=this.1 e
   omega
  ·rename_i e
   have:¬(a<=n/\n<b):=fun h=>e (this.2 h)
   omega
theorem least {q:Nat->Prop} [DecidablePred q]:∀{n:Nat},q n->∃a,a<=n/\q a/\∀i,i<a->¬q i
 |0,h=>⟨0,Nat.le_refl _,h,fun i hi=>by omega⟩
 |n+1,h=>by
  by_cases h2:∃i,i<n+1/\q i
  ·obtain⟨i,hi,hq⟩:=h2
   obtain⟨a,h3,h4,h5⟩:=least_lt hi hq
   exact⟨a,by omega,h4,h5⟩
  ·exact⟨n+1,Nat.le_refl _,h,fun i hi hq=>h2 ⟨i,hi,hq⟩⟩
where
 least_lt {q:Nat->Prop} [DecidablePred q]:∀{n i:Nat},i<n->q i->∃a,a<n/\q a/\∀i,i<a->¬q i
 |0,i,h,_=>by omega
 |n+1,i,h,hq=>by
  by_cases h2:∃j,j<n/\q j
  ·obtain⟨j,hj,hq⟩:=h2
   obtain⟨a,h3,h4,h5⟩:=least_lt hj hq
   exact⟨a,by omega,h4,h5⟩
  ·have:i=n:=by
    by_cases e:i=n
    ·exact e
    ·exact absurd ⟨i,by omega,hq⟩ h2
   subst this
   exact⟨i,h,hq,fun j hj hq=>h2 ⟨j,hj,hq⟩⟩
theorem Kn.tX {n p:Nat} {k:Nat->Rat} (h:Kn n p k):tX n k p:=by
 have hp:=h.p1
 have hl:=h.len
 have hw:k p<k (p+1):=by
  have:=h.mult 1 (by omega) (by omega)
  rw[h.first 1 (by omega),show 1+p=p+1 by omega]at this
  rw[h.first p (by omega)];exact this
 have hw2:k (n-p-2)<k (n-p-1):=by
  by_cases he:n=2*p+2
  ·have e1:n-p-2=p:=by omega
   have e2:n-p-1=p+1:=by omega
   rw[e1,e2];exact hw
  ·have:=h.mult (n-p-2) (by omega) (by omega)
   rw[h.last (n-p-2+p) (by omega) (by omega),<-h.last (n-p-1) (by omega) (by omega)]at this
   exact this
 have m:∀{i j},i<=j->j<n->k i<=k j:=fun hi hj=>fK h.sorted hi hj
 have h0l:k 0<k (n-1):=by
  have a:=m (i:=p+1) (j:=n-1) (by omega) (by omega)
  have b:=h.first p (Nat.le_refl _)
  grind
 refine⟨h.sorted,by grind,fun j hj=>?_⟩
 obtain⟨i,hi,e⟩:=Ho hj
 rw[e]
 unfold lE
 by_cases h0:k i=k 0
 ·have:bu k (k i) n=p+1:=by
   rw[Ks (a:=0) (b:=p+1) (by omega) (n:=n) fun x hx=>?_]
   ·omega
   ·rw[h0]
    constructor
    ·intro ex
     refine⟨by omega,?_⟩
     by_cases hx2:x<p+1
     ·exact hx2
     ·have:=m (i:=p+1) (j:=x) (by omega) hx
      have b:=h.first p (Nat.le_refl _)
      grind
    ·intro hx2;exact h.first x (by omega)
  rw[this]
  simp[h0]
 ·by_cases h1:k i=k (n-1)
  ·have:bu k (k i) n=p+1:=by
    rw[Ks (a:=n-p-1) (b:=n) (by omega) (n:=n) fun x hx=>?_]
    ·omega
    ·rw[h1]
     constructor
     ·intro ex
      refine⟨?_,hx⟩
      by_cases hx2:n-p-1<=x
      ·exact hx2
      ·have:=m (i:=x) (j:=n-p-2) (by omega) (by omega)
       have b:=h.last (n-p-1) (by omega) (by omega)
       grind
     ·intro hx2;exact h.last x (by omega) hx
   rw[this]
   simp[h1]
  ·obtain⟨a,ha,e,hlt⟩:=least (q:=fun x=>k x=k i) (n:=i) rfl
   have ha0:p<a:=by
    by_cases hx:p<a
    ·exact hx
    ·have:=h.first a (by omega)
     rw[this]at e;exact absurd e.symm h0
   have hal:a+p+1<n:=by
    by_cases hx:a+p+1<n
    ·exact hx
    ·have:=h.last a (by omega) (by omega)
     rw[this]at e;exact absurd e.symm h1
   have hm:=h.mult a (by omega) hal
   have:bu k (k i) n<=min n (a+p)-min n a:=by
    refine MX (by omega) fun x hx ex=>⟨?_,?_⟩
    ·by_cases hx2:a<=x
     ·exact hx2
     ·exact absurd ex (hlt x (by omega))
    ·by_cases hx2:x<a+p
     ·exact hx2
     ·have:=m (i:=a+p) (j:=x) (by omega) hx
      grind
   intro hb
   rcases hb with⟨h2,_⟩|⟨_,h2⟩
   ·exact h2.elim h0 h1
   ·omega
theorem Kn.Nu {n p:Nat} {k:Nat->Rat} (h:Kn n p k) (hp6:p<=6) (hn:n<=p+41):iu n k p=0:=by
 have hp:=h.p1
 have hl:=h.len
 unfold iu
 rw[if_neg (by omega),if_neg (by omega),if_neg (by omega),if_pos (by rw[Int.toNat_natCast];exact h.tX)]
def jo (k:Nat->Rat) (l i:Nat):Rat:=if i<cC k l then eo k l i else k i
theorem Jp {k:Nat->Rat}:∀{b:Nat},(∀i,i<b->ij k i)->cC k b=b/\∀i,i<b->eo k b i=k i
 |0,_=>⟨rfl,fun i hi=>by omega⟩
 |b+1,h=>by
  obtain⟨h1,h2⟩:=Jp (k:=k) (b:=b) fun i hi=>h i (by omega)
  rw[cC,eo,if_pos (h b (by omega)),if_pos (h b (by omega)),h1]
  refine⟨rfl,fun i hi=>?_⟩
  unfold mP
  split
  ·rename_i e;rw[e]
  ·exact h2 i (by omega)
theorem afT {k:Nat->Rat} {b:Nat} (h:∀i,i<b->ij k i) (hb:¬ij k b):cC k (b+1)=b/\∀i,jo k (b+1) i=k i:=by
 obtain⟨h1,h2⟩:=Jp h
 have e:cC k (b+1)=b:=by rw[cC,if_neg hb,h1];rfl
 refine⟨e,fun i=>?_⟩
 unfold jo
 rw[e,eo,if_neg hb]
 split
 ·exact h2 i ‹_›
 ·rfl
theorem PX {k:Nat->Rat} {n:Nat} (h:∀i,i<n->ij k i):cC k n=n/\∀i,i<n->eo k n i=k i:=Jp h
theorem adL {k:Nat->Rat} {l i:Nat} (h:ij k l) (hl:cC k l<=l):jo k (l+1) i=if i=cC k l then k l else jo k l i:=by
 unfold jo
 rw[cC,eo,if_pos h,if_pos h]
 unfold mP
 by_cases h1:i=cC k l
 ·subst h1
  rw[if_pos (by omega),if_pos rfl,if_pos rfl]
 ·rw[if_neg h1]
  by_cases h2:i<cC k l
  ·rw[if_pos (by omega),if_pos h2,if_neg h1]
  ·rw[if_neg (by omega),if_neg h2,if_neg h1]
theorem agm {k:Nat->Rat} {l i:Nat} (h:¬ij k l):cC k (l+1)=cC k l/\jo k (l+1) i=jo k l i:=by
 unfold jo
 rw[cC,eo,if_neg h,if_neg h]
 exact⟨rfl,rfl⟩
theorem aij {k:Nat->Rat} {l:Nat} (h:ij k l):cC k (l+1)=cC k l+1:=by rw[cC,if_pos h]
theorem M8 {k:Nat->Rat} {l:Nat} (h:¬ij k l):cC k (l+1)=cC k l:=by rw[cC,if_neg h];rfl
theorem P5 {k:Nat->Rat} {l i:Nat} (h:cC k l<=i):jo k l i=k i:=by unfold jo;rw[if_neg (by omega)]
theorem NH {k:Nat->Rat} {b:Nat} (hb:¬ij k b):∀{l:Nat},b<l->cC k l<l
 |0,h=>by omega
 |l+1,h=>by
  by_cases he:l=b
  ·subst he;rw[M8 hb];have:=sL (k:=k) (n:=l);omega
  ·have:=NH hb (l:=l) (by omega)
   have h2:=sL (k:=k) (n:=l)
   rw[cC];split<;>omega
open Classical in
theorem aid {n:Nat} {k:Nat->Rat} {p:Int} (h:p<1\/6<p):iu n k p=1:=if_pos h
theorem ai0 {n:Nat} {k:Nat->Rat} {p:Int} (h:¬(p<1\/6<p)) (h2:(n:Int)<2*p+2):iu n k p=5:=by unfold iu;rw[if_neg h,if_pos h2]
theorem acJ {n:Nat} {k:Nat->Rat} {p:Int} (h:¬(p<1\/6<p)) (h2:¬(n:Int)<2*p+2) (h3:40<(n:Int)-p-1):iu n k p=2:=by unfold iu;rw[if_neg h,if_neg h2,if_pos h3]
theorem aiM {n:Nat} {k:Nat->Rat} {p:Int} (h:¬(p<1\/6<p)) (h2:¬(n:Int)<2*p+2) (h3:¬40<(n:Int)-p-1) (h4:tX n k p.toNat):iu n k p=0:=by unfold iu;rw[if_neg h,if_neg h2,if_neg h3,if_pos h4]
theorem Lb {n:Nat} {k:Nat->Rat} {p:Int} (h:¬(p<1\/6<p)) (h2:¬(n:Int)<2*p+2) (h3:¬40<(n:Int)-p-1) (h4:¬tX n k p.toNat):iu n k p=5:=by unfold iu;rw[if_neg h,if_neg h2,if_neg h3,if_neg h4]
open Go Go.Am.N AV ah aq IntKind
theorem abP:aR P u9 B9 (az B9):=aS Proofs.Tryz.func81 ag ag ag
theorem HK:aR P sC FM (az FM):=aS Proofs.Tryz.func186 ag ag ag
abbrev zB:List Nat:=[3,5,8,9,10]
abbrev xu (n:Nat) (k:Nat->Rat) (c i:Nat):List AV:=[.ptr 0 0 3 0 [],.int .i64 c,ls k n,.int .i64 n,.int .i64 i]
abbrev Af:Code:=az B9
abbrev sJ:Nat:=4000
abbrev gI (m:Nat) (k:Nat->Rat):au:=⟨true,true,3,m,fun i=>.rat (k i) sK⟩
abbrev yE:List Nat:=[3,9,10,11]
abbrev It (n:Nat) (k:Nat->Rat) (i:Nat):List AV:=[.own 0 3 0 i,bD k n sJ,.int .i64 n,.int .i64 i]
abbrev ow:Code:=az FM
theorem ac0 {n:Nat} {k:Nat->Rat} {t:Rat}:aI T gJ [] 60 zB (before Af [1,1,0,1]) ⟨aP 0 [ls k n,.rat t sK],[],0⟩=
  some (leaf normal ([ptr 0 0 (bt (rat t sK)).size 0 [],int i64 0,ak 3 n fun i=>rat (k i) 4096,int i64 (↑n:Int),int i64 0],[(0,au.mk false true (bt (rat t sK)).size 1 fun x=>rat t 4096)])):=ag
theorem agp {n c i:Nat} {k:Nat->Rat} {t:Rat}:aI T gJ [11,16] 60 zB [part Af [1,1,0,1,0,0]] ⟨aE zB (xu n k c i),[(0,tP t sK)],1⟩=
  let c10:Int:=(↑n:Int);let c9:Prop:=0<1;let c8:Int:=(↑c:Int)+(1:Int);let c7:AV:=ak 3 n fun i=>rat (k i) 4096;let c5:Int:=(↑i:Int);let c4:AV:=ptr 0 0 3 0 [];let c2:Int:=(2:Int)^63;let c1:Nat×au:=((0:Nat),aQ fun x=>rat t 4096);let c6:Int:=c5+(1:Int);let c3:List AV:=[c7,int i64 c10,int i64 c6];some (fork (decide (c5<c10)) (aj [(0:Int)<=c5/\c5.toNat<n,c9] (aj [c9,c9] (fork (decide (k c5.toNat=t)) (aj [-c2<=c8/\c8<c2] (aj [-c2<=c6/\c6<c2] (leaf normal (c4::int i64 c8::c3,[c1])))) (aj [-c2<=c6/\c6<c2] (leaf normal (c4::int i64 (↑c:Int)::c3,[c1])))))) (leaf (exit 0) ([c4,int i64 (↑c:Int),c7,int i64 c10,int i64 c5],[c1]))):=ag
theorem afp {n c i:Nat} {k:Nat->Rat} {t:Rat}:cJ T gJ [] 60 B9 [part Af [1,1,1]] ⟨aE zB (xu n k c i),[(0,tP t sK)],1⟩=
  some (leaf ret [int i64 (↑c:Int)]):=ag
theorem VU {n:Nat} {k:Nat->Rat}:aI T gJ [] 60 yE (before ow [1,1,0,1]) ⟨aP 0 [bD k n sJ],[],0⟩=
  let c1:Int:=(↑n:Int);some (aj [(0:Int)<=(0:Int)/\(0:Int)<=c1/\c1<=(2:Int)^47/\c1*(↑(56:Nat):Int)<=(2:Int)^47] (leaf normal ([own 12288 3 0 0,ak 3 n fun i=>rat (k i) 4000,int i64 c1,int i64 0],[(12288,au.mk true true 3 0 fun x=>rat 0 1)]))):=ag
theorem agj {n i:Nat} {k:Nat->Rat}:aI T gJ [12] 60 yE [part ow [1,1,0,1,0,0]] ⟨aE yE (It n k i),[(0,gI i k)],1⟩=
  let c4:Int:=(↑n:Int);let c2:AV:=ak 3 n fun i=>rat (k i) 4000;let c1:Int:=(↑i:Int);let c3:Int:=c1+(1:Int);some (fork (decide (c1<c4)) (aj [(0:Int)<=c1/\c1.toNat<n,(0:Nat)<1] (aj [(0:Nat)<1,(1:Nat)*3<=2^24,(i+1)*((56:Nat)+1)*2<=2^47] (aj [-(2:Int)^63<=c3/\c3<(2:Int)^63] (leaf normal ([own 40961 3 0 (i+1),c2,int i64 c4,int i64 c3],[(40961,au.mk true true 3 (i+1) fun i_1=>if i_1<i then rat (k i_1) sK else nth [rat (k c1.toNat+0) (sJ+1+1)] (rat 0 1) (i_1-i+0))]))))) (leaf (exit 0) ([own 0 3 0 i,c2,int i64 c4,int i64 c1],[(0,au.mk true true 3 i fun i=>rat (k i) 4096)]))):=ag
theorem aii {n i:Nat} {k:Nat->Rat}:aI T gJ [] 60 [2] [part ow [1,1,1]] ⟨aE yE (It n k i),[(0,gI i k)],1⟩=
  some (leaf ret ([own 0 3 0 i],[(0,au.mk true true 3 i fun i=>rat (k i) 4096)])):=ag
theorem YQ {k:Nat->Rat} {t:Rat} {i:Nat} (h:k i=t):bu k t (i+1)=bu k t i+1:=by rw[bu,if_pos h]
theorem X2 {k:Nat->Rat} {t:Rat} {i:Nat} (h:¬k i=t):bu k t (i+1)=bu k t i:=by rw[bu,if_neg h];rfl
theorem ahn {n:Nat} {k:Nat->Rat} {t:Rat} (hn:n<2^40) (K:Nat):aD P u9 K [ls k n,.rat t sK] [] (aK (.int .i64 (bu k t n)) []):=by
 refine gV (r:=aK (.int .i64 (bu k t n)) []) hT lK hm abP rfl aW rfl [1,1,0,1] (i:=0) (y:=part Af [1,1,0,1,0,0]) (z:=part Af [1,1,1]) ag ag ag (f1:=[]) (f2:=[11,16]) (f3:=[]) 60 zB 1
  (fun i:Nat=>xu n k (bu k t i) i) (fun _=>[(0,tP t sK)]) (fun i=>i<=n) (fun i=>i=n) (fun i=>n-i) (fun _=>⟨⟨_,ac0,?_⟩,fun i hi=>⟨_,agp,?_⟩,fun i hi=>⟨_,afp,?_⟩⟩) K []
 ·simp only[ah.all,aA]
  exact⟨0,Nat.zero_le _,[(0,0)],rfl,rfl,rfl,aM trivial⟩
 ·have h1:=R3 (k:=k) (t:=t) (n:=i)
  simp only[ah.all,aA,bh,bz,aZ,Nat.add_zero]
  refine⟨fun h2=>⟨aa,aa,fun h3=>⟨aa,aa,i+1,aa,by dsimp only;omega,[(0,0)],rfl,?_,rfl,aM trivial⟩,fun h3=>⟨aa,i+1,aa,by dsimp only;omega,[(0,0)],rfl,?_,rfl,aM trivial⟩⟩,fun h2=>⟨rfl,i,aa,[(0,0)],rfl,rfl,rfl,aM trivial⟩⟩
  ·show _=(xu n k (bu k t (i+1)) (i+1)).map _
   rw[YQ h3];rfl
  ·show _=(xu n k (bu k t (i+1)) (i+1)).map _
   rw[X2 h3];rfl
 ·subst hi
  simp only[ah.all,aA]
  exact .refl _
abbrev Yk:sk ((Nat×(Nat->Rat))×Rat×Unit):=kC (kL sK) (kC (fL sK) kN)
def CN:Spec:=cI Yk (fun a=>.int .i64 (bu a.1.2 a.2.1 a.1.1)) fun a=>[a.1.1<2^40]
theorem J6:∀K args pre r,CN K args pre=some r->aD P u9 K args pre r:=cL fun⟨⟨n,k⟩,t,_⟩ K hn=>ahn hn K
theorem aeq {args:List AV} {n:Nat} {k:Nat->Rat} {l:List Prop} (ha:aA l->fR (bf []) args [bD k n sJ]) (hn:aA l->n<2^40) (K:Nat):aD P sC K args [] ⟨jF [.own K 3 0 n],[(K,gI n k)],l⟩:=by
 refine Pr hT HK ha aW fun need c hk=>?_
 have hn:=hn need
 refine ay.ni hT lK hm [1,1,0,1] (i:=0) (y:=part ow [1,1,0,1,0,0]) (z:=part ow [1,1,1]) ag ag ag HK.dst hk (f1:=[]) (f2:=[12]) 60 yE 1 (fun i:Nat=>It n k i) (fun i=>[(0,gI i k)])
  (fun i=>i<=n) (fun i=>i=n) (fun i=>n-i) (fun _=>False) ⟨_,VU,?_⟩ (fun i hi=>⟨_,agj,?_⟩) (fun i hi=>?_) (fun _ _ h=>h.elim)
 ·simp only[ah.all,aA]
  exact⟨aa,0,Nat.zero_le _,[(0,12288)],rfl,rfl,rfl,bZ rfl rfl rfl (fun i hi=>absurd hi (Nat.not_lt_zero i)) trivial⟩
 ·simp only[ah.all,aA,bh,bz,aZ,Nat.add_zero]
  exact⟨fun h2=>⟨aa,aa,aa,i+1,aa,by dsimp only;omega,[(0,40961)],rfl,rfl,rfl,bZ rfl rfl rfl (fun j hj=>pI (fun _ _=>rfl) (Rat.add_zero _) aY (by decide) hj) trivial⟩,fun h2=>⟨rfl,i,aa,[(0,0)],rfl,rfl,rfl,bZ rfl rfl rfl (fun j hj=>cQ rfl rfl) trivial⟩⟩
 ·subst hi
  refine ay.bB hT lK hm 60 [2] aii ag fun s' hs'=>⟨.inr rfl,[2],_,[.own 0 3 0 i],_,0,_,hs',ag,⟨⟨rfl,cT (by simp[bf,look]) rfl rfl⟩,trivial⟩,rfl,jE rfl fun i hi=>aL rfl⟩
def S9:Spec:=uO fun K l=>match l with
 |[v]=>match(kL sJ).read v with
  |some ((n,k),q)=>some ⟨.own K 3 0 n,[(K,gI n k)],q++[n<2^40]⟩
  |none=>none
 |_=>none
theorem Xt:∀K args pre r,S9 K args pre=some r->aD P sC K args pre r:=by
 refine C0 fun K args r hk hs=>?_
 split at hs
 ·rename_i v
  split at hs
  ·rename_i n k q hv
   simp only[ax]at hs
   subst hs
   exact aeq (fun hn=>Jh hk (by cases v<;>first|rfl|simp[kL,Bn]at hv) ⟨(kL sJ).ok hv (eu.1 hn).1,trivial⟩) (fun hn=>(eu (a:=q) (b:=[n<2^40]).1 hn).2) K
  ·simp at hs
 ·simp at hs
theorem SJ:aR P GW Kp (az Kp):=aS Proofs.Tryz.func185 ag ag ag
theorem aeQ:aR P Cm Ba (az Ba):=aS Proofs.Tryz.func86 ag ag ag
abbrev vt:Func:=Kp
abbrev zL:Code:=az vt
abbrev wF:Code:=part zL [1,1,0,1,0,0]
abbrev wv:Code:=part wF [1,0,0]
abbrev qB:Code:=part wv [1,0]
abbrev k9:List Nat:=[4,0,1,5]
abbrev xZ (n i:Nat):List AV:=[.nil,.own 0 3 0 n,.func gp [],.int .i64 i]
abbrev BV:List Nat:=[4,0,1,5,28]
abbrev JM (n i:Nat) (b:Bool):List AV:=[.nil,.own 0 3 0 n,.func gp [],.int .i64 i,.bool b]
abbrev xl:List Nat:=[4,0,1,5,6,7]
abbrev vU (n m b j:Nat):List AV:=[.nil,.own 0 3 0 n,.func gp [],.int .i64 m,.own 0 3 b (n-b),.int .i64 j]
theorem am5 {n:Nat} {k:Nat->Rat}:aI T gJ [10] 60 k9 (before zL [1,1,0,1]) ⟨aP 0 [.own 0 3 0 n,.func gp []],[(0,gI n k)],1⟩=
  let c2:Nat×au:=(0,au.mk true true 3 n fun i=>rat (k i) 4096);let c1:AV:=own 0 3 0 n;some (fork (decide ((↑n:Int)<(2:Int))) (leaf ret ([c1,c1,func gp [],tuple []],[c2])) (leaf normal ([nil,c1,func gp [],int i64 1],[c2]))):=ag
theorem ad3 {n i:Nat} {k:Nat->Rat}:aI T gJ [15] 60 k9 (before wF [1,0]) ⟨aE k9 (xZ n i),[(0,gI n k)],1⟩=
  let c1:List AV×aF:=([nil,own 0 3 0 n,func gp [],int i64 (↑i:Int)],[(0,au.mk true true 3 n fun i=>rat (k i) 4096)]);some (fork (decide ((↑i:Int)<(↑n:Int))) (leaf normal c1) (leaf (exit 0) c1)):=ag
theorem afl {n i:Nat} {k:Nat->Rat}:aI T gJ [] 60 BV (before wv [1]) ⟨aE k9 (xZ n i),[(0,gI n k)],1⟩=
  let c4:Int:=(↑i:Int);let c2:Nat:=c4.toNat+0;let c1:Int:=c4-(1:Int);let c3:Nat:=c1.toNat+0;some (aj [(0:Int)<=c4/\c4.toNat<n,c2<n,-(2:Int)^63<=c1/\c1<(2:Int)^63,(0:Int)<=c1/\c1.toNat<n,c3<n] (leaf normal ([nil,own 0 3 0 n,func gp [],int i64 c4,AV.bool (decide (k c2=k c3))],[(0,au.mk true true 3 n fun i=>rat (k i) 4096)]))):=ag
theorem af7 {n i:Nat} {b:Bool} {k:Nat->Rat}:aI T gJ [] 60 xl (before qB [1,0,1]) ⟨aE BV (JM n i b),[(0,gI n k)],1⟩=
  let c2:Int:=(↑i:Int);let c1:Int:=(↑n:Int);some (aj [(0:Int)<=c2/\c2<=c1/\c1<=c1/\c1<=c1] (leaf normal ([nil,own 0 3 0 n,func gp [],int i64 c2,own 0 3 ((0:Nat)+c2.toNat) (c1.toNat-c2.toNat),int i64 1],[(0,au.mk true true 3 n fun i=>rat (k i) 4096)]))):=ag
theorem Xi {n m b j:Nat} {k:Nat->Rat}:aI T gJ [35,49] 60 xl [part qB [1,0,1,0,0]] ⟨aE xl (vU n m b j),[(0,gI n k)],1⟩=
  let c11:AV:=func gp [];let c7:AV:=own 0 3 b (n-b);let c6:Nat×au:=(0,au.mk true true 3 n fun i=>rat (k i) 4096);let c5:Int:=(↑m:Int);let c4:AV:=own 0 3 0 n;let c2:Int:=(2:Int)^63;let c1:Int:=(↑j:Int);let c13:Int:=c5+(1:Int);let c12:Prop:=(0:Int)<=c1/\c1.toNat<n-b;let c10:Nat:=c5.toNat+0;let c9:Nat:=c1.toNat+b;let c8:Int:=c1+(1:Int);let c3:Int:=c1-(1:Int);some (fork (decide (c1<(↑(n-b):Int))) (aj [c12,c9<n,-c2<=c3/\c3<c2,(0:Int)<=c3/\c3.toNat<n-b,c3.toNat+b<n] (fork (!decide (k c9=k (c3.toNat+b))) (aj [c12,c9<n,(0:Int)<=c5/\c5.toNat<n,c10<n] (aj [-c2<=c13/\c13<c2] (aj [-c2<=c8/\c8<c2] (leaf normal ([nil,c4,c11,int i64 c13,c7,int i64 c8],[(0,au.mk true true 3 n fun j=>rat (bif j==c10 then k c9 else k j) (bif j==c10 then sK else sK))]))))) (aj [-c2<=c8/\c8<c2] (leaf normal ([nil,c4,c11,int i64 c5,c7,int i64 c8],[c6]))))) (leaf (exit 2) ([nil,c4,c11,int i64 c5,c7,int i64 c1],[c6]))):=ag
theorem adk {n m b j:Nat} {k:Nat->Rat}:aI T gJ [] 60 k9 [part qB [1,1]] ⟨aE xl (vU n m b j),[(0,gI n k)],1⟩=
  let c4:Int:=(↑n:Int);let c2:Int:=(↑m:Int);let c3:Nat:=0+c2.toNat;let c1:Nat:=c3+(c4.toNat-c2.toNat);some (aj [(0:Int)<=c2/\c2<=c4/\c4<=c4/\c4<=c4] (aj [(0:Int)<=(0:Int)/\(0:Int)<=c2/\c2<=c2/\c2<=c4] (leaf ret ([own 0 3 0 (c2.toNat-Int.toNat (0:Int)),own 0 3 0 n,func gp [],int i64 c2],[(0,au.mk true true 3 n fun i=>if c3<=i/\i<c1 then rat 0 1 else rat (k i) sK)])))):=ag
theorem Zn {n i:Nat} {b:Bool} {k:Nat->Rat}:aI T gJ [] 60 k9 [part wv [1,1],part wF [1,1]] ⟨aE BV (JM n i b),[(0,gI n k)],1⟩=
  let c1:Int:=(↑i:Int)+(1:Int);some (aj [-(2:Int)^63<=c1/\c1<(2:Int)^63] (leaf normal ([nil,own 0 3 0 n,func gp [],int i64 c1],[(0,au.mk true true 3 n fun i=>rat (k i) 4096)]))):=ag
theorem ahH {n i:Nat} {k:Nat->Rat}:aI T gJ [] 60 k9 [part zL [1,1,1]] ⟨aE k9 (xZ n i),[(0,gI n k)],1⟩=
  let c1:AV:=own 0 3 0 n;some (leaf ret ([c1,c1,func gp [],int i64 (↑i:Int)],[(0,au.mk true true 3 n fun i=>rat (k i) 4096)])):=ag
def mH (k:Nat->Rat) (n i:Nat):Rat:=if i<cC k n then eo k n i else 0
theorem ZN {k:Nat->Rat} {n:Nat} (h:∀j,j<n->ij k j) {i:Nat} (hi:i<n):cC k n=n/\mH k n i=k i:=by
 obtain⟨h1,h2⟩:=PX h
 unfold mH
 rw[h1,if_pos hi]
 exact⟨rfl,h2 i hi⟩
theorem abt {kk n:Nat} {k:Nat->Rat} (hn:n<2^40) (c:Ctx) (hk:Kept [0] c):ay P c vt.ntmps zL ⟨aP 0 [.own 0 3 0 n,.func gp []],[(0,gI n k)],1⟩ (K5 vt kk [.own kk 3 0 (cC k n)] (gI n (mH k n))):=by
 have hall:∀{L:List Nat} {us:List AV},(∀j,j<n->ij k j)->mM (aE L us) vt.results.toList=some [.own 0 3 0 n]->B0 vt kk [.own kk 3 0 (cC k n)] (gI n (mH k n)) L (us,[(0,gI n k)]):=fun h1 h2=>
  ⟨_,_,h2,⟨⟨rfl,cT (by simp[bf,look]) rfl (PX h1).1.symm⟩,trivial⟩,qm,rfl,rfl,rfl,rfl,fun i hi=>by
   show gP _ (.rat (k i) sK) (.rat (mH k n i) sK)
   rw[(ZN h1 hi).2];exact aL rfl⟩
 refine ay.yS hT lK hm [1,1,0,1] (i:=0) (y:=wF) (z:=part zL [1,1,1]) ag ag ag SJ.dst hk (f1:=[10]) 60 k9 1 (fun i:Nat=>xZ n i) (fun _=>[(0,gI n k)]) (fun i=>1<=i/\i<=n/\∀j,j<i->ij k j) (fun i=>i=n/\∀j,j<n->ij k j) (fun i=>n-i)
  (B0 vt kk [.own kk 3 0 (cC k n)] (gI n (mH k n)) k9) ⟨_,am5,?_⟩ (fun i ⟨h1,h2,h3⟩=>?_) (fun i ⟨h1,h2⟩=>?_) (fun v s' hv hs'=>hv.fin hs')
 ·simp only[ah.all,aA,bh,bz]
  exact⟨fun h=>hall (fun j hj=>.inl aa) ag,fun h=>⟨1,⟨aa,aa,fun j hj=>.inl aa⟩,[(0,0)],rfl,rfl,rfl,bZ rfl rfl rfl (fun x hx=>cQ rfl rfl) trivial⟩⟩
 ·refine ay.rL hT lK hm (y:=wF) (x1:=wv) (zb:=part wF [1,1]) [1,0] (j:=1) ag ag ag ag hk (f1:=[15]) 60 k9 1 (fun _:Unit=>xZ n i) (fun _=>[(0,gI n k)]) (fun _=>i<n) ⟨_,ad3,?_⟩ (fun _ hlt=>?_)
  ·simp only[ah.all,aA,bh,bz]
   exact⟨fun h=>⟨(),aa,[(0,0)],rfl,rfl,rfl,bZ rfl rfl rfl (fun x hx=>cQ rfl rfl) trivial⟩,fun h s' hs'=>⟨rfl,i,⟨aa,fun j hj=>h3 j aa⟩,ej.le ⟨[(0,0)],rfl,rfl,rfl,bZ rfl rfl rfl (fun x hx=>cQ rfl rfl) trivial⟩ hs' hk⟩⟩
  refine ay.branch hT lK hm (x:=wv) (u:=qB) (v:=part wv [1,1]) (b:=.tmp 28) [1] ag ag ag ag hk (f1:=[]) 60 BV 1 (fun _:Unit=>JM n i (decide (k i=k (i-1)))) (fun _=>[(0,gI n k)]) (fun _=>True) ⟨_,afl,?_⟩ (fun _ _=>⟨decide (k i=k (i-1)),rfl,fun hb=>?_,fun hb=>?_⟩)
  ·simp only[ah.all,aA]
   simp only[aZ,Nat.add_zero,show((i:Int)-1).toNat=i-1 by omega]
   exact⟨⟨⟨aa,aa⟩,aa,aa,⟨aa,aa⟩,aa⟩,(),trivial,[(0,0)],rfl,rfl,rfl,bZ rfl rfl rfl (fun x hx=>cQ rfl rfl) trivial⟩
  ·have hold:¬ij k i:=fun h=>by
    rcases h with h|h
    ·omega
    ·exact h (of_decide_eq_true hb)
   obtain⟨s1,s2⟩:=afT h3 hold
   refine ay.x8 hT lK hm (x:=qB) [1,0,1] (i:=2) (y:=part qB [1,0,1,0,0]) ag ag ag hk (f1:=[]) (f2:=[35,49]) 60 xl 1 (fun j:Nat=>vU n (cC k (i+j)) i j) (fun j=>[(0,gI n (jo k (i+j)))]) (fun j=>1<=j/\i+j<=n) (fun j=>i+j=n) (fun j=>n-j) (fun _=>False) ⟨_,af7,?_⟩ (fun j ⟨j1,j2⟩=>⟨_,Xi,?_⟩) (fun j s' hj hle=>?_) (fun _ _ h=>h.elim)
   ·simp only[ah.all,aA]
    simp only[aZ,Nat.zero_add]
    refine⟨aa,1,⟨aa,aa⟩,[(0,0)],rfl,?_,rfl,bZ rfl rfl rfl (fun x hx=>cQ rfl ?_) trivial⟩
    ·show _=(vU n (cC k (i+1)) i 1).map _
     rw[s1];rfl
    ·rw[s2]
   ·simp only[ah.all,aA,bh,bz]
    have hd:=NH hold (l:=i+j) aa
    have e1:jo k (i+j) (j+i)=k (i+j):=by rw[Nat.add_comm j i];exact P5 aa
    have e2:jo k (i+j) (((j:Int)-1).toNat+i)=k (i+j-1):=by rw[show((j:Int)-1).toNat+i=i+j-1 by omega];exact P5 aa
    simp only[aZ,Nat.add_zero,e1,e2,Bool.not_eq_true',Bool.not_eq_false',bh,bz]
    refine⟨fun h=>⟨aa,fun hne=>⟨aa,aa,aa,j+1,aa,by dsimp only;omega,[(0,0)],rfl,?_,rfl,bZ rfl rfl rfl (fun x hx=>?_) trivial⟩,fun heq=>⟨aa,j+1,aa,by dsimp only;omega,[(0,0)],rfl,?_,rfl,bZ rfl rfl rfl (fun x hx=>?_) trivial⟩⟩,fun h=>⟨rfl,j,aa,[(0,0)],rfl,rfl,rfl,bZ rfl rfl rfl (fun x hx=>cQ rfl rfl) trivial⟩⟩
    ·show _=(vU n (cC k (i+j+1)) i (j+1)).map _
     rw[aij (l:=i+j) (.inr hne)];rfl
    ·refine .inr ⟨rfl,bX ?_ (by cases (x==cC k (i+j))<;>exact Nat.le_refl _)⟩
     show _=jo k (i+j+1) x
     rw[adL (.inr hne) aa]
     by_cases hx2:x=cC k (i+j)
     ·subst hx2;simp
     ·have:(x==cC k (i+j))=false:=by simpa using hx2
      rw[this,if_neg hx2];rfl
    ·have hold2:¬ij k (i+j):=fun h=>by
      rcases h with h|h
      ·omega
      ·exact h heq
     show _=(vU n (cC k (i+j+1)) i (j+1)).map _
     rw[M8 hold2];rfl
    ·have hold2:¬ij k (i+j):=fun h=>by
      rcases h with h|h
      ·omega
      ·exact h heq
     exact cQ rfl (by show _=AV.rat (jo k (i+j+1) x) sK;rw[(agm hold2).2])
   ·rw[show behind qB [1,0,1]=[part qB [1,1]]from by kernel_rfl]
    refine aG.weak rfl hle (aG.bB hT lK hm 60 k9 adk ag ?_)
    simp only[ah.all,aA]
    rw[hj]
    have hd:=sL (k:=k) (n:=n)
    simp only[aZ,Nat.zero_add]
    refine⟨aa,aa,fun s' hs'=>⟨_,⟨[.own 0 3 0 (cC k n)],⟨true,true,3,n,fun i=>if cC k n<=i/\i<cC k n+(n-cC k n)then .rat 0 1 else .rat (jo k n i) sK⟩,ag,⟨⟨rfl,cT (by simp[bf,look]) rfl rfl⟩,trivial⟩,rfl,⟨rfl,rfl,rfl,rfl,fun x hx=>?_⟩⟩,hs'⟩⟩
    have hx:x<n:=hx
    refine nk (uV rfl rfl) ?_
    show bF (if _ then _ else _) (.rat (mH k n x) sK)
    unfold mH
    by_cases h:x<cC k n
    ·rw[if_neg aa,if_pos h]
     exact dL (by unfold jo;rw[if_pos h])
    ·rw[if_pos aa,if_neg h]
     exact gj (by decide)
  ·have hnew:ij k i:=.inr (of_decide_eq_false hb)
   refine ay.tail (fun s' hh=>by have:=hh.1;omega) (aG.bB hT lK hm 60 k9 Zn ag ?_)
   simp only[ah.all,aA]
   refine⟨aa,fun s' hs'=>⟨i+1,⟨aa,aa,fun j hj=>?_⟩,by dsimp only;omega,ej.le ⟨[(0,0)],rfl,rfl,rfl,bZ rfl rfl rfl (fun x hx=>cQ rfl rfl) trivial⟩ hs' hk⟩⟩
   by_cases he:j=i
   ·subst he;exact hnew
   ·exact h3 j aa
 ·subst h1
  refine ay.bB hT lK hm 60 k9 ahH ag ?_
  simp only[ah.all,aA]
  exact fun s' hs'=>(hall h2 ag).fin hs'
def G3 (f:Nat->AV) (n s:Nat):Prop:=∀i,i<n->keys (f i)=[]/\bF (f i) (.rat (aV (f i)) s)
theorem ala {k:Nat->Rat} {n s s':Nat} (h:s<=s'):G3 (fun i=>.rat (k i) s) n s':=fun _ _=>⟨rfl,gj h⟩
def Iw:Spec:=fun _ args pre=>match args,pre with
 |[.own k 3 0 n,.func g []],[(k',⟨true,true,3,m,f⟩)]=>match Nat.beq g gp&&k'==k with
  |true=>some ⟨jF [.own k 3 0 (cC (fun i=>aV (f i)) n)],[(k,gI n (mH (fun i=>aV (f i)) n))],[m=n,G3 f n sK,n<2^40]⟩
  |false=>none
 |_,_=>none
theorem Zw:∀K args pre r,Iw K args pre=some r->aD P GW K args pre r:=by
 intro K args pre r h
 unfold Iw at h
 split at h
 ·rename_i k n g k' m f
  split at h
  ·rename_i hc
   simp only[Bool.and_eq_true,beq_iff_eq]at hc
   obtain⟨h1,h2⟩:=hc
   have h1:=Nat.eq_of_beq_eq_true h1
   subst h1 h2
   simp only[ax]at h
   subst h
   intro need
   have h0:=need
   obtain⟨rfl,n1,n2⟩:=need
   exact aa3 hT SJ (rest:=[.func gp []]) (o2:=⟨true,true,3,m,f⟩) (o:=gI m fun i=>aV (f i)) rfl rfl aW (fun ρ=>⟨rfl,rfl,rfl,rfl,fun i hi=>nk (n1 i hi).1 (n1 i hi).2⟩) (fun _ c hk=>abt n2 c hk) K h0
  ·simp at h
 ·simp at h
theorem aew:aR P A6 Cd (az Cd):=aS Proofs.Tryz.func197 ag ag ag
abbrev xy:Code:=az Cd
abbrev wO:List Nat:=[4,0,1,5]
abbrev Ji (n:Nat) (k:Nat->Rat) (i:Nat):List AV:=[.bool false,ls k n,.func lT [],.int .i64 ((i:Int)-1)]
def Od:aX:=[(sC,S9),(GW,Iw)]
theorem ai6 {n:Nat} {k:Nat->Rat}:aI T gJ [] 60 wO (before xy [1,0,1]) ⟨aP 0 [ls k n,.func lT []],[],0⟩=
  let c1:Int:=(↑n:Int)-(1:Int);some (aj [-(2:Int)^63<=c1/\c1<(2:Int)^63] (leaf normal ([AV.bool false,ak 3 n fun i=>rat (k i) 4096,func lT [],int i64 c1],[]))):=ag
theorem Up {n i:Nat} {k:Nat->Rat}:aI T gJ [10,24] 60 wO [part xy [1,0,1,0,0]] ⟨aE wO (Ji n k i),[],1⟩=
  let c5:AV:=ak 3 n fun i=>rat (k i) 4096;let c4:Int:=(2:Int)^63;let c1:Int:=(↑i:Int)-(1:Int);let c3:List AV:=[AV.bool false,c5,func lT [],int i64 c1];let c2:Int:=c1-(1:Int);let c6:Int:=e9 (k c1.toNat) (k c2.toNat);some (fork (decide (c1>(0:Int))) (aj [(0:Int)<=c1/\c1.toNat<n,-c4<=c2/\c2<c4,(0:Int)<=c2/\c2.toNat<n] (fork (decide (c6<(0:Int))) (leaf ret (c3,[])) (aj [-c4<=c2/\c2<c4] (leaf normal ([AV.bool false,c5,func lT [],int i64 c2],[]))))) (leaf (exit 0) (c3,[]))):=ag
theorem UF {n i:Nat} {k:Nat->Rat}:cJ T gJ [] 60 Cd [part xy [1,1]] ⟨aE wO (Ji n k i),[],1⟩=
  some (leaf ret [AV.bool true]):=ag
theorem alk {n:Nat} {k:Nat->Rat}:bS T Od [] 60 Ba (az Ba) ⟨aP 0 [bD k n sJ],[],0⟩=
  let c1:Prop:=n<2^40;some (aj [bT (fun i=>rat (k i) sJ) n sJ,c1,n=n,G3 (fun i=>rat (aV (rat (k i) sJ)) sK) n sK,c1] (leaf ret [ak 3 (cC (fun i=>aV (rat (aV (rat (k i) sJ)) sK)) n) fun i=>rat (mH (fun i=>aV (rat (aV (rat (k i) sJ)) sK)) n (i+0)) 4096])):=ag
def kF (g:FuncId):Kind Unit:=⟨fun v=>match v with
 |.func f []=>match Nat.beq f g with
  |true=>some ((),[])
  |false=>none
 |_=>none,fun _=>.func g [],fun {v a q} h _=>by
  split at h
  ·split at h
   ·rename_i hb
    rw[Nat.eq_of_beq_eq_true hb];exact .refl _
   ·simp at h
  ·simp at h⟩
def qQ (p:Prop):Bool:=@decide p (Classical.propDecidable p)
theorem XA {p:Prop} (h:p):qQ p=true:=@decide_eq_true p (Classical.propDecidable p) h
theorem alK {p:Prop} (h:¬p):qQ p=false:=@decide_eq_false p (Classical.propDecidable p) h
theorem adC {p:Prop} (h:qQ p=true):p:=@of_decide_eq_true p (Classical.propDecidable p) h
theorem alX {p:Prop} (h:qQ p=false):¬p:=@of_decide_eq_false p (Classical.propDecidable p) h
theorem U5 {n:Nat} {k:Nat->Rat} (hn:n<2^40) (K:Nat):aD P A6 K [ls k n,.func lT []] [] (aK (.bool (qQ (tq n k))) []):=by
 refine gV (r:=aK (.bool (qQ (tq n k))) []) hT lK hm aew rfl aW rfl [1,0,1] (i:=0) (y:=part xy [1,0,1,0,0]) (z:=part xy [1,1]) ag ag ag (f1:=[]) (f2:=[10,24]) (f3:=[]) 60 wO 1
  (fun i:Nat=>Ji n k i) (fun _=>[]) (fun i=>i<=n/\∀j,i<=j+1->j+1<n->k j<=k (j+1)) (fun _=>tq n k) (fun i=>i) (fun _=>⟨⟨_,ai6,?_⟩,fun i ⟨h1,h2⟩=>⟨_,Up,?_⟩,fun i hi=>⟨_,UF,?_⟩⟩) K []
 ·simp only[ah.all,aA]
  exact⟨aa,n,⟨aY,fun j h1 h2=>aa⟩,ej.vals rfl⟩
 ·simp only[ah.all,aA,bh,bz,pT]
  refine⟨fun h=>⟨aa,fun hlt=>⟨[.bool false],ag,gA ?_⟩,fun hle=>⟨aa,i-1,⟨aa,fun j g1 g2=>?_⟩,by dsimp only;omega,[],rfl,?_,rfl,trivial⟩⟩,fun h=>⟨rfl,i,fun j hj=>h2 j aa hj,[],rfl,rfl,rfl,trivial⟩⟩
  ·refine(alK fun hs=>?_).symm
   have:=hs (i-2) aa
   rw[show((i:Int)-1).toNat=i-2+1 by omega,show((i:Int)-1-1).toNat=i-2 by omega]at hlt
   grind
  ·by_cases he:j+2=i
   ·rw[show((i:Int)-1).toNat=j+1 by omega,show((i:Int)-1-1).toNat=j by omega]at hle
    grind
   ·exact h2 j aa g2
  ·show _=[_,_,_,AV.int .i64 (((i-1:Nat):Int)-1)]
   rw[show((i-1:Nat):Int)-1=(i:Int)-1-1 by omega];rfl
 ·simp only[ah.all,aA]
  exact gA (XA hi).symm
def Nv:Spec:=cI (kC (kL sK) (kC (kF lT) kN)) (fun a=>.bool (qQ (tq a.1.1 a.1.2))) fun a=>[a.1.1<2^40]
theorem abF:∀K args pre r,Nv K args pre=some r->aD P A6 K args pre r:=cL fun⟨⟨n,k⟩,_,_⟩ K hn=>U5 hn K
def Gk:Spec:=cI (kC (kL sJ) kN) (fun a=>ls (eo a.1.2 a.1.1) (cC a.1.2 a.1.1)) fun a=>[a.1.1<2^40]
theorem aaA:bq P Od:=aH Xt (aH Zw bC)
theorem Q6:∀K args pre r,Gk K args pre=some r->aD P Cm K args pre r:=cL fun⟨⟨n,k⟩,_⟩ K hn=>by
 have hn:n<2^40:=hn
 refine bY (r:=aK (ls (eo k n) (cC k n)) []) hT aaA hm aeQ rfl aW rfl 60 alk (fun _=>?_) K []
 simp only[ah.all,aA]
 exact⟨⟨cz aY,hn,trivial,ala aY,hn⟩,oQ rfl fun i hi=>by
  show AV.rat (mH k n (i+0)) sK=_
  have hi:i<cC k n:=hi
  rw[Nat.add_zero];unfold mH;rw[if_pos hi]⟩
end Go.Am.B
